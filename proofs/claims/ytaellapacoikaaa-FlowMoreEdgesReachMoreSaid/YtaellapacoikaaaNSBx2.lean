import Derived.Test.YtaellapacoikaaaN0
import Derived.Test.YtaellapacoikaaaNSBx0
import Derived.Test.YtaellapacoikaaaNSBx1
namespace Go.Proofs.Ytaellapacoikaaa.PB
open Go.RowKit Go.Proofs.YtaellapacoikaaaW.PrintWords Go.Proofs.YtaellapacoikaaaW.PrintLast Go.Proofs.YtaellapacoikaaaW.PrintMore
attribute [local go_sem] max2_int min2_int max_two min_two max_three min_three max_four min_four   -- for this text's walks alone
set_option linter.unusedVariables false
set_option linter.unusedSimpArgs false

attribute [local go_sem high] eqA28
/-! ### flow_Validate: function 28 -/
set_option maxRecDepth 100000 in
mutual
def flow_Validate.l0 : Nat → List (S62) → Int → List (S62) → Int → Int → Option (Int × Int)
 | 0, _, _, _, _, _ => none
 | k + 1, x0, x3, x12, x13, x14 => if x14 < x13 then (if 0 ≤ x14 then (if x14 < (x12.length : Int) then (if (wrap64 (x3 + (((rd_T62 x12 x14).f3).length : Int))) > 300 then (some (2, x14)) else (flow_Validate.l1 k x0 (wrap64 (x3 + (((rd_T62 x12 x14).f3).length : Int))) x14 x12 x13 x14 ((rd_T62 x12 x14).f3) (((rd_T62 x12 x14).f3).length : Int) 0)) else (none)) else (none)) else (some (0, 0))
def flow_Validate.l1 : Nat → List (S62) → Int → Int → List (S62) → Int → Int → List (S64) → Int → Int → Option (Int × Int)
 | 0, _, _, _, _, _, _, _, _, _ => none
 | k + 1, x0, x3, x4, x12, x13, x14, x29, x30, x31 => if x31 < x30 then (if 0 ≤ x31 then (if x31 < (x29.length : Int) then (if ((rd_T64 x29 x31).f0) < 1 then (flow_Validate.j2 k x0 x3 x4 x12 x13 x14 x29 x30 x31 true ((rd_T64 x29 x31).f0) ((rd_T64 x29 x31).f1)) else (flow_Validate.j2 k x0 x3 x4 x12 x13 x14 x29 x30 x31 (decide (((rd_T64 x29 x31).f0) > 3)) ((rd_T64 x29 x31).f0) ((rd_T64 x29 x31).f1))) else (none)) else (none)) else (flow_Validate.l0 k x0 x3 x12 x13 (wrap64 (x14 + 1)))
def flow_Validate.j2 : Nat → List (S62) → Int → Int → List (S62) → Int → Int → List (S64) → Int → Int → Bool → Int → Int → Option (Int × Int)
 | 0, _, _, _, _, _, _, _, _, _, _, _, _ => none
 | k + 1, x0, x3, x4, x12, x13, x14, x29, x30, x31, x35, x106000, x106001 => if x35 = true then (some (4, x4)) else (if x106001 < (-1) then (some (3, x4)) else (if x106001 ≥ (x0.length : Int) then (some (3, x4)) else (flow_Validate.l1 k x0 x3 x4 x12 x13 x14 x29 x30 (wrap64 (x31 + 1)))))
end
set_option maxRecDepth 100000 in
def flow_Validate.f (k : Nat) (l0 : List (S62)) : Option (Int × Int) := if (l0.length : Int) > 100 then (some (2, (-1))) else (flow_Validate.l0 k l0 0 l0 (l0.length : Int) 0)
set_option maxRecDepth 100000 in
theorem flow_Validate.mono_l : ∀ k, (∀ y0 y1 y2 y3 y4, LeO (flow_Validate.l0 k y0 y1 y2 y3 y4) (flow_Validate.l0 (k + 1) y0 y1 y2 y3 y4)) ∧ (∀ y0 y1 y2 y3 y4 y5 y6 y7 y8, LeO (flow_Validate.l1 k y0 y1 y2 y3 y4 y5 y6 y7 y8) (flow_Validate.l1 (k + 1) y0 y1 y2 y3 y4 y5 y6 y7 y8)) ∧ (∀ y0 y1 y2 y3 y4 y5 y6 y7 y8 y9 y10 y11, LeO (flow_Validate.j2 k y0 y1 y2 y3 y4 y5 y6 y7 y8 y9 y10 y11) (flow_Validate.j2 (k + 1) y0 y1 y2 y3 y4 y5 y6 y7 y8 y9 y10 y11))
 | 0 => ⟨fun _ _ _ _ _ r h => by simp [flow_Validate.l0] at h, fun _ _ _ _ _ _ _ _ _ r h => by simp [flow_Validate.l1] at h, fun _ _ _ _ _ _ _ _ _ _ _ _ r h => by simp [flow_Validate.j2] at h⟩
 | k + 1 => by
  obtain ⟨ih0, ih1, ih2⟩ := flow_Validate.mono_l k
  refine ⟨?_, ?_, ?_⟩
  ·
   intro y0 y1 y2 y3 y4
   unfold flow_Validate.l0
   repeat' first
   | (with_reducible exact ih0 _ _ _ _ _)
   | (with_reducible exact ih1 _ _ _ _ _ _ _ _ _)
   | (with_reducible exact ih2 _ _ _ _ _ _ _ _ _ _ _ _)
   | (with_reducible exact LeO.refl _)
   | (with_reducible exact LeO.none _)
   | (with_reducible refine LeO.ite ?_ ?_)
   | (with_reducible refine LeO.bind ?_ (fun _ => ?_))
   | exact ih0 _ _ _ _ _
   | exact ih1 _ _ _ _ _ _ _ _ _
   | exact ih2 _ _ _ _ _ _ _ _ _ _ _ _
   | exact LeO.none _
   | refine LeO.ite ?_ ?_
   | refine LeO.bind ?_ (fun _ => ?_)
  ·
   intro y0 y1 y2 y3 y4 y5 y6 y7 y8
   unfold flow_Validate.l1
   repeat' first
   | (with_reducible exact ih0 _ _ _ _ _)
   | (with_reducible exact ih1 _ _ _ _ _ _ _ _ _)
   | (with_reducible exact ih2 _ _ _ _ _ _ _ _ _ _ _ _)
   | (with_reducible exact LeO.refl _)
   | (with_reducible exact LeO.none _)
   | (with_reducible refine LeO.ite ?_ ?_)
   | (with_reducible refine LeO.bind ?_ (fun _ => ?_))
   | exact ih0 _ _ _ _ _
   | exact ih1 _ _ _ _ _ _ _ _ _
   | exact ih2 _ _ _ _ _ _ _ _ _ _ _ _
   | exact LeO.none _
   | refine LeO.ite ?_ ?_
   | refine LeO.bind ?_ (fun _ => ?_)
  ·
   intro y0 y1 y2 y3 y4 y5 y6 y7 y8 y9 y10 y11
   unfold flow_Validate.j2
   repeat' first
   | (with_reducible exact ih0 _ _ _ _ _)
   | (with_reducible exact ih1 _ _ _ _ _ _ _ _ _)
   | (with_reducible exact ih2 _ _ _ _ _ _ _ _ _ _ _ _)
   | (with_reducible exact LeO.refl _)
   | (with_reducible exact LeO.none _)
   | (with_reducible refine LeO.ite ?_ ?_)
   | (with_reducible refine LeO.bind ?_ (fun _ => ?_))
   | exact ih0 _ _ _ _ _
   | exact ih1 _ _ _ _ _ _ _ _ _
   | exact ih2 _ _ _ _ _ _ _ _ _ _ _ _
   | exact LeO.none _
   | refine LeO.ite ?_ ?_
   | refine LeO.bind ?_ (fun _ => ?_)
set_option maxRecDepth 100000 in
theorem flow_Validate.mono : ∀ a0 k, LeO (flow_Validate.f k a0) (flow_Validate.f (k + 1) a0) := by
 intro a0 k
 obtain ⟨ih0, ih1, ih2⟩ := flow_Validate.mono_l k
 unfold flow_Validate.f
 repeat' first
   | (with_reducible exact ih0 _ _ _ _ _)
   | (with_reducible exact ih1 _ _ _ _ _ _ _ _ _)
   | (with_reducible exact ih2 _ _ _ _ _ _ _ _ _ _ _ _)
   | (with_reducible exact LeO.refl _)
   | (with_reducible exact LeO.none _)
   | (with_reducible refine LeO.ite ?_ ?_)
   | (with_reducible refine LeO.bind ?_ (fun _ => ?_))
   | exact ih0 _ _ _ _ _
   | exact ih1 _ _ _ _ _ _ _ _ _
   | exact ih2 _ _ _ _ _ _ _ _ _ _ _ _
   | exact LeO.none _
   | refine LeO.ite ?_ ?_
   | refine LeO.bind ?_ (fun _ => ?_)
set_option maxHeartbeats 8000000 in
set_option maxRecDepth 100000 in
theorem flow_Validate.calls (k : Nat) (A0 : Option Addr) (c0 : Nat) (l0 : List (S62)) (r1 : Int) (r2 : Int) (w : World) (hr0 : Kd.C k62 w A0 l0.length l0) (hc0 : l0.length ≤ c0) (h : flow_Validate.f k l0 = some (r1, r2)) :
  Calls Try.prog 28 #[.slice A0 l0.length c0] w fun e w' => e = .returned (.agg #[.int .i64 r1, .int .i64 r2]) ∧ Below w.heap.size w w' := by
 have hu28 := Try.underlying28
 have hu62 := Try.underlying62
 have hu64 := Try.underlying64
 have HR0 := Aside0.mk hr0
 have HC0 := Aside0.mk hc0
 clear hr0 hc0
 have HB := Aside0.mk (Below.refl w.heap.size w)
 have H : (if (l0.length : Int) > 100 then (some (2, (-1))) else (flow_Validate.l0 k l0 0 l0 (l0.length : Int) 0)) = some (r1, r2) := h
 clear h
 by_cases c2 : (l0.length : Int) > 100
 ·
  rw [if_pos c2] at H
  have c2b0 : decide (100 < (l0.length : Int)) = true := decide_eq_true c2
  have c2b1 : decide (100 < l0.length) = true := decide_eq_true (by omega)
  clear c2
  simp only [Option.some.injEq, Prod.mk.injEq] at H
  obtain ⟨rfl, rfl⟩ := H
  go_enter Try.func28, Try.ntmps28
  go_wp2_with (first | ((with_reducible refine gate_dst (N := 2) rfl ?_); (try (refine gate_guard (by rfl) ?_; dsimp only)); refine bx_ (N := 2) (cs := #[.int .i64 0, .int .i64 0]) (t := 28) ?_; intro gb101 hg w3 hbox hb; have BK101 := Aside0.mk hbox; have GW101 := bs_ HB hg; have GE101 := bs_ HB hg; replace HB := hs_ HB hb; clear hb hbox hg; obtain ⟨hcz4_0, hcz4_1, hfz4_0, hfz4_1⟩ := cz2_ BK101))
  refine bodyPost_ret (results_cell_row rfl _ _ gb101 28 #[.int .i64 2, .int .i64 (-1)] (0, 0) _ rfl (bk_ BK101) Try.underlying28 rfl (by kernel_rfl)) rfl ?_
  exact ⟨id_, bw_ HB⟩
 ·
  rw [if_neg c2] at H
  have c2b0 : decide (100 < (l0.length : Int)) = false := decide_eq_false c2
  have c2b1 : decide (100 < l0.length) = false := decide_eq_false (by omega)
  clear c2
  have H' := Aside0.mk H
  clear H
  go_enter Try.func28, Try.ntmps28
  go_wp2_with (first | ((with_reducible refine gate_dst (N := 2) rfl ?_); (try (refine gate_guard (by rfl) ?_; dsimp only)); refine bx_ (N := 2) (cs := #[.int .i64 0, .int .i64 0]) (t := 28) ?_; intro gb101 hg w5 hbox hb; have BK101 := Aside0.mk hbox; have GW101 := bs_ HB hg; have GE101 := bs_ HB hg; replace HB := hs_ HB hb; clear hb hbox hg))
  go_loopg [3, 14] k (fun kq v3 v14 w' => ∃ (x3_1 : Int) (x14_1 : Int) (x102000_1 : Int) (x102001_1 : Int), v3 = .int .i64 x3_1 ∧ v14 = .int .i64 x14_1 ∧ Aside0 (flow_Validate.l0 kq l0 x3_1 l0 (l0.length : Int) x14_1 = some (r1, r2)) ∧ Aside0 (kq ≤ k) ∧ Aside0 (w'.heap[gb101]? = some (.cells #[.int .i64 x102000_1, .int .i64 x102001_1] 28 (0, 0))) ∧ Aside0 (Below w.heap.size w w'))
  case atStart => exact ⟨(0), (0), (0), (0), rs_, rs_, H', ⟨Nat.le_refl _⟩, ⟨bk_ BK101⟩, ⟨bw_ HB⟩⟩
  case round =>
   clear H'
   (try clear c2); (try clear c2b0); (try clear c2b1); (try clear p2); (try clear hcz4_0); (try clear hcz4_1); (try clear hfz4_0); (try clear hfz4_1)
   obtain ⟨x3_1, x14_1, x102000_1, x102001_1, rfl, rfl, HA, HK1, BK101, HB⟩ := hrel
   cases gk with
   | zero => exact absurd HA.out (by simp [flow_Validate.l0])
   | succ k1 =>
    have H := HA.out
    clear HA
    simp only [flow_Validate.l0] at H
    by_cases c6 : x14_1 < (l0.length : Int)
    ·
     rw [if_pos c6] at H
     have c6b0 : decide (x14_1 < (l0.length : Int)) = true := decide_eq_true c6
     clear c6
     by_cases c7 : 0 ≤ x14_1
     ·
      rw [if_pos c7] at H
      have c7b0 : decide (0 ≤ x14_1) = true := decide_eq_true c7
      clear c7
      by_cases c8 : x14_1 < (l0.length : Int)
      ·
       rw [if_pos c8] at H
       have c8b0 : decide (x14_1 < (l0.length : Int)) = true := decide_eq_true c8
       clear c8
       by_cases c9 : (wrap64 (x3_1 + (((rd_T62 l0 x14_1).f3).length : Int))) > 300
       ·
        rw [if_pos c9] at H
        have c9b0 : decide (300 < (wrap64 (x3_1 + (((rd_T62 l0 x14_1).f3).length : Int)))) = true := decide_eq_true c9
        clear c9
        simp only [Option.some.injEq, Prod.mk.injEq] at H
        obtain ⟨rfl, rfl⟩ := H
        have p102 : 0 ≤ (x14_1 : Int) := of_decide_eq_true (by first | (with_reducible assumption) | assumption)
        have q102 : x14_1 < (l0.length : Int) := of_decide_eq_true (by first | (with_reducible assumption) | assumption)
        obtain ⟨ad102, A102_3, c102_3, e102, hx102_0, hx102_1, hx102_2, hx102_3, hl102_3, hi102_3⟩ := at_T62 HR0.out x14_1 p102 q102
        cases e102
        replace hx102_0 := (HB.out.cell (World.block_lt_of_cell? w _ hx102_0)).trans hx102_0
        replace hx102_1 := (HB.out.cell (World.block_lt_of_cell? w _ hx102_1)).trans hx102_1
        replace hx102_2 := (HB.out.cell (World.block_lt_of_cell? w _ hx102_2)).trans hx102_2
        replace hx102_3 := (HB.out.cell (World.block_lt_of_cell? w _ hx102_3)).trans hx102_3
        have HR102_3 := Aside0.mk hi102_3
        have HC102_3 := Aside0.mk hl102_3
        clear hi102_3 hl102_3
        replace p102 := eq_true p102
        replace q102 := eq_true q102
        go_wp2_with (first | ((with_reducible refine gate_dst (N := 5) rfl ?_); (try (refine gate_guard (by rfl) ?_; dsimp only)); refine bx_ (N := 5) (cs := #[.int .i64 0, .int .i64 0, .int .i64 0, .slice none 0 0]) (t := 62) ?_; intro gb103 hg w10 hbox hb; have BK103 := Aside0.mk hbox; have GW103 := bs_ HB hg; have GE103 := bs_ HB hg; have NB101_103 := nl_ BK101 hg; have NB103_101 := ng_ BK101 hg; replace BK101 := bb_ BK101 hb; replace HB := hs_ HB hb; clear hb hbox hg; have hnb11 := NB103_101.out; have hnc11 := NB101_103.out; obtain ⟨hcz12_0, hcz12_1, hcz12_2, hcz12_3, hfz12_0, hfz12_1, hfz12_2, hfz12_3⟩ := cz4_ BK103; obtain ⟨hcz13_0, hcz13_1, hfz13_0, hfz13_1⟩ := cz2_ BK101))
        refine bodyPost_ret (results_cell_row rfl _ _ gb101 28 #[.int .i64 2, .int .i64 x14_1] (0, 0) _ rfl (bk_ BK101) Try.underlying28 rfl (by kernel_rfl)) rfl ?_
        exact ⟨id_, bw_ HB⟩
       ·
        rw [if_neg c9] at H
        have c9b0 : decide (300 < (wrap64 (x3_1 + (((rd_T62 l0 x14_1).f3).length : Int)))) = false := decide_eq_false c9
        clear c9
        have H' := Aside0.mk H
        clear H
        have p102 : 0 ≤ (x14_1 : Int) := of_decide_eq_true (by first | (with_reducible assumption) | assumption)
        have q102 : x14_1 < (l0.length : Int) := of_decide_eq_true (by first | (with_reducible assumption) | assumption)
        obtain ⟨ad102, A102_3, c102_3, e102, hx102_0, hx102_1, hx102_2, hx102_3, hl102_3, hi102_3⟩ := at_T62 HR0.out x14_1 p102 q102
        cases e102
        replace hx102_0 := (HB.out.cell (World.block_lt_of_cell? w _ hx102_0)).trans hx102_0
        replace hx102_1 := (HB.out.cell (World.block_lt_of_cell? w _ hx102_1)).trans hx102_1
        replace hx102_2 := (HB.out.cell (World.block_lt_of_cell? w _ hx102_2)).trans hx102_2
        replace hx102_3 := (HB.out.cell (World.block_lt_of_cell? w _ hx102_3)).trans hx102_3
        have HR102_3 := Aside0.mk hi102_3
        have HC102_3 := Aside0.mk hl102_3
        clear hi102_3 hl102_3
        replace p102 := eq_true p102
        replace q102 := eq_true q102
        go_wp2_with (first | ((with_reducible refine gate_dst (N := 5) rfl ?_); (try (refine gate_guard (by rfl) ?_; dsimp only)); refine bx_ (N := 5) (cs := #[.int .i64 0, .int .i64 0, .int .i64 0, .slice none 0 0]) (t := 62) ?_; intro gb103 hg w14 hbox hb; have BK103 := Aside0.mk hbox; have GW103 := bs_ HB hg; have GE103 := bs_ HB hg; have NB101_103 := nl_ BK101 hg; have NB103_101 := ng_ BK101 hg; replace BK101 := bb_ BK101 hb; replace HB := hs_ HB hb; clear hb hbox hg; have hnb15 := NB103_101.out; have hnc15 := NB101_103.out; obtain ⟨hcz16_0, hcz16_1, hcz16_2, hcz16_3, hfz16_0, hfz16_1, hfz16_2, hfz16_3⟩ := cz4_ BK103))
        go_loopg [31] k1 (fun kq v31 w' => ∃ (x31_2 : Int) (x102000_2 : Int) (x102001_2 : Int), v31 = .int .i64 x31_2 ∧ Aside0 (flow_Validate.l1 kq l0 (wrap64 (x3_1 + (((rd_T62 l0 x14_1).f3).length : Int))) x14_1 l0 (l0.length : Int) x14_1 ((rd_T62 l0 x14_1).f3) (((rd_T62 l0 x14_1).f3).length : Int) x31_2 = some (r1, r2)) ∧ Aside0 (kq ≤ k1) ∧ Aside0 (w'.heap[gb101]? = some (.cells #[.int .i64 x102000_2, .int .i64 x102001_2] 28 (0, 0))) ∧ Aside0 (w'.heap[gb103]? = some (.cells #[.int .i64 ((rd_T62 l0 x14_1).f0), .int .i64 ((rd_T62 l0 x14_1).f1), .int .i64 ((rd_T62 l0 x14_1).f2), (.slice A102_3 ((rd_T62 l0 x14_1).f3).length c102_3)] 62 (0, 0))) ∧ Aside0 (Below w.heap.size w w'))
        case atStart => exact ⟨(0), (x102000_1), (x102001_1), rs_, H', ⟨Nat.le_refl _⟩, ⟨bk_ BK101⟩, ⟨bk_ BK103⟩, ⟨bw_ HB⟩⟩
        case round =>
         clear H'
         (try clear c1); (try clear p1); (try clear q1); (try clear hx1); (try clear c2); (try clear c2b0); (try clear c2b1); (try clear p2); (try clear c6); (try clear c6b0); (try clear p6); (try clear c7); (try clear c7b0); (try clear c8); (try clear c8b0); (try clear c9); (try clear c9b0); (try clear c10); (try clear p10); (try clear q10); (try clear hx10); (try clear c11); (try clear c15); (try clear hcz12_0); (try clear hcz12_1); (try clear hcz12_2); (try clear hcz12_3); (try clear hcz13_0); (try clear hcz13_1); (try clear hcz16_0); (try clear hcz16_1); (try clear hcz16_2); (try clear hcz16_3); (try clear hcz4_0); (try clear hcz4_1); (try clear hfz12_0); (try clear hfz12_1); (try clear hfz12_2); (try clear hfz12_3); (try clear hfz13_0); (try clear hfz13_1); (try clear hfz16_0); (try clear hfz16_1); (try clear hfz16_2); (try clear hfz16_3); (try clear hfz4_0); (try clear hfz4_1); (try clear hx102_0); (try clear hx102_1); (try clear hx102_2); (try clear hx102_3); (try clear p102); (try clear p2); (try clear q102)
         obtain ⟨x31_2, x102000_2, x102001_2, rfl, HA, HK2, BK101, BK103, HB⟩ := hrel
         cases gk with
         | zero => exact absurd HA.out (by simp [flow_Validate.l1])
         | succ k2 =>
          have H := HA.out
          clear HA
          simp only [flow_Validate.l1] at H
          by_cases c17 : x31_2 < (((rd_T62 l0 x14_1).f3).length : Int)
          ·
           rw [if_pos c17] at H
           have c17b0 : decide (x31_2 < (((rd_T62 l0 x14_1).f3).length : Int)) = true := decide_eq_true c17
           clear c17
           by_cases c18 : 0 ≤ x31_2
           ·
            rw [if_pos c18] at H
            have c18b0 : decide (0 ≤ x31_2) = true := decide_eq_true c18
            clear c18
            by_cases c19 : x31_2 < (((rd_T62 l0 x14_1).f3).length : Int)
            ·
             rw [if_pos c19] at H
             have c19b0 : decide (x31_2 < (((rd_T62 l0 x14_1).f3).length : Int)) = true := decide_eq_true c19
             clear c19
             have HC20 := Aside0.mk H
             clear H
             have p104 : 0 ≤ (x31_2 : Int) := of_decide_eq_true (by first | (with_reducible assumption) | assumption)
             have q104 : x31_2 < (((rd_T62 l0 x14_1).f3).length : Int) := of_decide_eq_true (by first | (with_reducible assumption) | assumption)
             obtain ⟨ad104, e104, hx104_0, hx104_1⟩ := at_T64 HR102_3.out x31_2 p104 q104
             cases e104
             replace hx104_0 := (HB.out.cell (World.block_lt_of_cell? w _ hx104_0)).trans hx104_0
             replace hx104_1 := (HB.out.cell (World.block_lt_of_cell? w _ hx104_1)).trans hx104_1
             replace p104 := eq_true p104
             replace q104 := eq_true q104
             go_upto_region 13 with (first | ((with_reducible refine gate_dst (N := 7) rfl ?_); (try (refine gate_guard (by rfl) ?_; dsimp only)); refine bx_ (N := 7) (cs := #[.int .i64 0, .int .i64 0]) (t := 64) ?_; intro gb105 hg w21 hbox hb; have BK105 := Aside0.mk hbox; have GW105 := bs_ HB hg; have GE105 := bs_ HB hg; have NB101_105 := nl_ BK101 hg; have NB105_101 := ng_ BK101 hg; have NB103_105 := nl_ BK103 hg; have NB105_103 := ng_ BK103 hg; replace BK101 := bb_ BK101 hb; replace BK103 := bb_ BK103 hb; replace HB := hs_ HB hb; clear hb hbox hg; have hnb22 := NB105_101.out; have hnc22 := NB101_105.out; have hnb23 := NB105_103.out; have hnc23 := NB103_105.out; obtain ⟨hcz24_0, hcz24_1, hfz24_0, hfz24_1⟩ := cz2_ BK105))
             (try simp only [Act.put, List.setIfInBounds_toArray, List.set_cons_zero, List.set_cons_succ])
             go_cut [35] (fun v35 wc => ∃ (kq : Nat) (x35_19 : Bool), v35 = .bool x35_19 ∧ Aside0 (flow_Validate.j2 kq l0 (wrap64 (x3_1 + (((rd_T62 l0 x14_1).f3).length : Int))) x14_1 l0 (l0.length : Int) x14_1 ((rd_T62 l0 x14_1).f3) (((rd_T62 l0 x14_1).f3).length : Int) x31_2 x35_19 ((rd_T64 ((rd_T62 l0 x14_1).f3) x31_2).f0) ((rd_T64 ((rd_T62 l0 x14_1).f3) x31_2).f1) = some (r1, r2)) ∧ Aside0 (kq ≤ k2) ∧ Aside0 (wc.heap[gb101]? = some (.cells #[.int .i64 x102000_2, .int .i64 x102001_2] 28 (0, 0))) ∧ Aside0 (wc.heap[gb103]? = some (.cells #[.int .i64 ((rd_T62 l0 x14_1).f0), .int .i64 ((rd_T62 l0 x14_1).f1), .int .i64 ((rd_T62 l0 x14_1).f2), (.slice (some ad104) ((rd_T62 l0 x14_1).f3).length c102_3)] 62 (0, 0))) ∧ Aside0 (wc.heap[gb105]? = some (.cells #[.int .i64 ((rd_T64 ((rd_T62 l0 x14_1).f3) x31_2).f0), .int .i64 ((rd_T64 ((rd_T62 l0 x14_1).f3) x31_2).f1)] 64 (0, 0))) ∧ Aside0 (Below w.heap.size w wc))
             case first =>
              have H := HC20.out
              clear HC20
              by_cases c25 : ((rd_T64 ((rd_T62 l0 x14_1).f3) x31_2).f0) < 1
              ·
               rw [if_pos c25] at H
               have c25b0 : decide (((rd_T64 ((rd_T62 l0 x14_1).f3) x31_2).f0) < 1) = true := decide_eq_true c25
               clear c25
               (first | rw [c25b0] | (simp only [i64_w, i32_w]; rw [c25b0]) | skip)
               have H' := Aside0.mk H
               clear H
               have hnb26 := NB105_101.out
               have hnc26 := NB101_105.out
               have hnb27 := NB105_103.out
               have hnc27 := NB103_105.out
               obtain ⟨hcz28_0, hcz28_1, hfz28_0, hfz28_1⟩ := cz2_ BK105
               go_wp2
               go_meet
               case rel => exact ⟨_, (true), rs_, H', ⟨by have := HK1.out; have := HK2.out; first | omega | exact Nat.le_refl _⟩, ⟨bk_ BK101⟩, ⟨bk_ BK103⟩, ⟨bk_ BK105⟩, ⟨bw_ HB⟩⟩
              ·
               rw [if_neg c25] at H
               have c25b0 : decide (((rd_T64 ((rd_T62 l0 x14_1).f3) x31_2).f0) < 1) = false := decide_eq_false c25
               clear c25
               (first | rw [c25b0] | (simp only [i64_w, i32_w]; rw [c25b0]) | skip)
               have H' := Aside0.mk H
               clear H
               have hnb29 := NB105_101.out
               have hnc29 := NB101_105.out
               have hnb30 := NB105_103.out
               have hnc30 := NB103_105.out
               obtain ⟨hcz31_0, hcz31_1, hfz31_0, hfz31_1⟩ := cz2_ BK105
               go_wp2
               go_meet
               case rel => exact ⟨_, (decide (((rd_T64 ((rd_T62 l0 x14_1).f3) x31_2).f0) > 3)), rs_, H', ⟨by have := HK1.out; have := HK2.out; first | omega | exact Nat.le_refl _⟩, ⟨bk_ BK101⟩, ⟨bk_ BK103⟩, ⟨bk_ BK105⟩, ⟨bw_ HB⟩⟩
             case rest =>
              clear HC20
              (try clear c1); (try clear p1); (try clear q1); (try clear hx1); (try clear c2); (try clear c2b0); (try clear c2b1); (try clear p2); (try clear c3); (try clear c6); (try clear c6b0); (try clear p6); (try clear c7); (try clear c7b0); (try clear c8); (try clear c8b0); (try clear c9); (try clear c9b0); (try clear c10); (try clear p10); (try clear q10); (try clear hx10); (try clear c11); (try clear c15); (try clear c17); (try clear c17b0); (try clear c18); (try clear c18b0); (try clear c19); (try clear c19b0); (try clear c22); (try clear c23); (try clear c25); (try clear c25b0); (try clear c26); (try clear c27); (try clear c28); (try clear c29); (try clear c30); (try clear hcz12_0); (try clear hcz12_1); (try clear hcz12_2); (try clear hcz12_3); (try clear hcz13_0); (try clear hcz13_1); (try clear hcz16_0); (try clear hcz16_1); (try clear hcz16_2); (try clear hcz16_3); (try clear hcz24_0); (try clear hcz24_1); (try clear hcz28_0); (try clear hcz28_1); (try clear hcz31_0); (try clear hcz31_1); (try clear hcz4_0); (try clear hcz4_1); (try clear hfz12_0); (try clear hfz12_1); (try clear hfz12_2); (try clear hfz12_3); (try clear hfz13_0); (try clear hfz13_1); (try clear hfz16_0); (try clear hfz16_1); (try clear hfz16_2); (try clear hfz16_3); (try clear hfz24_0); (try clear hfz24_1); (try clear hfz28_0); (try clear hfz28_1); (try clear hfz31_0); (try clear hfz31_1); (try clear hfz4_0); (try clear hfz4_1); (try clear hx102_0); (try clear hx102_1); (try clear hx102_2); (try clear hx102_3); (try clear hx104_0); (try clear hx104_1); (try clear p1); (try clear p10); (try clear p102); (try clear p104); (try clear p2); (try clear p6); (try clear q1); (try clear q10); (try clear q102); (try clear q104)
              obtain ⟨kq, x35_19, rfl, HA, HJ19, BK101, BK103, BK105, HB⟩ := hcut
              cases kq with
              | zero => exact absurd HA.out (by simp [flow_Validate.j2])
              | succ kj19 =>
               have H := HA.out
               clear HA
               simp only [flow_Validate.j2] at H
               by_cases c32 : x35_19 = true
               ·
                subst c32
                have H1 : (some (4, x14_1)) = some (r1, r2) := by rw [if_pos rfl] at H; exact H
                clear H
                have H := H1
                clear H1
                simp only [Option.some.injEq, Prod.mk.injEq] at H
                obtain ⟨rfl, rfl⟩ := H
                have hnb33 := NB101_103.out
                have hnc33 := NB103_101.out
                have hnb34 := NB101_105.out
                have hnc34 := NB105_101.out
                obtain ⟨hcz35_0, hcz35_1, hfz35_0, hfz35_1⟩ := cz2_ BK101
                go_wp2
                refine bodyPost_ret (results_cell_row rfl _ _ gb101 28 #[.int .i64 4, .int .i64 x14_1] (0, 0) _ rfl (bk_ BK101) Try.underlying28 rfl (by kernel_rfl)) rfl ?_
                exact ⟨id_, bw_ HB⟩
               ·
                replace c32 := Bool.eq_false_iff.mpr c32
                subst c32
                have H1 : (if ((rd_T64 ((rd_T62 l0 x14_1).f3) x31_2).f1) < (-1) then (some (3, x14_1)) else (if ((rd_T64 ((rd_T62 l0 x14_1).f3) x31_2).f1) ≥ (l0.length : Int) then (some (3, x14_1)) else (flow_Validate.l1 kj19 l0 (wrap64 (x3_1 + (((rd_T62 l0 x14_1).f3).length : Int))) x14_1 l0 (l0.length : Int) x14_1 ((rd_T62 l0 x14_1).f3) (((rd_T62 l0 x14_1).f3).length : Int) (wrap64 (x31_2 + 1))))) = some (r1, r2) := by rw [if_neg (show ¬ (false = true) by decide)] at H; exact H
                clear H
                have H := H1
                clear H1
                by_cases c36 : ((rd_T64 ((rd_T62 l0 x14_1).f3) x31_2).f1) < (-1)
                ·
                 rw [if_pos c36] at H
                 have c36b0 : decide (((rd_T64 ((rd_T62 l0 x14_1).f3) x31_2).f1) < (-1)) = true := decide_eq_true c36
                 clear c36
                 simp only [Option.some.injEq, Prod.mk.injEq] at H
                 obtain ⟨rfl, rfl⟩ := H
                 have hnb37 := NB105_101.out
                 have hnc37 := NB101_105.out
                 have hnb38 := NB105_103.out
                 have hnc38 := NB103_105.out
                 obtain ⟨hcz39_0, hcz39_1, hfz39_0, hfz39_1⟩ := cz2_ BK105
                 have hnb40 := NB101_103.out
                 have hnc40 := NB103_101.out
                 obtain ⟨hcz41_0, hcz41_1, hfz41_0, hfz41_1⟩ := cz2_ BK101
                 go_wp2
                 refine bodyPost_ret (results_cell_row rfl _ _ gb101 28 #[.int .i64 3, .int .i64 x14_1] (0, 0) _ rfl (bk_ BK101) Try.underlying28 rfl (by kernel_rfl)) rfl ?_
                 exact ⟨id_, bw_ HB⟩
                ·
                 rw [if_neg c36] at H
                 have c36b0 : decide (((rd_T64 ((rd_T62 l0 x14_1).f3) x31_2).f1) < (-1)) = false := decide_eq_false c36
                 clear c36
                 by_cases c42 : ((rd_T64 ((rd_T62 l0 x14_1).f3) x31_2).f1) ≥ (l0.length : Int)
                 ·
                  rw [if_pos c42] at H
                  have c42b0 : decide ((l0.length : Int) ≤ ((rd_T64 ((rd_T62 l0 x14_1).f3) x31_2).f1)) = true := decide_eq_true c42
                  clear c42
                  simp only [Option.some.injEq, Prod.mk.injEq] at H
                  obtain ⟨rfl, rfl⟩ := H
                  have hnb43 := NB105_101.out
                  have hnc43 := NB101_105.out
                  have hnb44 := NB105_103.out
                  have hnc44 := NB103_105.out
                  obtain ⟨hcz45_0, hcz45_1, hfz45_0, hfz45_1⟩ := cz2_ BK105
                  have hnb46 := NB101_103.out
                  have hnc46 := NB103_101.out
                  obtain ⟨hcz47_0, hcz47_1, hfz47_0, hfz47_1⟩ := cz2_ BK101
                  go_wp2
                  refine bodyPost_ret (results_cell_row rfl _ _ gb101 28 #[.int .i64 3, .int .i64 x14_1] (0, 0) _ rfl (bk_ BK101) Try.underlying28 rfl (by kernel_rfl)) rfl ?_
                  exact ⟨id_, bw_ HB⟩
                 ·
                  rw [if_neg c42] at H
                  have c42b0 : decide ((l0.length : Int) ≤ ((rd_T64 ((rd_T62 l0 x14_1).f3) x31_2).f1)) = false := decide_eq_false c42
                  clear c42
                  have H' := Aside0.mk H
                  clear H
                  have hnb48 := NB105_101.out
                  have hnc48 := NB101_105.out
                  have hnb49 := NB105_103.out
                  have hnc49 := NB103_105.out
                  obtain ⟨hcz50_0, hcz50_1, hfz50_0, hfz50_1⟩ := cz2_ BK105
                  go_wp2
                  go_roundg kj19
                  case measure => have := HK1.out; have := HK2.out; have := HJ19.out; omega
                  case rel => exact ⟨(wrap64 (x31_2 + 1)), (x102000_2), (x102001_2), rs_, H', ⟨by have := HK1.out; have := HK2.out; have := HJ19.out; omega⟩, ⟨bk_ BK101⟩, ⟨bk_ BK103⟩, ⟨bw_ HB⟩⟩
            ·
             rw [if_neg c19] at H
             exact absurd H (by simp)
           ·
            rw [if_neg c18] at H
            exact absurd H (by simp)
          ·
           rw [if_neg c17] at H
           have c17b0 : decide (x31_2 < (((rd_T62 l0 x14_1).f3).length : Int)) = false := decide_eq_false c17
           clear c17
           have H' := Aside0.mk H
           clear H
           go_wp2
           go_roundg k2
           case measure => have := HK1.out; have := HK2.out; omega
           case rel => exact ⟨((wrap64 (x3_1 + (((rd_T62 l0 x14_1).f3).length : Int)))), (wrap64 (x14_1 + 1)), (x102000_2), (x102001_2), rs_, rs_, H', ⟨by have := HK1.out; have := HK2.out; omega⟩, ⟨bk_ BK101⟩, ⟨bw_ HB⟩⟩
      ·
       rw [if_neg c8] at H
       exact absurd H (by simp)
     ·
      rw [if_neg c7] at H
      exact absurd H (by simp)
    ·
     rw [if_neg c6] at H
     have c6b0 : decide (x14_1 < (l0.length : Int)) = false := decide_eq_false c6
     clear c6
     simp only [Option.some.injEq, Prod.mk.injEq] at H
     obtain ⟨rfl, rfl⟩ := H
     obtain ⟨hcz51_0, hcz51_1, hfz51_0, hfz51_1⟩ := cz2_ BK101
     go_wp2
     refine bodyPost_ret (results_cell_row rfl _ _ gb101 28 #[.int .i64 0, .int .i64 0] (0, 0) _ rfl (bk_ BK101) Try.underlying28 rfl (by kernel_rfl)) rfl ?_
     exact ⟨id_, bw_ HB⟩

/-! ### flow_check: function 42 -/
set_option maxRecDepth 100000 in
def flow_check.f (k : Nat) (l0 : List (S62)) (a1 : Int) : Option (Int × Int) := (flow_Validate.f k l0).bind fun bt107 => (if (!(bt107.1 == 0) || (!(bt107.2 == 0))) = true then (some (bt107.1, bt107.2)) else (if a1 < 0 then (some (3, (-9))) else (if a1 ≥ (l0.length : Int) then (some (3, (-9))) else (some (0, 0)))))
set_option maxRecDepth 100000 in
theorem flow_check.mono : ∀ a0 a1 k, LeO (flow_check.f k a0 a1) (flow_check.f (k + 1) a0 a1) := by
 intro a0 a1 k
 unfold flow_check.f
 repeat' first
   | (with_reducible exact flow_Validate.mono _ _)
   | (with_reducible exact LeO.refl _)
   | (with_reducible exact LeO.none _)
   | (with_reducible refine LeO.ite ?_ ?_)
   | (with_reducible refine LeO.bind ?_ (fun _ => ?_))
   | exact flow_Validate.mono _ _
   | exact LeO.none _
   | refine LeO.ite ?_ ?_
   | refine LeO.bind ?_ (fun _ => ?_)
set_option maxHeartbeats 8000000 in
set_option maxRecDepth 100000 in
theorem flow_check.calls (k : Nat) (A0 : Option Addr) (c0 : Nat) (l0 : List (S62)) (a1 : Int) (r1 : Int) (r2 : Int) (w : World) (hr0 : Kd.C k62 w A0 l0.length l0) (hc0 : l0.length ≤ c0) (h : flow_check.f k l0 a1 = some (r1, r2)) :
  Calls Try.prog 42 #[.slice A0 l0.length c0, .int .i64 a1] w fun e w' => e = .returned (.agg #[.int .i64 r1, .int .i64 r2]) ∧ Below w.heap.size w w' := by
 have hu28 := Try.underlying28
 have HR0 := Aside0.mk hr0
 have HC0 := Aside0.mk hc0
 clear hr0 hc0
 have HB := Aside0.mk (Below.refl w.heap.size w)
 have H : ((flow_Validate.f k l0).bind fun bt107 => (if (!(bt107.1 == 0) || (!(bt107.2 == 0))) = true then (some (bt107.1, bt107.2)) else (if a1 < 0 then (some (3, (-9))) else (if a1 ≥ (l0.length : Int) then (some (3, (-9))) else (some (0, 0)))))) = some (r1, r2) := h
 clear h
 replace H := Option.bind_eq_some_iff.mp H
 obtain ⟨⟨t107, t108⟩, A30, H⟩ := H
 replace H : (if (!(t107 == 0) || (!(t108 == 0))) = true then (some (t107, t108)) else (if a1 < 0 then (some (3, (-9))) else (if a1 ≥ (l0.length : Int) then (some (3, (-9))) else (some (0, 0))))) = some (r1, r2) := H
 have A3 := Aside0.mk A30
 clear A30
 by_cases c4 : (!(t107 == 0) || (!(t108 == 0))) = true
 ·
  rw [if_pos c4] at H
  have c4b0 : (!(t107 == 0) || (!(t108 == 0))) = true := c4
  clear c4
  simp only [Option.some.injEq, Prod.mk.injEq] at H
  obtain ⟨rfl, rfl⟩ := H
  go_enter Try.func42, Try.ntmps42
  go_wp2_with (first | ((with_reducible refine gate_dst (N := 4) rfl ?_); (try (refine gate_guard (by rfl) ?_; dsimp only)); refine bx_ (N := 4) (cs := #[.int .i64 0, .int .i64 0]) (t := 28) ?_; intro gb106 hg w5 hbox hb; have BK106 := Aside0.mk hbox; have GW106 := bs_ HB hg; have GE106 := bs_ HB hg; replace HB := hs_ HB hb; clear hb hbox hg) | ((with_reducible refine gate_callee (f := 28) rfl ?_); refine goesL_ (some 7) rfl rfl Try.func28 (by kernel_rfl) rfl #[.slice A0 l0.length c0] rfl ar_ ?_; (with_reducible refine (flow_Validate.calls k _ _ l0 t107 t108 _ ?side1 ?side2 A3.out).mono ?_); (case side1 => exact cb_ HR0 HB); (case side2 => exact HC0.out); rintro e w6 ⟨rfl, hb⟩; refine ⟨_, rfl, ?_⟩; replace BK106 := bb_ BK106 hb; replace HB := hs_ HB hb; (try clear hb); (try clear hb2); (try clear hk); (try clear hi)) | ((with_reducible refine gate_dst (N := 5) rfl ?_); (try (refine gate_guard (by rfl) ?_; dsimp only)); refine bx_ (N := 5) (cs := #[.int .i64 0, .int .i64 0]) (t := 28) ?_; intro gb109 hg w7 hbox hb; have BK109 := Aside0.mk hbox; have GW109 := bs_ HB hg; have GE109 := bs_ HB hg; have NB106_109 := nl_ BK106 hg; have NB109_106 := ng_ BK106 hg; replace BK106 := bb_ BK106 hb; replace HB := hs_ HB hb; clear hb hbox hg; have hnb8 := NB109_106.out; have hnc8 := NB106_109.out; obtain ⟨hcz9_0, hcz9_1, hfz9_0, hfz9_1⟩ := cz2_ BK109; obtain ⟨hcz10_0, hcz10_1, hfz10_0, hfz10_1⟩ := cz2_ BK106))
  refine bodyPost_ret (results_cell_row rfl _ _ gb106 28 #[.int .i64 t107, .int .i64 t108] (0, 0) _ rfl (bk_ BK106) Try.underlying28 rfl (by kernel_rfl)) rfl ?_
  exact ⟨id_, bw_ HB⟩
 ·
  rw [if_neg c4] at H
  have c4b0 : (!(t107 == 0) || (!(t108 == 0))) = false := by simpa using c4
  clear c4
  by_cases c11 : a1 < 0
  ·
   rw [if_pos c11] at H
   have c11b0 : decide (a1 < 0) = true := decide_eq_true c11
   clear c11
   simp only [Option.some.injEq, Prod.mk.injEq] at H
   obtain ⟨rfl, rfl⟩ := H
   go_enter Try.func42, Try.ntmps42
   go_wp2_with (first | ((with_reducible refine gate_dst (N := 4) rfl ?_); (try (refine gate_guard (by rfl) ?_; dsimp only)); refine bx_ (N := 4) (cs := #[.int .i64 0, .int .i64 0]) (t := 28) ?_; intro gb106 hg w12 hbox hb; have BK106 := Aside0.mk hbox; have GW106 := bs_ HB hg; have GE106 := bs_ HB hg; replace HB := hs_ HB hb; clear hb hbox hg) | ((with_reducible refine gate_callee (f := 28) rfl ?_); refine goesL_ (some 7) rfl rfl Try.func28 (by kernel_rfl) rfl #[.slice A0 l0.length c0] rfl ar_ ?_; (with_reducible refine (flow_Validate.calls k _ _ l0 t107 t108 _ ?side1 ?side2 A3.out).mono ?_); (case side1 => exact cb_ HR0 HB); (case side2 => exact HC0.out); rintro e w13 ⟨rfl, hb⟩; refine ⟨_, rfl, ?_⟩; replace BK106 := bb_ BK106 hb; replace HB := hs_ HB hb; (try clear hb); (try clear hb2); (try clear hk); (try clear hi)) | ((with_reducible refine gate_dst (N := 5) rfl ?_); (try (refine gate_guard (by rfl) ?_; dsimp only)); refine bx_ (N := 5) (cs := #[.int .i64 0, .int .i64 0]) (t := 28) ?_; intro gb109 hg w14 hbox hb; have BK109 := Aside0.mk hbox; have GW109 := bs_ HB hg; have GE109 := bs_ HB hg; have NB106_109 := nl_ BK106 hg; have NB109_106 := ng_ BK106 hg; replace BK106 := bb_ BK106 hb; replace HB := hs_ HB hb; clear hb hbox hg; have hnb15 := NB109_106.out; have hnc15 := NB106_109.out; obtain ⟨hcz16_0, hcz16_1, hfz16_0, hfz16_1⟩ := cz2_ BK109; obtain ⟨hcz17_0, hcz17_1, hfz17_0, hfz17_1⟩ := cz2_ BK106))
   refine bodyPost_ret (results_cell_row rfl _ _ gb106 28 #[.int .i64 3, .int .i64 (-9)] (0, 0) _ rfl (bk_ BK106) Try.underlying28 rfl (by kernel_rfl)) rfl ?_
   exact ⟨id_, bw_ HB⟩
  ·
   rw [if_neg c11] at H
   have c11b0 : decide (a1 < 0) = false := decide_eq_false c11
   clear c11
   by_cases c18 : a1 ≥ (l0.length : Int)
   ·
    rw [if_pos c18] at H
    have c18b0 : decide ((l0.length : Int) ≤ a1) = true := decide_eq_true c18
    clear c18
    simp only [Option.some.injEq, Prod.mk.injEq] at H
    obtain ⟨rfl, rfl⟩ := H
    go_enter Try.func42, Try.ntmps42
    go_wp2_with (first | ((with_reducible refine gate_dst (N := 4) rfl ?_); (try (refine gate_guard (by rfl) ?_; dsimp only)); refine bx_ (N := 4) (cs := #[.int .i64 0, .int .i64 0]) (t := 28) ?_; intro gb106 hg w19 hbox hb; have BK106 := Aside0.mk hbox; have GW106 := bs_ HB hg; have GE106 := bs_ HB hg; replace HB := hs_ HB hb; clear hb hbox hg) | ((with_reducible refine gate_callee (f := 28) rfl ?_); refine goesL_ (some 7) rfl rfl Try.func28 (by kernel_rfl) rfl #[.slice A0 l0.length c0] rfl ar_ ?_; (with_reducible refine (flow_Validate.calls k _ _ l0 t107 t108 _ ?side1 ?side2 A3.out).mono ?_); (case side1 => exact cb_ HR0 HB); (case side2 => exact HC0.out); rintro e w20 ⟨rfl, hb⟩; refine ⟨_, rfl, ?_⟩; replace BK106 := bb_ BK106 hb; replace HB := hs_ HB hb; (try clear hb); (try clear hb2); (try clear hk); (try clear hi)) | ((with_reducible refine gate_dst (N := 5) rfl ?_); (try (refine gate_guard (by rfl) ?_; dsimp only)); refine bx_ (N := 5) (cs := #[.int .i64 0, .int .i64 0]) (t := 28) ?_; intro gb109 hg w21 hbox hb; have BK109 := Aside0.mk hbox; have GW109 := bs_ HB hg; have GE109 := bs_ HB hg; have NB106_109 := nl_ BK106 hg; have NB109_106 := ng_ BK106 hg; replace BK106 := bb_ BK106 hb; replace HB := hs_ HB hb; clear hb hbox hg; have hnb22 := NB109_106.out; have hnc22 := NB106_109.out; obtain ⟨hcz23_0, hcz23_1, hfz23_0, hfz23_1⟩ := cz2_ BK109; obtain ⟨hcz24_0, hcz24_1, hfz24_0, hfz24_1⟩ := cz2_ BK106))
    refine bodyPost_ret (results_cell_row rfl _ _ gb106 28 #[.int .i64 3, .int .i64 (-9)] (0, 0) _ rfl (bk_ BK106) Try.underlying28 rfl (by kernel_rfl)) rfl ?_
    exact ⟨id_, bw_ HB⟩
   ·
    rw [if_neg c18] at H
    have c18b0 : decide ((l0.length : Int) ≤ a1) = false := decide_eq_false c18
    clear c18
    simp only [Option.some.injEq, Prod.mk.injEq] at H
    obtain ⟨rfl, rfl⟩ := H
    go_enter Try.func42, Try.ntmps42
    go_wp2_with (first | ((with_reducible refine gate_dst (N := 4) rfl ?_); (try (refine gate_guard (by rfl) ?_; dsimp only)); refine bx_ (N := 4) (cs := #[.int .i64 0, .int .i64 0]) (t := 28) ?_; intro gb106 hg w25 hbox hb; have BK106 := Aside0.mk hbox; have GW106 := bs_ HB hg; have GE106 := bs_ HB hg; replace HB := hs_ HB hb; clear hb hbox hg) | ((with_reducible refine gate_callee (f := 28) rfl ?_); refine goesL_ (some 7) rfl rfl Try.func28 (by kernel_rfl) rfl #[.slice A0 l0.length c0] rfl ar_ ?_; (with_reducible refine (flow_Validate.calls k _ _ l0 t107 t108 _ ?side1 ?side2 A3.out).mono ?_); (case side1 => exact cb_ HR0 HB); (case side2 => exact HC0.out); rintro e w26 ⟨rfl, hb⟩; refine ⟨_, rfl, ?_⟩; replace BK106 := bb_ BK106 hb; replace HB := hs_ HB hb; (try clear hb); (try clear hb2); (try clear hk); (try clear hi)) | ((with_reducible refine gate_dst (N := 5) rfl ?_); (try (refine gate_guard (by rfl) ?_; dsimp only)); refine bx_ (N := 5) (cs := #[.int .i64 0, .int .i64 0]) (t := 28) ?_; intro gb109 hg w27 hbox hb; have BK109 := Aside0.mk hbox; have GW109 := bs_ HB hg; have GE109 := bs_ HB hg; have NB106_109 := nl_ BK106 hg; have NB109_106 := ng_ BK106 hg; replace BK106 := bb_ BK106 hb; replace HB := hs_ HB hb; clear hb hbox hg; have hnb28 := NB109_106.out; have hnc28 := NB106_109.out; obtain ⟨hcz29_0, hcz29_1, hfz29_0, hfz29_1⟩ := cz2_ BK109; obtain ⟨hcz30_0, hcz30_1, hfz30_0, hfz30_1⟩ := cz2_ BK106))
    refine bodyPost_ret (results_cell_row rfl _ _ gb106 28 #[.int .i64 0, .int .i64 0] (0, 0) _ rfl (bk_ BK106) Try.underlying28 rfl (by kernel_rfl)) rfl ?_
    exact ⟨id_, bw_ HB⟩

/-! ### slices_Index_int_int: function 61 -/
set_option maxRecDepth 100000 in
def slices_Index_int_int.l0 : Nat → List Int → Int → Int → Int → Option (Int)
 | 0, _, _, _, _ => none
 | k + 1, x0, x1, x7, x8 => if x8 < x7 then (if 0 ≤ x8 then (if x8 < (x0.length : Int) then (if x1 = (rd x0 x8) then (some x8) else (slices_Index_int_int.l0 k x0 x1 x7 (wrap64 (x8 + 1)))) else (none)) else (none)) else (some (-1))
set_option maxRecDepth 100000 in
def slices_Index_int_int.f (k : Nat) (l0 : List Int) (a1 : Int) : Option (Int) := slices_Index_int_int.l0 k l0 a1 (l0.length : Int) 0
set_option maxRecDepth 100000 in
theorem slices_Index_int_int.mono_l : ∀ k, (∀ y0 y1 y2 y3, LeO (slices_Index_int_int.l0 k y0 y1 y2 y3) (slices_Index_int_int.l0 (k + 1) y0 y1 y2 y3))
 | 0 => fun _ _ _ _ r h => by simp [slices_Index_int_int.l0] at h
 | k + 1 => by
  have ih0 := slices_Index_int_int.mono_l k
  ·
   intro y0 y1 y2 y3
   unfold slices_Index_int_int.l0
   repeat' first
   | (with_reducible exact ih0 _ _ _ _)
   | (with_reducible exact LeO.refl _)
   | (with_reducible exact LeO.none _)
   | (with_reducible refine LeO.ite ?_ ?_)
   | (with_reducible refine LeO.bind ?_ (fun _ => ?_))
   | exact ih0 _ _ _ _
   | exact LeO.none _
   | refine LeO.ite ?_ ?_
   | refine LeO.bind ?_ (fun _ => ?_)
set_option maxRecDepth 100000 in
theorem slices_Index_int_int.mono : ∀ a0 a1 k, LeO (slices_Index_int_int.f k a0 a1) (slices_Index_int_int.f (k + 1) a0 a1) := by
 intro a0 a1 k
 have ih0 := slices_Index_int_int.mono_l k
 unfold slices_Index_int_int.f
 repeat' first
   | (with_reducible exact ih0 _ _ _ _)
   | (with_reducible exact LeO.refl _)
   | (with_reducible exact LeO.none _)
   | (with_reducible refine LeO.ite ?_ ?_)
   | (with_reducible refine LeO.bind ?_ (fun _ => ?_))
   | exact ih0 _ _ _ _
   | exact LeO.none _
   | refine LeO.ite ?_ ?_
   | refine LeO.bind ?_ (fun _ => ?_)
set_option maxHeartbeats 8000000 in
set_option maxRecDepth 100000 in
theorem slices_Index_int_int.calls (k : Nat) (A0 : Option Addr) (c0 : Nat) (l0 : List Int) (a1 : Int) (r : Int) (w : World) (hr0 : Kd.C (Kd.int .i64) w A0 l0.length l0) (hc0 : l0.length ≤ c0) (h : slices_Index_int_int.f k l0 a1 = some r) :
  Calls Try.prog 61 #[.slice A0 l0.length c0, .int .i64 a1] w fun e w' => e = .returned (.int .i64 r) ∧ Drawn0 w w' := by
 have HR0 := Aside0.mk hr0
 have HC0 := Aside0.mk hc0
 clear hr0 hc0
 have H : (slices_Index_int_int.l0 k l0 a1 (l0.length : Int) 0) = some r := h
 clear h
 have H' := Aside0.mk H
 clear H
 go_enter Try.func61, Try.ntmps61
 go_wp2
 go_loopg [8] k (fun kq v8 w' => ∃ (x8_1 : Int), v8 = .int .i64 x8_1 ∧ Aside0 (slices_Index_int_int.l0 kq l0 a1 (l0.length : Int) x8_1 = some r) ∧ Aside0 (kq ≤ k) ∧ Drawn0 w w')
 case atStart => exact ⟨(0), rs_, H', ⟨Nat.le_refl _⟩, by repeat (first | exact Drawn0.refl _ | apply Drawn0.step)⟩
 case round =>
  clear H'
  (try clear p2)
  obtain ⟨x8_1, rfl, HA, HK1, ⟨m1, rfl⟩⟩ := hrel
  cases gk with
  | zero => exact absurd HA.out (by simp [slices_Index_int_int.l0])
  | succ k1 =>
   have H := HA.out
   clear HA
   simp only [slices_Index_int_int.l0] at H
   by_cases c3 : x8_1 < (l0.length : Int)
   ·
    rw [if_pos c3] at H
    have c3b0 : decide (x8_1 < (l0.length : Int)) = true := decide_eq_true c3
    clear c3
    by_cases c4 : 0 ≤ x8_1
    ·
     rw [if_pos c4] at H
     have c4b0 : decide (0 ≤ x8_1) = true := decide_eq_true c4
     clear c4
     by_cases c5 : x8_1 < (l0.length : Int)
     ·
      rw [if_pos c5] at H
      have c5b0 : decide (x8_1 < (l0.length : Int)) = true := decide_eq_true c5
      clear c5
      by_cases c6 : a1 = (rd l0 x8_1)
      ·
       rw [if_pos c6] at H
       have c6b0 : (a1 == (rd l0 x8_1)) = true := beq_iff_eq.mpr c6
       have c6b1 : (a1 != (rd l0 x8_1)) = false := bne_eq_false_iff_eq.mpr c6
       clear c6
       obtain rfl := Option.some.inj H
       have p110 : 0 ≤ (x8_1 : Int) := of_decide_eq_true (by first | (with_reducible assumption) | assumption)
       have q110 : x8_1 < (l0.length : Int) := of_decide_eq_true (by first | (with_reducible assumption) | assumption)
       obtain ⟨ad110, e110, hx110_0⟩ := Kd.at_int HR0.out x8_1 p110 q110
       cases e110
       replace p110 := eq_true p110
       replace q110 := eq_true q110
       go_wp2
       go_ret
       exact ⟨by first | rfl | (simp; done) | (simp [*]; done), by repeat (first | exact Drawn0.refl _ | apply Drawn0.step)⟩
      ·
       rw [if_neg c6] at H
       have c6b0 : (a1 == (rd l0 x8_1)) = false := beq_eq_false_iff_ne.mpr c6
       have c6b1 : (a1 != (rd l0 x8_1)) = true := bne_iff_ne.mpr c6
       have H' := Aside0.mk H
       clear H
       have p110 : 0 ≤ (x8_1 : Int) := of_decide_eq_true (by first | (with_reducible assumption) | assumption)
       have q110 : x8_1 < (l0.length : Int) := of_decide_eq_true (by first | (with_reducible assumption) | assumption)
       obtain ⟨ad110, e110, hx110_0⟩ := Kd.at_int HR0.out x8_1 p110 q110
       cases e110
       replace p110 := eq_true p110
       replace q110 := eq_true q110
       go_wp2
       go_roundg k1
       case measure => have := HK1.out; omega
       case rel => exact ⟨(wrap64 (x8_1 + 1)), rs_, H', ⟨by have := HK1.out; omega⟩, by repeat (first | exact Drawn0.refl _ | apply Drawn0.step)⟩
     ·
      rw [if_neg c5] at H
      exact absurd H (by simp)
    ·
     rw [if_neg c4] at H
     exact absurd H (by simp)
   ·
    rw [if_neg c3] at H
    have c3b0 : decide (x8_1 < (l0.length : Int)) = false := decide_eq_false c3
    clear c3
    obtain rfl := Option.some.inj H
    go_wp2
    go_ret
    exact ⟨by first | rfl | (simp; done) | (simp [*]; done), by repeat (first | exact Drawn0.refl _ | apply Drawn0.step)⟩

/-! ### slices_Contains_int_int: function 47 -/
set_option maxRecDepth 100000 in
def slices_Contains_int_int.f (k : Nat) (l0 : List Int) (a1 : Int) : Option (Bool) := (slices_Index_int_int.f k l0 a1).bind fun t111 => (some (decide (t111 ≥ 0)))
set_option maxRecDepth 100000 in
theorem slices_Contains_int_int.mono : ∀ a0 a1 k, LeO (slices_Contains_int_int.f k a0 a1) (slices_Contains_int_int.f (k + 1) a0 a1) := by
 intro a0 a1 k
 unfold slices_Contains_int_int.f
 repeat' first
   | (with_reducible exact slices_Index_int_int.mono _ _ _)
   | (with_reducible exact LeO.refl _)
   | (with_reducible exact LeO.none _)
   | (with_reducible refine LeO.ite ?_ ?_)
   | (with_reducible refine LeO.bind ?_ (fun _ => ?_))
   | exact slices_Index_int_int.mono _ _ _
   | exact LeO.none _
   | refine LeO.ite ?_ ?_
   | refine LeO.bind ?_ (fun _ => ?_)
set_option maxHeartbeats 8000000 in
set_option maxRecDepth 100000 in
theorem slices_Contains_int_int.calls (k : Nat) (A0 : Option Addr) (c0 : Nat) (l0 : List Int) (a1 : Int) (r : Bool) (w : World) (hr0 : Kd.C (Kd.int .i64) w A0 l0.length l0) (hc0 : l0.length ≤ c0) (h : slices_Contains_int_int.f k l0 a1 = some r) :
  Calls Try.prog 47 #[.slice A0 l0.length c0, .int .i64 a1] w fun e w' => e = .returned (.bool r) ∧ Drawn0 w w' := by
 have HR0 := Aside0.mk hr0
 have HC0 := Aside0.mk hc0
 clear hr0 hc0
 have H : ((slices_Index_int_int.f k l0 a1).bind fun t111 => (some (decide (t111 ≥ 0)))) = some r := h
 clear h
 replace H := Option.bind_eq_some_iff.mp H
 obtain ⟨t111, A30, H⟩ := H
 replace H : (some (decide (t111 ≥ 0))) = some r := H
 have A3 := Aside0.mk A30
 clear A30
 obtain rfl := Option.some.inj H
 go_enter Try.func47, Try.ntmps47
 go_wp2_with (first | ((with_reducible refine gate_callee (f := 61) rfl ?_); refine goesL_ (some 7) rfl rfl Try.func61 (by kernel_rfl) rfl #[.slice A0 l0.length c0, .int .i64 a1] rfl ar_ ?_; (with_reducible refine (slices_Index_int_int.calls k _ _ l0 a1 t111 _ ?side1 ?side2 A3.out).mono ?_); (case side1 => repeat (first | exact HR0.out | (with_reducible refine Kd.C_alloc ?_ _) | (with_reducible refine Kd.C_drewN ?_ _) | (with_reducible refine Kd.C_drew ?_))); (case side2 => exact HC0.out); rintro e w' ⟨rfl, ⟨nd, rfl⟩⟩; refine ⟨_, rfl, ?_⟩))
 go_ret
 exact ⟨by first | rfl | (simp; done) | (simp [*]; done), by repeat (first | exact Drawn0.refl _ | apply Drawn0.step)⟩

/-! ### flow_Inner: function 48 -/
set_option maxRecDepth 100000 in
def flow_Inner.l0 : Nat → List Int → List (S64) → Int → Int → Option (List Int)
 | 0, _, _, _, _ => none
 | k + 1, x3, x7, x8, x9 => if x9 < x8 then (if 0 ≤ x9 then (if x9 < (x7.length : Int) then (if ((rd_T64 x7 x9).f0) = 3 then (flow_Inner.l0 k x3 x7 x8 (wrap64 (x9 + 1))) else (if ((rd_T64 x7 x9).f1) ≥ 0 then (if x3.length < 17592186044416 then (flow_Inner.l0 k (x3 ++ [(rd_T64 x7 x9).f1]) x7 x8 (wrap64 (x9 + 1))) else (none)) else (flow_Inner.l0 k x3 x7 x8 (wrap64 (x9 + 1))))) else (none)) else (none)) else (some x3)
set_option maxRecDepth 100000 in
def flow_Inner.f (k : Nat) (a0_0 : Int) (a0_1 : Int) (a0_2 : Int) (l0_3 : List (S64)) : Option (List Int) := flow_Inner.l0 k ([] : List Int) l0_3 (l0_3.length : Int) 0
set_option maxRecDepth 100000 in
theorem flow_Inner.mono_l : ∀ k, (∀ y0 y1 y2 y3, LeO (flow_Inner.l0 k y0 y1 y2 y3) (flow_Inner.l0 (k + 1) y0 y1 y2 y3))
 | 0 => fun _ _ _ _ r h => by simp [flow_Inner.l0] at h
 | k + 1 => by
  have ih0 := flow_Inner.mono_l k
  ·
   intro y0 y1 y2 y3
   unfold flow_Inner.l0
   repeat' first
   | (with_reducible exact ih0 _ _ _ _)
   | (with_reducible exact LeO.refl _)
   | (with_reducible exact LeO.none _)
   | (with_reducible refine LeO.ite ?_ ?_)
   | (with_reducible refine LeO.bind ?_ (fun _ => ?_))
   | exact ih0 _ _ _ _
   | exact LeO.none _
   | refine LeO.ite ?_ ?_
   | refine LeO.bind ?_ (fun _ => ?_)
set_option maxRecDepth 100000 in
theorem flow_Inner.mono : ∀ a0 a1 a2 a3 k, LeO (flow_Inner.f k a0 a1 a2 a3) (flow_Inner.f (k + 1) a0 a1 a2 a3) := by
 intro a0 a1 a2 a3 k
 have ih0 := flow_Inner.mono_l k
 unfold flow_Inner.f
 repeat' first
   | (with_reducible exact ih0 _ _ _ _)
   | (with_reducible exact LeO.refl _)
   | (with_reducible exact LeO.none _)
   | (with_reducible refine LeO.ite ?_ ?_)
   | (with_reducible refine LeO.bind ?_ (fun _ => ?_))
   | exact ih0 _ _ _ _
   | exact LeO.none _
   | refine LeO.ite ?_ ?_
   | refine LeO.bind ?_ (fun _ => ?_)
set_option maxHeartbeats 8000000 in
set_option maxRecDepth 100000 in
theorem flow_Inner.calls (k : Nat) (a0_0 : Int) (a0_1 : Int) (a0_2 : Int) (A0_3 : Option Addr) (c0_3 : Nat) (l0_3 : List (S64)) (r : List Int) (w : World) (hr0_3 : Kd.C k64 w A0_3 l0_3.length l0_3) (hc0_3 : l0_3.length ≤ c0_3) (h : flow_Inner.f k a0_0 a0_1 a0_2 l0_3 = some r) :
  Calls Try.prog 48 #[.agg #[.int .i64 a0_0, .int .i64 a0_1, .int .i64 a0_2, .slice A0_3 l0_3.length c0_3]] w fun e w' => ∃ v0_ : Value, e = .returned (v0_) ∧ Kd.R (Kd.int .i64) 3 w' w.heap.size (fun _ => True) v0_ r ∧ Below w.heap.size w w' := by
 have hu62 := Try.underlying62
 have hu64 := Try.underlying64
 have HR0_3 := Aside0.mk hr0_3
 have HC0_3 := Aside0.mk hc0_3
 clear hr0_3 hc0_3
 have HB := Aside0.mk (Below.refl w.heap.size w)
 have H : (flow_Inner.l0 k ([] : List Int) l0_3 (l0_3.length : Int) 0) = some r := h
 clear h
 have H' := Aside0.mk H
 clear H
 go_enter Try.func48, Try.ntmps48
 go_wp2_with (first | ((with_reducible refine gate_dst (N := 1) rfl ?_); refine bx_ (N := 1) (cs := #[.int .i64 a0_0, .int .i64 a0_1, .int .i64 a0_2, .slice A0_3 l0_3.length c0_3]) (t := 62) ?_; intro gb112 hg w2 hbox hb; have BK112 := Aside0.mk hbox; have GW112 := bs_ HB hg; have GE112 := bs_ HB hg; replace HB := hs_ HB hb; clear hb hbox hg; obtain ⟨hcz3_0, hcz3_1, hcz3_2, hcz3_3, hfz3_0, hfz3_1, hfz3_2, hfz3_3⟩ := cz4_ BK112))
 go_loopg [3, 9] k (fun kq v3 v9 w' => ∃ (x3_1 : List Int) (x9_1 : Int), v9 = .int .i64 x9_1 ∧ Aside0 (flow_Inner.l0 kq x3_1 l0_3 (l0_3.length : Int) x9_1 = some r) ∧ Aside0 (kq ≤ k) ∧ Aside0 (Kd.R (Kd.int .i64) 3 w' w.heap.size (fun _ => True) v3 x3_1) ∧ Aside0 (w'.heap[gb112]? = some (.cells #[.int .i64 a0_0, .int .i64 a0_1, .int .i64 a0_2, (.slice A0_3 l0_3.length c0_3)] 62 (0, 0))) ∧ Aside0 (Below w.heap.size w w'))
 case atStart => exact ⟨(([] : List Int)), (0), rs_, H', ⟨Nat.le_refl _⟩, ⟨by first | exact Kd.R_nil _ _ _ _ _ | exact Kd.N_nil _ _ _ _ _ | exact Kd.V_nil _ _ _ _ _ | exact Kd.Q_nil _ _ _ _ _ | exact Kd.S_nil _ _ _ _ _⟩, ⟨bk_ BK112⟩, ⟨bw_ HB⟩⟩
 case round =>
  clear H'
  (try clear p2); (try clear hcz3_0); (try clear hcz3_1); (try clear hcz3_2); (try clear hcz3_3); (try clear hfz3_0); (try clear hfz3_1); (try clear hfz3_2); (try clear hfz3_3)
  obtain ⟨x3_1, x9_1, rfl, HA, HK1, HO_3, BK112, HB⟩ := hrel
  cases gk with
  | zero => exact absurd HA.out (by simp [flow_Inner.l0])
  | succ k1 =>
   have H := HA.out
   clear HA
   simp only [flow_Inner.l0] at H
   by_cases c4 : x9_1 < (l0_3.length : Int)
   ·
    rw [if_pos c4] at H
    have c4b0 : decide (x9_1 < (l0_3.length : Int)) = true := decide_eq_true c4
    clear c4
    by_cases c5 : 0 ≤ x9_1
    ·
     rw [if_pos c5] at H
     have c5b0 : decide (0 ≤ x9_1) = true := decide_eq_true c5
     clear c5
     by_cases c6 : x9_1 < (l0_3.length : Int)
     ·
      rw [if_pos c6] at H
      have c6b0 : decide (x9_1 < (l0_3.length : Int)) = true := decide_eq_true c6
      clear c6
      by_cases c7 : ((rd_T64 l0_3 x9_1).f0) = 3
      ·
       rw [if_pos c7] at H
       have c7b0 : (((rd_T64 l0_3 x9_1).f0) == 3) = true := beq_iff_eq.mpr c7
       have c7b1 : (((rd_T64 l0_3 x9_1).f0) != 3) = false := bne_eq_false_iff_eq.mpr c7
       clear c7
       have H' := Aside0.mk H
       clear H
       have p113 : 0 ≤ (x9_1 : Int) := of_decide_eq_true (by first | (with_reducible assumption) | assumption)
       have q113 : x9_1 < (l0_3.length : Int) := of_decide_eq_true (by first | (with_reducible assumption) | assumption)
       obtain ⟨ad113, e113, hx113_0, hx113_1⟩ := at_T64 HR0_3.out x9_1 p113 q113
       cases e113
       replace hx113_0 := (HB.out.cell (World.block_lt_of_cell? w _ hx113_0)).trans hx113_0
       replace hx113_1 := (HB.out.cell (World.block_lt_of_cell? w _ hx113_1)).trans hx113_1
       replace p113 := eq_true p113
       replace q113 := eq_true q113
       go_wp2_with (first | ((with_reducible refine gate_dst (N := 5) rfl ?_); refine bx_ (N := 5) (cs := #[.int .i64 0, .int .i64 0]) (t := 64) ?_; intro gb114 hg w8 hbox hb; have n0_ := Aside0.mk (Kd.R_below (by (with_reducible repeat (first | apply Kd.R_alloc | apply Kd.R_drewN | apply Kd.R_drew)); exact HO_3.out) hb); have n1_ := Aside0.mk (blk_below (g := gb112) (o := .cells #[.int .i64 a0_0, .int .i64 a0_1, .int .i64 a0_2, .slice (some ad113) l0_3.length c0_3] 62 (0, 0)) (bk_ BK112) hb); have n2_ := Aside0.mk (below_step (bw_ HB) hb); have n3_ := Aside0.mk (hbox); have n4_ := Aside0.mk ((by rw [hg]; exact (below_size (bw_ HB)) : w.heap.size ≤ gb114)); have n5_ := Aside0.mk ((by rw [hg]; exact (below_size (bw_ HB)) : w.heap.size ≤ gb114)); have n6_ := Aside0.mk ((by rw [hg]; exact Nat.ne_of_lt (blk_lt (g := gb112) (o := .cells #[.int .i64 a0_0, .int .i64 a0_1, .int .i64 a0_2, .slice (some ad113) l0_3.length c0_3] 62 (0, 0)) (bk_ BK112)) : gb112 ≠ gb114)); have n7_ := Aside0.mk ((by rw [hg]; exact Nat.ne_of_gt (blk_lt (g := gb112) (o := .cells #[.int .i64 a0_0, .int .i64 a0_1, .int .i64 a0_2, .slice (some ad113) l0_3.length c0_3] 62 (0, 0)) (bk_ BK112)) : gb114 ≠ gb112)); clear HO_3; clear BK112; clear HB; have HO_3 := n0_; have BK112 := n1_; have HB := n2_; have BK114 := n3_; have GW114 := n4_; have GE114 := n5_; have NB112_114 := n6_; have NB114_112 := n7_; clear n0_ n1_ n2_ n3_ n4_ n5_ n6_ n7_; clear hb hbox hg; have hnb9 := NB114_112.out; have hnc9 := NB112_114.out; obtain ⟨hcz10_0, hcz10_1, hfz10_0, hfz10_1⟩ := cz2_ BK114))
       go_roundg k1
       case measure => have := HK1.out; omega
       case rel => exact ⟨(x3_1), (wrap64 (x9_1 + 1)), rs_, H', ⟨by have := HK1.out; omega⟩, ⟨by (with_reducible repeat (first | apply Kd.R_alloc | apply Kd.R_drewN | apply Kd.R_drew)); exact Kd.R_mono (Kd.R_far (p := ⟨gb114, 1, none⟩) (Kd.R_far (p := ⟨gb114, 0, none⟩) (Kd.R_types HO_3.out BK114.out (by decide)) (fun _ hk => hk.2) (.int .i64 ((rd_T64 l0_3 x9_1).f0))) (fun _ hk => hk.2) (.int .i64 ((rd_T64 l0_3 x9_1).f1))) (fun _ hk => trivial)⟩, ⟨bk_ BK112⟩, ⟨bw_ HB⟩⟩
      ·
       rw [if_neg c7] at H
       have c7b0 : (((rd_T64 l0_3 x9_1).f0) == 3) = false := beq_eq_false_iff_ne.mpr c7
       have c7b1 : (((rd_T64 l0_3 x9_1).f0) != 3) = true := bne_iff_ne.mpr c7
       by_cases c11 : ((rd_T64 l0_3 x9_1).f1) ≥ 0
       ·
        rw [if_pos c11] at H
        have c11b0 : decide (0 ≤ ((rd_T64 l0_3 x9_1).f1)) = true := decide_eq_true c11
        clear c11
        by_cases c12 : x3_1.length < 17592186044416
        ·
         rw [if_pos c12] at H
         have LMc12 := Aside0.mk c12
         clear c12
         obtain ⟨y115, hy115⟩ : ∃ y_ : List Int, y_ = (x3_1 ++ [(rd_T64 l0_3 x9_1).f1]) := ⟨_, rfl⟩
         replace H : (flow_Inner.l0 k1 y115 l0_3 (l0_3.length : Int) (wrap64 (x9_1 + 1))) = some r := by first | (rw [hy115]; with_reducible exact H) | (have H2_ := (Option.bind_some _ _).symm.trans H; rw [hy115]; with_reducible exact H2_) | (have H2_ := (Option.bind_some _ _).symm.trans H; with_reducible exact H2_) | with_reducible exact H | (rw [hy115]; exact H) | exact H
         have Ny115 := Aside0.mk hy115
         clear hy115
         have H' := Aside0.mk H
         clear H
         have p113 : 0 ≤ (x9_1 : Int) := of_decide_eq_true (by first | (with_reducible assumption) | assumption)
         have q113 : x9_1 < (l0_3.length : Int) := of_decide_eq_true (by first | (with_reducible assumption) | assumption)
         obtain ⟨ad113, e113, hx113_0, hx113_1⟩ := at_T64 HR0_3.out x9_1 p113 q113
         cases e113
         replace hx113_0 := (HB.out.cell (World.block_lt_of_cell? w _ hx113_0)).trans hx113_0
         replace hx113_1 := (HB.out.cell (World.block_lt_of_cell? w _ hx113_1)).trans hx113_1
         replace p113 := eq_true p113
         replace q113 := eq_true q113
         go_wp2_with (first | ((with_reducible refine gate_dst (N := 5) rfl ?_); refine bx_ (N := 5) (cs := #[.int .i64 0, .int .i64 0]) (t := 64) ?_; intro gb114 hg w13 hbox hb; have n0_ := Aside0.mk (Kd.R_below (by (with_reducible repeat (first | apply Kd.R_alloc | apply Kd.R_drewN | apply Kd.R_drew)); exact HO_3.out) hb); have n1_ := Aside0.mk (blk_below (g := gb112) (o := .cells #[.int .i64 a0_0, .int .i64 a0_1, .int .i64 a0_2, .slice (some ad113) l0_3.length c0_3] 62 (0, 0)) (bk_ BK112) hb); have n2_ := Aside0.mk (below_step (bw_ HB) hb); have n3_ := Aside0.mk (hbox); have n4_ := Aside0.mk ((by rw [hg]; exact (below_size (bw_ HB)) : w.heap.size ≤ gb114)); have n5_ := Aside0.mk ((by rw [hg]; exact (below_size (bw_ HB)) : w.heap.size ≤ gb114)); have n6_ := Aside0.mk ((by rw [hg]; exact Nat.ne_of_lt (blk_lt (g := gb112) (o := .cells #[.int .i64 a0_0, .int .i64 a0_1, .int .i64 a0_2, .slice (some ad113) l0_3.length c0_3] 62 (0, 0)) (bk_ BK112)) : gb112 ≠ gb114)); have n7_ := Aside0.mk ((by rw [hg]; exact Nat.ne_of_gt (blk_lt (g := gb112) (o := .cells #[.int .i64 a0_0, .int .i64 a0_1, .int .i64 a0_2, .slice (some ad113) l0_3.length c0_3] 62 (0, 0)) (bk_ BK112)) : gb114 ≠ gb112)); clear HO_3; clear BK112; clear HB; have HO_3 := n0_; have BK112 := n1_; have HB := n2_; have BK114 := n3_; have GW114 := n4_; have GE114 := n5_; have NB112_114 := n6_; have NB114_112 := n7_; clear n0_ n1_ n2_ n3_ n4_ n5_ n6_ n7_; clear hb hbox hg; have hnb14 := NB114_112.out; have hnc14 := NB112_114.out; obtain ⟨hcz15_0, hcz15_1, hfz15_0, hfz15_1⟩ := cz2_ BK114) | ((with_reducible refine gate_builtin (b := .append) (xs := #[.tmp 21, .tmp 24]) rfl ?_); at_builtin; refine Kd.R_append (Kd.int .i64) (w0 := w) w.heap.size rfl (.tmp 21) (.tmp 24) 22 3 (.int .i64 0) 8 rfl Try.underlying22 info3 rfl (by decide) (by omega) u3 x3_1 ((rd_T64 l0_3 x9_1).f1) [.int .i64 ((rd_T64 l0_3 x9_1).f1)] (fun _ => True) (fun _ => False) rfl (by first | (go_simp; done) | (go_simp; rfl)) ?aP (fun _ hk => hk.elim) ?aF ?aO ?aB ?aS ?aL ?_; (case aP => exact rfl); (case aB => exact (bw_ HB)); (case aF => exact (fun _ _ => trivial)); (case aO => exact (by (with_reducible repeat (first | apply Kd.R_alloc | apply Kd.R_drewN | apply Kd.R_drew)); exact Kd.R_mono (Kd.R_far (p := ⟨gb114, 1, none⟩) (Kd.R_far (p := ⟨gb114, 0, none⟩) (Kd.R_types HO_3.out BK114.out (by decide)) (fun _ hk => hk.2) (.int .i64 ((rd_T64 l0_3 x9_1).f0))) (fun _ hk => hk.2) (.int .i64 ((rd_T64 l0_3 x9_1).f1))) (fun _ hk => trivial))); (case aS => exact (below_size (bw_ HB))); (case aL => have := LMc12.out; omega); intro v116 w16 ho hb hg hat; rw [← Ny115.out] at ho; have n0_ := Aside0.mk (blk_grown (g := gb112) (o := .cells #[.int .i64 a0_0, .int .i64 a0_1, .int .i64 a0_2, .slice (some ad113) l0_3.length c0_3] 62 (0, 0)) (bk_ BK112) hg (Kd.R_ne HO_3.out BK112.out (by decide))); have n1_ := Aside0.mk (blk_grown (g := gb114) (o := .cells #[.int .i64 ((rd_T64 l0_3 x9_1).f0), .int .i64 ((rd_T64 l0_3 x9_1).f1)] 64 (0, 0)) (bk_ BK114) hg (Kd.R_ne HO_3.out BK114.out (by decide))); have n2_ := Aside0.mk (hb); have n3_ := Aside0.mk (ho); clear BK112; clear BK114; clear HB; clear HO_3; have BK112 := n0_; have BK114 := n1_; have HB := n2_; have HO117 := n3_; clear n0_ n1_ n2_ n3_; clear ho hb hg hat))
         go_roundg k1
         case measure => have := HK1.out; omega
         case rel => exact ⟨(y115), (wrap64 (x9_1 + 1)), rs_, H', ⟨by have := HK1.out; omega⟩, ⟨by (with_reducible repeat (first | apply Kd.R_alloc | apply Kd.R_drewN | apply Kd.R_drew)); exact HO117.out⟩, ⟨bk_ BK112⟩, ⟨bw_ HB⟩⟩
        ·
         rw [if_neg c12] at H
         exact absurd H (by simp)
       ·
        rw [if_neg c11] at H
        have c11b0 : decide (0 ≤ ((rd_T64 l0_3 x9_1).f1)) = false := decide_eq_false c11
        clear c11
        have H' := Aside0.mk H
        clear H
        have p113 : 0 ≤ (x9_1 : Int) := of_decide_eq_true (by first | (with_reducible assumption) | assumption)
        have q113 : x9_1 < (l0_3.length : Int) := of_decide_eq_true (by first | (with_reducible assumption) | assumption)
        obtain ⟨ad113, e113, hx113_0, hx113_1⟩ := at_T64 HR0_3.out x9_1 p113 q113
        cases e113
        replace hx113_0 := (HB.out.cell (World.block_lt_of_cell? w _ hx113_0)).trans hx113_0
        replace hx113_1 := (HB.out.cell (World.block_lt_of_cell? w _ hx113_1)).trans hx113_1
        replace p113 := eq_true p113
        replace q113 := eq_true q113
        go_wp2_with (first | ((with_reducible refine gate_dst (N := 5) rfl ?_); refine bx_ (N := 5) (cs := #[.int .i64 0, .int .i64 0]) (t := 64) ?_; intro gb114 hg w17 hbox hb; have n0_ := Aside0.mk (Kd.R_below (by (with_reducible repeat (first | apply Kd.R_alloc | apply Kd.R_drewN | apply Kd.R_drew)); exact HO_3.out) hb); have n1_ := Aside0.mk (blk_below (g := gb112) (o := .cells #[.int .i64 a0_0, .int .i64 a0_1, .int .i64 a0_2, .slice (some ad113) l0_3.length c0_3] 62 (0, 0)) (bk_ BK112) hb); have n2_ := Aside0.mk (below_step (bw_ HB) hb); have n3_ := Aside0.mk (hbox); have n4_ := Aside0.mk ((by rw [hg]; exact (below_size (bw_ HB)) : w.heap.size ≤ gb114)); have n5_ := Aside0.mk ((by rw [hg]; exact (below_size (bw_ HB)) : w.heap.size ≤ gb114)); have n6_ := Aside0.mk ((by rw [hg]; exact Nat.ne_of_lt (blk_lt (g := gb112) (o := .cells #[.int .i64 a0_0, .int .i64 a0_1, .int .i64 a0_2, .slice (some ad113) l0_3.length c0_3] 62 (0, 0)) (bk_ BK112)) : gb112 ≠ gb114)); have n7_ := Aside0.mk ((by rw [hg]; exact Nat.ne_of_gt (blk_lt (g := gb112) (o := .cells #[.int .i64 a0_0, .int .i64 a0_1, .int .i64 a0_2, .slice (some ad113) l0_3.length c0_3] 62 (0, 0)) (bk_ BK112)) : gb114 ≠ gb112)); clear HO_3; clear BK112; clear HB; have HO_3 := n0_; have BK112 := n1_; have HB := n2_; have BK114 := n3_; have GW114 := n4_; have GE114 := n5_; have NB112_114 := n6_; have NB114_112 := n7_; clear n0_ n1_ n2_ n3_ n4_ n5_ n6_ n7_; clear hb hbox hg; have hnb18 := NB114_112.out; have hnc18 := NB112_114.out; obtain ⟨hcz19_0, hcz19_1, hfz19_0, hfz19_1⟩ := cz2_ BK114))
        go_roundg k1
        case measure => have := HK1.out; omega
        case rel => exact ⟨(x3_1), (wrap64 (x9_1 + 1)), rs_, H', ⟨by have := HK1.out; omega⟩, ⟨by (with_reducible repeat (first | apply Kd.R_alloc | apply Kd.R_drewN | apply Kd.R_drew)); exact Kd.R_mono (Kd.R_far (p := ⟨gb114, 1, none⟩) (Kd.R_far (p := ⟨gb114, 0, none⟩) (Kd.R_types HO_3.out BK114.out (by decide)) (fun _ hk => hk.2) (.int .i64 ((rd_T64 l0_3 x9_1).f0))) (fun _ hk => hk.2) (.int .i64 ((rd_T64 l0_3 x9_1).f1))) (fun _ hk => trivial)⟩, ⟨bk_ BK112⟩, ⟨bw_ HB⟩⟩
     ·
      rw [if_neg c6] at H
      exact absurd H (by simp)
    ·
     rw [if_neg c5] at H
     exact absurd H (by simp)
   ·
    rw [if_neg c4] at H
    have c4b0 : decide (x9_1 < (l0_3.length : Int)) = false := decide_eq_false c4
    clear c4
    obtain rfl := Option.some.inj H
    go_wp2
    go_ret
    exact ⟨_, by first | rfl | (simp [errW_none, errW_some] <;> rfl) | (simp [*, errW_none, errW_some] <;> rfl), by (with_reducible repeat (first | apply Kd.R_alloc | apply Kd.R_drewN | apply Kd.R_drew)); exact HO_3.out, bw_ HB⟩

-- NOT PRINTED: function 64 (flow_postorder_1)

-- NOT PRINTED: function 58 (flow_postorder)

/-! ### bits_Mul32: function 67 -/
set_option maxRecDepth 100000 in
def bits_Mul32.f (a0 : Int) (a1 : Int) : Option (Int × Int) := some (((IntKind.u64.wrap ((IntKind.u64.wrap (a0)) * (IntKind.u64.wrap (a1)))) / 4294967296) % 4294967296, (IntKind.u64.wrap ((IntKind.u64.wrap (a0)) * (IntKind.u64.wrap (a1)))) % 4294967296)
set_option maxHeartbeats 8000000 in
set_option maxRecDepth 100000 in
theorem bits_Mul32.calls (a0 : Int) (a1 : Int) (r1 : Int) (r2 : Int) (w : World) (h : bits_Mul32.f a0 a1 = some (r1, r2)) :
  Calls Try.prog 67 #[.int .u32 a0, .int .u32 a1] w fun e w' => e = .returned (.tuple #[.int .u32 r1, .int .u32 r2]) ∧ Drawn0 w w' := by
 have H : (some (((IntKind.u64.wrap ((IntKind.u64.wrap (a0)) * (IntKind.u64.wrap (a1)))) / 4294967296) % 4294967296, (IntKind.u64.wrap ((IntKind.u64.wrap (a0)) * (IntKind.u64.wrap (a1)))) % 4294967296)) = some (r1, r2) := h
 clear h
 simp only [Option.some.injEq, Prod.mk.injEq] at H
 obtain ⟨rfl, rfl⟩ := H
 go_enter Try.func67, Try.ntmps67
 go_wp2
 go_ret2
 exact ⟨by first | rfl | (simp; done) | (simp [*]; done), by repeat (first | exact Drawn0.refl _ | apply Drawn0.step)⟩

/-! ### bits_Mul64: function 68 -/
set_option maxRecDepth 100000 in
def bits_Mul64.f (a0 : Int) (a1 : Int) : Option (Int × Int) := some (IntKind.u64.wrap ((IntKind.u64.wrap ((IntKind.u64.wrap ((a0 / 4294967296) * (a1 / 4294967296))) + ((IntKind.u64.wrap ((IntKind.u64.wrap ((a0 / 4294967296) * (Go.bits .and .u64 a1 4294967295))) + ((IntKind.u64.wrap ((Go.bits .and .u64 a0 4294967295) * (Go.bits .and .u64 a1 4294967295))) / 4294967296))) / 4294967296))) + ((IntKind.u64.wrap ((Go.bits .and .u64 (IntKind.u64.wrap ((IntKind.u64.wrap ((a0 / 4294967296) * (Go.bits .and .u64 a1 4294967295))) + ((IntKind.u64.wrap ((Go.bits .and .u64 a0 4294967295) * (Go.bits .and .u64 a1 4294967295))) / 4294967296))) 4294967295) + (IntKind.u64.wrap ((Go.bits .and .u64 a0 4294967295) * (a1 / 4294967296))))) / 4294967296)), IntKind.u64.wrap (a0 * a1))
set_option maxHeartbeats 8000000 in
set_option maxRecDepth 100000 in
theorem bits_Mul64.calls (a0 : Int) (a1 : Int) (r1 : Int) (r2 : Int) (w : World) (h : bits_Mul64.f a0 a1 = some (r1, r2)) :
  Calls Try.prog 68 #[.int .u64 a0, .int .u64 a1] w fun e w' => e = .returned (.tuple #[.int .u64 r1, .int .u64 r2]) ∧ Drawn0 w w' := by
 have H : (some (IntKind.u64.wrap ((IntKind.u64.wrap ((IntKind.u64.wrap ((a0 / 4294967296) * (a1 / 4294967296))) + ((IntKind.u64.wrap ((IntKind.u64.wrap ((a0 / 4294967296) * (Go.bits .and .u64 a1 4294967295))) + ((IntKind.u64.wrap ((Go.bits .and .u64 a0 4294967295) * (Go.bits .and .u64 a1 4294967295))) / 4294967296))) / 4294967296))) + ((IntKind.u64.wrap ((Go.bits .and .u64 (IntKind.u64.wrap ((IntKind.u64.wrap ((a0 / 4294967296) * (Go.bits .and .u64 a1 4294967295))) + ((IntKind.u64.wrap ((Go.bits .and .u64 a0 4294967295) * (Go.bits .and .u64 a1 4294967295))) / 4294967296))) 4294967295) + (IntKind.u64.wrap ((Go.bits .and .u64 a0 4294967295) * (a1 / 4294967296))))) / 4294967296)), IntKind.u64.wrap (a0 * a1))) = some (r1, r2) := h
 clear h
 simp only [Option.some.injEq, Prod.mk.injEq] at H
 obtain ⟨rfl, rfl⟩ := H
 go_enter Try.func68, Try.ntmps68
 go_wp2
 go_ret2
 exact ⟨by first | rfl | (simp; done) | (simp [*]; done), by repeat (first | exact Drawn0.refl _ | apply Drawn0.step)⟩

/-! ### bits_Mul: function 65 -/
set_option maxRecDepth 100000 in
def bits_Mul.f (a0 : Int) (a1 : Int) : Option (Int × Int) := (bits_Mul64.f a0 a1).bind fun bt124 => (some (bt124.1, bt124.2))
set_option maxHeartbeats 8000000 in
set_option maxRecDepth 100000 in
theorem bits_Mul.calls (a0 : Int) (a1 : Int) (r1 : Int) (r2 : Int) (w : World) (h : bits_Mul.f a0 a1 = some (r1, r2)) :
  Calls Try.prog 65 #[.int .u64 a0, .int .u64 a1] w fun e w' => e = .returned (.tuple #[.int .u64 r1, .int .u64 r2]) ∧ Drawn0 w w' := by
 have H : ((bits_Mul64.f a0 a1).bind fun bt124 => (some (bt124.1, bt124.2))) = some (r1, r2) := h
 clear h
 replace H := Option.bind_eq_some_iff.mp H
 obtain ⟨⟨t124, t125⟩, A30, H⟩ := H
 replace H : (some (t124, t125)) = some (r1, r2) := H
 have A3 := Aside0.mk A30
 clear A30
 simp only [Option.some.injEq, Prod.mk.injEq] at H
 obtain ⟨rfl, rfl⟩ := H
 go_enter Try.func65, Try.ntmps65
 go_wp2_with (first | ((with_reducible refine gate_callee (f := 68) rfl ?_); refine goesL_ (some 25) rfl rfl Try.func68 (by kernel_rfl) rfl #[.int .u64 a0, .int .u64 a1] rfl ar_ ?_; (with_reducible refine (bits_Mul64.calls a0 a1 t124 t125 _ A3.out).mono ?_); rintro e w' ⟨rfl, ⟨nd, rfl⟩⟩; refine ⟨_, rfl, ?_⟩))
 go_ret2
 exact ⟨by first | rfl | (simp; done) | (simp [*]; done), by repeat (first | exact Drawn0.refl _ | apply Drawn0.step)⟩

-- NOT PRINTED: function 59 (slices_Repeat_int_int)

-- NOT PRINTED: function 66 (slices_Backward_int_int_1)

-- NOT PRINTED: function 60 (slices_Backward_int_int)

end Go.Proofs.Ytaellapacoikaaa.PB
