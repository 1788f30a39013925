import Derived.Test.YtaellapacoikaaaV0
import Derived.Test.YtaellapacoikaaaVSAx0
import Derived.Test.YtaellapacoikaaaVSAx6
namespace Go.Proofs.Ytaellapacoikaaa.PA
open Go.RowKit Go.Proofs.YtaellapacoikaaaW.PrintWords Go.Proofs.YtaellapacoikaaaW.PrintLast Go.Proofs.YtaellapacoikaaaW.PrintMore
attribute [local go_sem] max2_int min2_int max_two min_two max_three min_three max_four min_four   -- for this text's walks alone
set_option linter.unusedVariables false
set_option linter.unusedSimpArgs false

/-! ### isa_Flow: function 57 -/
set_option maxRecDepth 100000 in
mutual
def isa_Flow.j0 : Nat → Int → Bool → Option (Int × Int × Int)
  | 0, _, _ => none
  | k + 1, x0, x4 => if x4 = true then (some (0, 3, (-2))) else (if x0 = 0 then (some (7, 0, 0)) else (if x0 = 27 then (isa_Flow.j1 k x0 true) else (if x0 = 28 then (isa_Flow.j1 k x0 true) else (isa_Flow.j1 k x0 (x0 == 39)))))
def isa_Flow.j1 : Nat → Int → Bool → Option (Int × Int × Int)
  | 0, _, _ => none
  | k + 1, x0, x16 => if x16 = true then (some (2, 0, 0)) else (if x0 ≥ 29 then (isa_Flow.j2 k x0 (decide (x0 ≤ 36))) else (isa_Flow.j2 k x0 false))
def isa_Flow.j2 : Nat → Int → Bool → Option (Int × Int × Int)
  | 0, _, _ => none
  | k + 1, x0, x28 => if x28 = true then (some (3, 0, 0)) else (if x0 = 40 then (isa_Flow.j3 k x0 true) else (isa_Flow.j3 k x0 (x0 == 41)))
def isa_Flow.j3 : Nat → Int → Bool → Option (Int × Int × Int)
  | 0, _, _ => none
  | k + 1, x0, x36 => if x36 = true then (some (4, 0, 0)) else (if x0 = 42 then (some (5, 0, 0)) else (if x0 = 37 then (some (6, 0, 0)) else (if x0 = 38 then (some (6, 0, 0)) else (if x0 = 4 then (some (6, 0, 0)) else (some (1, 0, 0))))))
end
set_option maxRecDepth 100000 in
def isa_Flow.f (k : Nat) (a0 : Int) : Option (Int × Int × Int) := if a0 < 0 then (isa_Flow.j0 k a0 true) else (isa_Flow.j0 k a0 (decide (a0 ≥ 59)))
set_option maxRecDepth 100000 in
theorem isa_Flow.mono_l : ∀ k, (∀ y0 y1, LeO (isa_Flow.j0 k y0 y1) (isa_Flow.j0 (k + 1) y0 y1)) ∧ (∀ y0 y1, LeO (isa_Flow.j1 k y0 y1) (isa_Flow.j1 (k + 1) y0 y1)) ∧ (∀ y0 y1, LeO (isa_Flow.j2 k y0 y1) (isa_Flow.j2 (k + 1) y0 y1)) ∧ (∀ y0 y1, LeO (isa_Flow.j3 k y0 y1) (isa_Flow.j3 (k + 1) y0 y1))
  | 0 => ⟨fun _ _ r h => by simp [isa_Flow.j0] at h, fun _ _ r h => by simp [isa_Flow.j1] at h, fun _ _ r h => by simp [isa_Flow.j2] at h, fun _ _ r h => by simp [isa_Flow.j3] at h⟩
  | k + 1 => by
    obtain ⟨ih0, ih1, ih2, ih3⟩ := isa_Flow.mono_l k
    refine ⟨?_, ?_, ?_, ?_⟩
    · intro y0 y1
      unfold isa_Flow.j0
      repeat' first
      | (with_reducible exact ih0 _ _)
      | (with_reducible exact ih1 _ _)
      | (with_reducible exact ih2 _ _)
      | (with_reducible exact ih3 _ _)
      | (with_reducible exact LeO.refl _)
      | (with_reducible exact LeO.none _)
      | (with_reducible refine LeO.ite ?_ ?_)
      | (with_reducible refine LeO.bind ?_ (fun _ => ?_))
      | exact ih0 _ _
      | exact ih1 _ _
      | exact ih2 _ _
      | exact ih3 _ _
      | exact LeO.none _
      | refine LeO.ite ?_ ?_
      | refine LeO.bind ?_ (fun _ => ?_)
    · intro y0 y1
      unfold isa_Flow.j1
      repeat' first
      | (with_reducible exact ih0 _ _)
      | (with_reducible exact ih1 _ _)
      | (with_reducible exact ih2 _ _)
      | (with_reducible exact ih3 _ _)
      | (with_reducible exact LeO.refl _)
      | (with_reducible exact LeO.none _)
      | (with_reducible refine LeO.ite ?_ ?_)
      | (with_reducible refine LeO.bind ?_ (fun _ => ?_))
      | exact ih0 _ _
      | exact ih1 _ _
      | exact ih2 _ _
      | exact ih3 _ _
      | exact LeO.none _
      | refine LeO.ite ?_ ?_
      | refine LeO.bind ?_ (fun _ => ?_)
    · intro y0 y1
      unfold isa_Flow.j2
      repeat' first
      | (with_reducible exact ih0 _ _)
      | (with_reducible exact ih1 _ _)
      | (with_reducible exact ih2 _ _)
      | (with_reducible exact ih3 _ _)
      | (with_reducible exact LeO.refl _)
      | (with_reducible exact LeO.none _)
      | (with_reducible refine LeO.ite ?_ ?_)
      | (with_reducible refine LeO.bind ?_ (fun _ => ?_))
      | exact ih0 _ _
      | exact ih1 _ _
      | exact ih2 _ _
      | exact ih3 _ _
      | exact LeO.none _
      | refine LeO.ite ?_ ?_
      | refine LeO.bind ?_ (fun _ => ?_)
    · intro y0 y1
      unfold isa_Flow.j3
      repeat' first
      | (with_reducible exact ih0 _ _)
      | (with_reducible exact ih1 _ _)
      | (with_reducible exact ih2 _ _)
      | (with_reducible exact ih3 _ _)
      | (with_reducible exact LeO.refl _)
      | (with_reducible exact LeO.none _)
      | (with_reducible refine LeO.ite ?_ ?_)
      | (with_reducible refine LeO.bind ?_ (fun _ => ?_))
      | exact ih0 _ _
      | exact ih1 _ _
      | exact ih2 _ _
      | exact ih3 _ _
      | exact LeO.none _
      | refine LeO.ite ?_ ?_
      | refine LeO.bind ?_ (fun _ => ?_)
set_option maxRecDepth 100000 in
theorem isa_Flow.mono : ∀ a0 k, LeO (isa_Flow.f k a0) (isa_Flow.f (k + 1) a0) := by
  intro a0 k
  obtain ⟨ih0, ih1, ih2, ih3⟩ := isa_Flow.mono_l k
  unfold isa_Flow.f
  repeat' first
      | (with_reducible exact ih0 _ _)
      | (with_reducible exact ih1 _ _)
      | (with_reducible exact ih2 _ _)
      | (with_reducible exact ih3 _ _)
      | (with_reducible exact LeO.refl _)
      | (with_reducible exact LeO.none _)
      | (with_reducible refine LeO.ite ?_ ?_)
      | (with_reducible refine LeO.bind ?_ (fun _ => ?_))
      | exact ih0 _ _
      | exact ih1 _ _
      | exact ih2 _ _
      | exact ih3 _ _
      | exact LeO.none _
      | refine LeO.ite ?_ ?_
      | refine LeO.bind ?_ (fun _ => ?_)
set_option maxHeartbeats 8000000 in
set_option maxRecDepth 100000 in
theorem isa_Flow.calls (k : Nat) (a0 : Int) (r1 : Int) (r2 : Int) (r3 : Int) (w : World) (h : isa_Flow.f k a0 = some (r1, r2, r3)) :
    Calls Try.prog 57 #[.int .i64 a0] w fun e w' => e = .returned (.tuple #[.int .i64 r1, .agg #[.int .i64 r2, .int .i64 r3]]) ∧ Below w.heap.size w w' := by
  have hu28 := Try.underlying28
  have HB := Aside0.mk (Below.refl w.heap.size w)
  have H : (if a0 < 0 then (isa_Flow.j0 k a0 true) else (isa_Flow.j0 k a0 (decide (a0 ≥ 59)))) = some (r1, r2, r3) := h
  clear h
  have HC2 := Aside0.mk H
  clear H
  go_enter Try.func57, Try.ntmps57
  go_upto_region 1 with (first | ((with_reducible refine gate_dst (N := 3) rfl ?_); refine bx_ (N := 3) (cs := #[.int .i64 0, .int .i64 0]) (t := 28) ?_; intro gb216 hg w3 hbox hb; have BK216 := Aside0.mk hbox; have GW216 := bs_ HB hg; have GE216 := bs_ HB hg; replace HB := hs_ HB hb; clear hb hbox hg))
  (try simp only [Act.put, List.setIfInBounds_toArray, List.set_cons_zero, List.set_cons_succ])
  go_cut [4] (fun v4 wc => ∃ (kq : Nat) (x4_1 : Bool), v4 = .bool x4_1 ∧ Aside0 (isa_Flow.j0 kq a0 x4_1 = some (r1, r2, r3)) ∧ Aside0 (kq ≤ k) ∧ Aside0 (wc.heap[gb216]? = some (.cells #[.int .i64 0, .int .i64 0] 28 (0, 0))) ∧ Aside0 (Below w.heap.size w wc))
  case first =>
    have H := HC2.out
    clear HC2
    by_cases c4 : a0 < 0
    · rw [if_pos c4] at H
      have c4b0 : decide (a0 < 0) = true := decide_eq_true c4
      clear c4
      (first | rw [c4b0] | (simp only [i64_w, i32_w]; rw [c4b0]) | skip)
      have H' := Aside0.mk H
      clear H
      go_wp2
      go_meet
      case rel => exact ⟨_, (true), rs_, H', le_, ⟨bk_ BK216⟩, ⟨bw_ HB⟩⟩
    · rw [if_neg c4] at H
      have c4b0 : decide (a0 < 0) = false := decide_eq_false c4
      clear c4
      (first | rw [c4b0] | (simp only [i64_w, i32_w]; rw [c4b0]) | skip)
      have H' := Aside0.mk H
      clear H
      go_wp2
      go_meet
      case rel => exact ⟨_, (decide (a0 ≥ 59)), rs_, H', le_, ⟨bk_ BK216⟩, ⟨bw_ HB⟩⟩
  case rest =>
    clear HC2
    (try clear p2); (try clear c4); (try clear c4b0)
    obtain ⟨kq, x4_1, rfl, HA, HJ1, BK216, HB⟩ := hcut
    cases kq with
    | zero => exact absurd HA.out (by simp [isa_Flow.j0])
    | succ kj1 =>
      have H := HA.out
      clear HA
      simp only [isa_Flow.j0] at H
      by_cases c5 : x4_1 = true
      · subst c5
        have H1 : (some (0, 3, (-2))) = some (r1, r2, r3) := by rw [if_pos rfl] at H; exact H
        clear H
        have H := H1
        clear H1
        simp only [Option.some.injEq, Prod.mk.injEq] at H
        obtain ⟨rfl, rfl, rfl⟩ := H
        obtain ⟨hcz6_0, hcz6_1, hfz6_0, hfz6_1⟩ := cz2_ BK216
        go_wp2
        refine bodyPost_ret (results_tc rfl _ _ gb216 28 #[.int .i64 3, .int .i64 (-2)] (0, 0) _ rfl (bk_ BK216) Try.underlying28 rfl (by kernel_rfl)) rfl ?_
        exact ⟨id_, bw_ HB⟩
      · replace c5 := Bool.eq_false_iff.mpr c5
        subst c5
        have H1 : (if a0 = 0 then (some (7, 0, 0)) else (if a0 = 27 then (isa_Flow.j1 kj1 a0 true) else (if a0 = 28 then (isa_Flow.j1 kj1 a0 true) else (isa_Flow.j1 kj1 a0 (a0 == 39))))) = some (r1, r2, r3) := by rw [if_neg (show ¬ (false = true) by decide)] at H; exact H
        clear H
        have H := H1
        clear H1
        by_cases c7 : a0 = 0
        · rw [if_pos c7] at H
          have c7b0 : (a0 == 0) = true := beq_iff_eq.mpr c7
          have c7b1 : (a0 != 0) = false := bne_eq_false_iff_eq.mpr c7
          clear c7
          simp only [Option.some.injEq, Prod.mk.injEq] at H
          obtain ⟨rfl, rfl, rfl⟩ := H
          obtain ⟨hcz8_0, hcz8_1, hfz8_0, hfz8_1⟩ := cz2_ BK216
          go_wp2
          refine bodyPost_ret (results_tc rfl _ _ gb216 28 #[.int .i64 0, .int .i64 0] (0, 0) _ rfl (bk_ BK216) Try.underlying28 rfl (by kernel_rfl)) rfl ?_
          exact ⟨id_, bw_ HB⟩
        · rw [if_neg c7] at H
          have c7b0 : (a0 == 0) = false := beq_eq_false_iff_ne.mpr c7
          have c7b1 : (a0 != 0) = true := bne_iff_ne.mpr c7
          have HC9 := Aside0.mk H
          clear H
          go_upto_region 5 with (fail)
          go_cut [16] (fun v16 wc => ∃ (kq : Nat) (x16_8 : Bool), v16 = .bool x16_8 ∧ Aside0 (isa_Flow.j1 kq a0 x16_8 = some (r1, r2, r3)) ∧ Aside0 (kq ≤ kj1) ∧ Aside0 (wc.heap[gb216]? = some (.cells #[.int .i64 0, .int .i64 0] 28 (0, 0))) ∧ Aside0 (Below w.heap.size w wc))
          case first =>
            have H := HC9.out
            clear HC9
            by_cases c10 : a0 = 27
            · rw [if_pos c10] at H
              have c10b0 : (a0 == 27) = true := beq_iff_eq.mpr c10
              have c10b1 : (a0 != 27) = false := bne_eq_false_iff_eq.mpr c10
              clear c10
              (first | rw [c10b0] | (simp only [i64_w, i32_w]; rw [c10b0]) | skip)
              have H' := Aside0.mk H
              clear H
              go_wp2
              go_meet
              case rel => exact ⟨_, (true), rs_, H', ⟨by have := HJ1.out; first | omega | exact Nat.le_refl _⟩, ⟨bk_ BK216⟩, ⟨bw_ HB⟩⟩
            · rw [if_neg c10] at H
              have c10b0 : (a0 == 27) = false := beq_eq_false_iff_ne.mpr c10
              have c10b1 : (a0 != 27) = true := bne_iff_ne.mpr c10
              (first | rw [c10b0] | (simp only [i64_w, i32_w]; rw [c10b0]) | skip)
              by_cases c11 : a0 = 28
              · rw [if_pos c11] at H
                have c11b0 : (a0 == 28) = true := beq_iff_eq.mpr c11
                have c11b1 : (a0 != 28) = false := bne_eq_false_iff_eq.mpr c11
                clear c11
                have H' := Aside0.mk H
                clear H
                go_wp2
                go_meet
                case rel => exact ⟨_, (true), rs_, H', ⟨by have := HJ1.out; first | omega | exact Nat.le_refl _⟩, ⟨bk_ BK216⟩, ⟨bw_ HB⟩⟩
              · rw [if_neg c11] at H
                have c11b0 : (a0 == 28) = false := beq_eq_false_iff_ne.mpr c11
                have c11b1 : (a0 != 28) = true := bne_iff_ne.mpr c11
                have H' := Aside0.mk H
                clear H
                go_wp2
                go_meet
                case rel => exact ⟨_, ((a0 == 39)), rs_, H', ⟨by have := HJ1.out; first | omega | exact Nat.le_refl _⟩, ⟨bk_ BK216⟩, ⟨bw_ HB⟩⟩
          case rest =>
            clear HC9
            (try clear c1); (try clear p2); (try clear c4); (try clear c4b0); (try clear c5); (try clear c7); (try clear c7b0); (try clear c7b1); (try clear c10); (try clear c10b0); (try clear c10b1); (try clear c11); (try clear c11b0); (try clear c11b1); (try clear hcz6_0); (try clear hcz6_1); (try clear hcz8_0); (try clear hcz8_1); (try clear hfz6_0); (try clear hfz6_1); (try clear hfz8_0); (try clear hfz8_1); (try clear p2)
            obtain ⟨kq, x16_8, rfl, HA, HJ8, BK216, HB⟩ := hcut
            cases kq with
            | zero => exact absurd HA.out (by simp [isa_Flow.j1])
            | succ kj8 =>
              have H := HA.out
              clear HA
              simp only [isa_Flow.j1] at H
              by_cases c12 : x16_8 = true
              · subst c12
                have H1 : (some (2, 0, 0)) = some (r1, r2, r3) := by rw [if_pos rfl] at H; exact H
                clear H
                have H := H1
                clear H1
                simp only [Option.some.injEq, Prod.mk.injEq] at H
                obtain ⟨rfl, rfl, rfl⟩ := H
                obtain ⟨hcz13_0, hcz13_1, hfz13_0, hfz13_1⟩ := cz2_ BK216
                go_wp2
                refine bodyPost_ret (results_tc rfl _ _ gb216 28 #[.int .i64 0, .int .i64 0] (0, 0) _ rfl (bk_ BK216) Try.underlying28 rfl (by kernel_rfl)) rfl ?_
                exact ⟨id_, bw_ HB⟩
              · replace c12 := Bool.eq_false_iff.mpr c12
                subst c12
                have H1 : (if a0 ≥ 29 then (isa_Flow.j2 kj8 a0 (decide (a0 ≤ 36))) else (isa_Flow.j2 kj8 a0 false)) = some (r1, r2, r3) := by rw [if_neg (show ¬ (false = true) by decide)] at H; exact H
                clear H
                have H := H1
                clear H1
                have HC14 := Aside0.mk H
                clear H
                go_upto_region 7 with (fail)
                go_cut [28] (fun v28 wc => ∃ (kq : Nat) (x28_13 : Bool), v28 = .bool x28_13 ∧ Aside0 (isa_Flow.j2 kq a0 x28_13 = some (r1, r2, r3)) ∧ Aside0 (kq ≤ kj8) ∧ Aside0 (wc.heap[gb216]? = some (.cells #[.int .i64 0, .int .i64 0] 28 (0, 0))) ∧ Aside0 (Below w.heap.size w wc))
                case first =>
                  have H := HC14.out
                  clear HC14
                  by_cases c15 : a0 ≥ 29
                  · rw [if_pos c15] at H
                    have c15b0 : decide (29 ≤ a0) = true := decide_eq_true c15
                    clear c15
                    (first | rw [c15b0] | (simp only [i64_w, i32_w]; rw [c15b0]) | skip)
                    have H' := Aside0.mk H
                    clear H
                    go_wp2
                    go_meet
                    case rel => exact ⟨_, (decide (a0 ≤ 36)), rs_, H', ⟨by have := HJ1.out; have := HJ8.out; first | omega | exact Nat.le_refl _⟩, ⟨bk_ BK216⟩, ⟨bw_ HB⟩⟩
                  · rw [if_neg c15] at H
                    have c15b0 : decide (29 ≤ a0) = false := decide_eq_false c15
                    clear c15
                    (first | rw [c15b0] | (simp only [i64_w, i32_w]; rw [c15b0]) | skip)
                    have H' := Aside0.mk H
                    clear H
                    go_wp2
                    go_meet
                    case rel => exact ⟨_, (false), rs_, H', ⟨by have := HJ1.out; have := HJ8.out; first | omega | exact Nat.le_refl _⟩, ⟨bk_ BK216⟩, ⟨bw_ HB⟩⟩
                case rest =>
                  clear HC14
                  (try clear c1); (try clear p2); (try clear c4); (try clear c4b0); (try clear c5); (try clear c7); (try clear c7b0); (try clear c7b1); (try clear c10); (try clear c10b0); (try clear c10b1); (try clear c11); (try clear c11b0); (try clear c11b1); (try clear c12); (try clear c15); (try clear c15b0); (try clear hcz13_0); (try clear hcz13_1); (try clear hcz6_0); (try clear hcz6_1); (try clear hcz8_0); (try clear hcz8_1); (try clear hfz13_0); (try clear hfz13_1); (try clear hfz6_0); (try clear hfz6_1); (try clear hfz8_0); (try clear hfz8_1); (try clear p2)
                  obtain ⟨kq, x28_13, rfl, HA, HJ13, BK216, HB⟩ := hcut
                  cases kq with
                  | zero => exact absurd HA.out (by simp [isa_Flow.j2])
                  | succ kj13 =>
                    have H := HA.out
                    clear HA
                    simp only [isa_Flow.j2] at H
                    by_cases c16 : x28_13 = true
                    · subst c16
                      have H1 : (some (3, 0, 0)) = some (r1, r2, r3) := by rw [if_pos rfl] at H; exact H
                      clear H
                      have H := H1
                      clear H1
                      simp only [Option.some.injEq, Prod.mk.injEq] at H
                      obtain ⟨rfl, rfl, rfl⟩ := H
                      obtain ⟨hcz17_0, hcz17_1, hfz17_0, hfz17_1⟩ := cz2_ BK216
                      go_wp2
                      refine bodyPost_ret (results_tc rfl _ _ gb216 28 #[.int .i64 0, .int .i64 0] (0, 0) _ rfl (bk_ BK216) Try.underlying28 rfl (by kernel_rfl)) rfl ?_
                      exact ⟨id_, bw_ HB⟩
                    · replace c16 := Bool.eq_false_iff.mpr c16
                      subst c16
                      have H1 : (if a0 = 40 then (isa_Flow.j3 kj13 a0 true) else (isa_Flow.j3 kj13 a0 (a0 == 41))) = some (r1, r2, r3) := by rw [if_neg (show ¬ (false = true) by decide)] at H; exact H
                      clear H
                      have H := H1
                      clear H1
                      have HC18 := Aside0.mk H
                      clear H
                      go_upto_region 9 with (fail)
                      go_cut [36] (fun v36 wc => ∃ (kq : Nat) (x36_17 : Bool), v36 = .bool x36_17 ∧ Aside0 (isa_Flow.j3 kq a0 x36_17 = some (r1, r2, r3)) ∧ Aside0 (kq ≤ kj13) ∧ Aside0 (wc.heap[gb216]? = some (.cells #[.int .i64 0, .int .i64 0] 28 (0, 0))) ∧ Aside0 (Below w.heap.size w wc))
                      case first =>
                        have H := HC18.out
                        clear HC18
                        by_cases c19 : a0 = 40
                        · rw [if_pos c19] at H
                          have c19b0 : (a0 == 40) = true := beq_iff_eq.mpr c19
                          have c19b1 : (a0 != 40) = false := bne_eq_false_iff_eq.mpr c19
                          clear c19
                          (first | rw [c19b0] | (simp only [i64_w, i32_w]; rw [c19b0]) | skip)
                          have H' := Aside0.mk H
                          clear H
                          go_wp2
                          go_meet
                          case rel => exact ⟨_, (true), rs_, H', ⟨by have := HJ1.out; have := HJ8.out; have := HJ13.out; first | omega | exact Nat.le_refl _⟩, ⟨bk_ BK216⟩, ⟨bw_ HB⟩⟩
                        · rw [if_neg c19] at H
                          have c19b0 : (a0 == 40) = false := beq_eq_false_iff_ne.mpr c19
                          have c19b1 : (a0 != 40) = true := bne_iff_ne.mpr c19
                          (first | rw [c19b0] | (simp only [i64_w, i32_w]; rw [c19b0]) | skip)
                          have H' := Aside0.mk H
                          clear H
                          go_wp2
                          go_meet
                          case rel => exact ⟨_, ((a0 == 41)), rs_, H', ⟨by have := HJ1.out; have := HJ8.out; have := HJ13.out; first | omega | exact Nat.le_refl _⟩, ⟨bk_ BK216⟩, ⟨bw_ HB⟩⟩
                      case rest =>
                        clear HC18
                        (try clear c1); (try clear p2); (try clear c4); (try clear c4b0); (try clear c5); (try clear c7); (try clear c7b0); (try clear c7b1); (try clear c10); (try clear c10b0); (try clear c10b1); (try clear c11); (try clear c11b0); (try clear c11b1); (try clear c12); (try clear c15); (try clear c15b0); (try clear c16); (try clear c19); (try clear c19b0); (try clear c19b1); (try clear hcz13_0); (try clear hcz13_1); (try clear hcz17_0); (try clear hcz17_1); (try clear hcz6_0); (try clear hcz6_1); (try clear hcz8_0); (try clear hcz8_1); (try clear hfz13_0); (try clear hfz13_1); (try clear hfz17_0); (try clear hfz17_1); (try clear hfz6_0); (try clear hfz6_1); (try clear hfz8_0); (try clear hfz8_1); (try clear p2)
                        obtain ⟨kq, x36_17, rfl, HA, HJ17, BK216, HB⟩ := hcut
                        cases kq with
                        | zero => exact absurd HA.out (by simp [isa_Flow.j3])
                        | succ kj17 =>
                          have H := HA.out
                          clear HA
                          simp only [isa_Flow.j3] at H
                          by_cases c20 : x36_17 = true
                          · subst c20
                            have H1 : (some (4, 0, 0)) = some (r1, r2, r3) := by rw [if_pos rfl] at H; exact H
                            clear H
                            have H := H1
                            clear H1
                            simp only [Option.some.injEq, Prod.mk.injEq] at H
                            obtain ⟨rfl, rfl, rfl⟩ := H
                            obtain ⟨hcz21_0, hcz21_1, hfz21_0, hfz21_1⟩ := cz2_ BK216
                            go_wp2
                            refine bodyPost_ret (results_tc rfl _ _ gb216 28 #[.int .i64 0, .int .i64 0] (0, 0) _ rfl (bk_ BK216) Try.underlying28 rfl (by kernel_rfl)) rfl ?_
                            exact ⟨id_, bw_ HB⟩
                          · replace c20 := Bool.eq_false_iff.mpr c20
                            subst c20
                            have H1 : (if a0 = 42 then (some (5, 0, 0)) else (if a0 = 37 then (some (6, 0, 0)) else (if a0 = 38 then (some (6, 0, 0)) else (if a0 = 4 then (some (6, 0, 0)) else (some (1, 0, 0)))))) = some (r1, r2, r3) := by rw [if_neg (show ¬ (false = true) by decide)] at H; exact H
                            clear H
                            have H := H1
                            clear H1
                            by_cases c22 : a0 = 42
                            · rw [if_pos c22] at H
                              have c22b0 : (a0 == 42) = true := beq_iff_eq.mpr c22
                              have c22b1 : (a0 != 42) = false := bne_eq_false_iff_eq.mpr c22
                              clear c22
                              simp only [Option.some.injEq, Prod.mk.injEq] at H
                              obtain ⟨rfl, rfl, rfl⟩ := H
                              obtain ⟨hcz23_0, hcz23_1, hfz23_0, hfz23_1⟩ := cz2_ BK216
                              go_wp2
                              refine bodyPost_ret (results_tc rfl _ _ gb216 28 #[.int .i64 0, .int .i64 0] (0, 0) _ rfl (bk_ BK216) Try.underlying28 rfl (by kernel_rfl)) rfl ?_
                              exact ⟨id_, bw_ HB⟩
                            · rw [if_neg c22] at H
                              have c22b0 : (a0 == 42) = false := beq_eq_false_iff_ne.mpr c22
                              have c22b1 : (a0 != 42) = true := bne_iff_ne.mpr c22
                              by_cases c24 : a0 = 37
                              · rw [if_pos c24] at H
                                have c24b0 : (a0 == 37) = true := beq_iff_eq.mpr c24
                                have c24b1 : (a0 != 37) = false := bne_eq_false_iff_eq.mpr c24
                                clear c24
                                simp only [Option.some.injEq, Prod.mk.injEq] at H
                                obtain ⟨rfl, rfl, rfl⟩ := H
                                obtain ⟨hcz25_0, hcz25_1, hfz25_0, hfz25_1⟩ := cz2_ BK216
                                go_wp2
                                refine bodyPost_ret (results_tc rfl _ _ gb216 28 #[.int .i64 0, .int .i64 0] (0, 0) _ rfl (bk_ BK216) Try.underlying28 rfl (by kernel_rfl)) rfl ?_
                                exact ⟨id_, bw_ HB⟩
                              · rw [if_neg c24] at H
                                have c24b0 : (a0 == 37) = false := beq_eq_false_iff_ne.mpr c24
                                have c24b1 : (a0 != 37) = true := bne_iff_ne.mpr c24
                                by_cases c26 : a0 = 38
                                · rw [if_pos c26] at H
                                  have c26b0 : (a0 == 38) = true := beq_iff_eq.mpr c26
                                  have c26b1 : (a0 != 38) = false := bne_eq_false_iff_eq.mpr c26
                                  clear c26
                                  simp only [Option.some.injEq, Prod.mk.injEq] at H
                                  obtain ⟨rfl, rfl, rfl⟩ := H
                                  obtain ⟨hcz27_0, hcz27_1, hfz27_0, hfz27_1⟩ := cz2_ BK216
                                  go_wp2
                                  refine bodyPost_ret (results_tc rfl _ _ gb216 28 #[.int .i64 0, .int .i64 0] (0, 0) _ rfl (bk_ BK216) Try.underlying28 rfl (by kernel_rfl)) rfl ?_
                                  exact ⟨id_, bw_ HB⟩
                                · rw [if_neg c26] at H
                                  have c26b0 : (a0 == 38) = false := beq_eq_false_iff_ne.mpr c26
                                  have c26b1 : (a0 != 38) = true := bne_iff_ne.mpr c26
                                  by_cases c28 : a0 = 4
                                  · rw [if_pos c28] at H
                                    have c28b0 : (a0 == 4) = true := beq_iff_eq.mpr c28
                                    have c28b1 : (a0 != 4) = false := bne_eq_false_iff_eq.mpr c28
                                    clear c28
                                    simp only [Option.some.injEq, Prod.mk.injEq] at H
                                    obtain ⟨rfl, rfl, rfl⟩ := H
                                    obtain ⟨hcz29_0, hcz29_1, hfz29_0, hfz29_1⟩ := cz2_ BK216
                                    go_wp2
                                    refine bodyPost_ret (results_tc rfl _ _ gb216 28 #[.int .i64 0, .int .i64 0] (0, 0) _ rfl (bk_ BK216) Try.underlying28 rfl (by kernel_rfl)) rfl ?_
                                    exact ⟨id_, bw_ HB⟩
                                  · rw [if_neg c28] at H
                                    have c28b0 : (a0 == 4) = false := beq_eq_false_iff_ne.mpr c28
                                    have c28b1 : (a0 != 4) = true := bne_iff_ne.mpr c28
                                    simp only [Option.some.injEq, Prod.mk.injEq] at H
                                    obtain ⟨rfl, rfl, rfl⟩ := H
                                    obtain ⟨hcz30_0, hcz30_1, hfz30_0, hfz30_1⟩ := cz2_ BK216
                                    go_wp2
                                    refine bodyPost_ret (results_tc rfl _ _ gb216 28 #[.int .i64 0, .int .i64 0] (0, 0) _ rfl (bk_ BK216) Try.underlying28 rfl (by kernel_rfl)) rfl ?_
                                    exact ⟨id_, bw_ HB⟩

/-! ### effects_simple: function 40 -/
set_option maxRecDepth 100000 in
def effects_simple.f (k : Nat) (a0_0 : Int) (l0_1 : List Int) : Option (Bool) := (effects_Find.f k a0_0 l0_1).bind fun bt218 => ((isa_Flow.f k a0_0).bind fun bt227 => (if bt227.1 = 1 then (if bt218.2.2.2.2.2.2.1 = true then (some false) else (if bt218.2.2.2.2.2.2.2 = true then (some false) else (if a0_0 = 13 then (some false) else (if a0_0 = 1 then (some true) else (if a0_0 ≥ 6 then (some (decide (a0_0 ≤ 53))) else (some false)))))) else (some false)))
set_option maxRecDepth 100000 in
theorem effects_simple.mono : ∀ a0 a1 k, LeO (effects_simple.f k a0 a1) (effects_simple.f (k + 1) a0 a1) := by
  intro a0 a1 k
  unfold effects_simple.f
  repeat' first
      | (with_reducible exact effects_Find.mono _ _ _)
      | (with_reducible exact isa_Flow.mono _ _)
      | (with_reducible exact LeO.refl _)
      | (with_reducible exact LeO.none _)
      | (with_reducible refine LeO.ite ?_ ?_)
      | (with_reducible refine LeO.bind ?_ (fun _ => ?_))
      | exact effects_Find.mono _ _ _
      | exact isa_Flow.mono _ _
      | exact LeO.none _
      | refine LeO.ite ?_ ?_
      | refine LeO.bind ?_ (fun _ => ?_)
set_option maxHeartbeats 8000000 in
set_option maxRecDepth 100000 in
theorem effects_simple.calls (k : Nat) (a0_0 : Int) (A0_1 : Option Addr) (c0_1 : Nat) (l0_1 : List Int) (r : Bool) (w : World) (hr0_1 : Kd.C (Kd.int .i64) w A0_1 l0_1.length l0_1) (hc0_1 : l0_1.length ≤ c0_1) (h : effects_simple.f k a0_0 l0_1 = some r) :
    Calls Try.prog 40 #[.agg #[.int .i64 a0_0, .slice A0_1 l0_1.length c0_1]] w fun e w' => e = .returned (.bool r) ∧ Below w.heap.size w w' := by
  have hu24 := Try.underlying24
  have hu26 := Try.underlying26
  have hu28 := Try.underlying28
  have HR0_1 := Aside0.mk hr0_1
  have HC0_1 := Aside0.mk hc0_1
  clear hr0_1 hc0_1
  have HB := Aside0.mk (Below.refl w.heap.size w)
  have H : ((effects_Find.f k a0_0 l0_1).bind fun bt218 => ((isa_Flow.f k a0_0).bind fun bt227 => (if bt227.1 = 1 then (if bt218.2.2.2.2.2.2.1 = true then (some false) else (if bt218.2.2.2.2.2.2.2 = true then (some false) else (if a0_0 = 13 then (some false) else (if a0_0 = 1 then (some true) else (if a0_0 ≥ 6 then (some (decide (a0_0 ≤ 53))) else (some false)))))) else (some false)))) = some r := h
  clear h
  replace H := Option.bind_eq_some_iff.mp H
  obtain ⟨⟨t218, t219, t220, t221, t222, t223, t224, t225⟩, A20, H⟩ := H
  replace H : ((isa_Flow.f k a0_0).bind fun bt227 => (if bt227.1 = 1 then (if t224 = true then (some false) else (if t225 = true then (some false) else (if a0_0 = 13 then (some false) else (if a0_0 = 1 then (some true) else (if a0_0 ≥ 6 then (some (decide (a0_0 ≤ 53))) else (some false)))))) else (some false))) = some r := H
  have A2 := Aside0.mk A20
  clear A20
  replace H := Option.bind_eq_some_iff.mp H
  obtain ⟨⟨t227, t228, t229⟩, A30, H⟩ := H
  replace H : (if t227 = 1 then (if t224 = true then (some false) else (if t225 = true then (some false) else (if a0_0 = 13 then (some false) else (if a0_0 = 1 then (some true) else (if a0_0 ≥ 6 then (some (decide (a0_0 ≤ 53))) else (some false)))))) else (some false)) = some r := H
  have A3 := Aside0.mk A30
  clear A30
  by_cases c4 : t227 = 1
  · rw [if_pos c4] at H
    have c4b0 : (t227 == 1) = true := beq_iff_eq.mpr c4
    have c4b1 : (t227 != 1) = false := bne_eq_false_iff_eq.mpr c4
    clear c4
    by_cases c5 : t224 = true
    · subst c5
      have H1 : (some false) = some r := by rw [if_pos rfl] at H; exact H
      clear H
      have H := H1
      clear H1
      obtain rfl := Option.some.inj H
      go_enter Try.func40, Try.ntmps40
      go_wp2_with (first | ((with_reducible refine gate_dst (N := 1) rfl ?_); refine bx_ (N := 1) (cs := #[.int .i64 a0_0, .slice A0_1 l0_1.length c0_1]) (t := 24) ?_; intro gb217 hg w6 hbox hb; have BK217 := Aside0.mk hbox; have GW217 := bs_ HB hg; have GE217 := bs_ HB hg; replace HB := hs_ HB hb; clear hb hbox hg; obtain ⟨hcz7_0, hcz7_1, hfz7_0, hfz7_1⟩ := cz2_ BK217) | ((with_reducible refine gate_callee (f := 35) rfl ?_); refine goesL_ (some 7) rfl rfl Try.func35 (by kernel_rfl) rfl #[.agg #[.int .i64 a0_0, .slice A0_1 l0_1.length c0_1]] rfl ar_ ?_; (with_reducible refine (effects_Find.calls k a0_0 _ _ l0_1 t218 t219 t220 t221 t222 t223 true t225 _ ?side1 ?side2 A2.out).mono ?_); (case side1 => exact cb_ HR0_1 HB); (case side2 => exact HC0_1.out); rintro e w8 ⟨rfl, hb⟩; refine ⟨_, rfl, ?_⟩; replace BK217 := bb_ BK217 hb; replace HB := hs_ HB hb; (try clear hb); (try clear hb2); (try clear hk); (try clear hi)) | ((with_reducible refine gate_dst (N := 3) rfl ?_); refine bx_ (N := 3) (cs := #[.int .i64 0, .int .i64 0, .int .i64 0, .int .i64 0, .int .i64 0, .int .i64 0, .bool false, .bool false]) (t := 26) ?_; intro gb226 hg w9 hbox hb; have BK226 := Aside0.mk hbox; have GW226 := bs_ HB hg; have GE226 := bs_ HB hg; have NB217_226 := nl_ BK217 hg; have NB226_217 := ng_ BK217 hg; replace BK217 := bb_ BK217 hb; replace HB := hs_ HB hb; clear hb hbox hg; have hnb10 := NB226_217.out; have hnc10 := NB217_226.out; obtain ⟨hcz11_0, hcz11_1, hcz11_2, hcz11_3, hcz11_4, hcz11_5, hcz11_6, hcz11_7, hfz11_0, hfz11_1, hfz11_2, hfz11_3, hfz11_4, hfz11_5, hfz11_6, hfz11_7⟩ := cz8_ BK226; obtain ⟨hcz12_0, hcz12_1, hfz12_0, hfz12_1⟩ := cz2_ BK217) | ((with_reducible refine gate_callee (f := 57) rfl ?_); refine goesL_ (some 11) rfl rfl Try.func57 (by kernel_rfl) rfl #[.int .i64 a0_0] rfl ar_ ?_; (with_reducible refine (isa_Flow.calls k a0_0 t227 t228 t229 _ A3.out).mono ?_); rintro e w13 ⟨rfl, hb⟩; refine ⟨_, rfl, ?_⟩; replace BK217 := bb_ BK217 hb; replace BK226 := bo_ (o' := .cells #[.int .i64 t218, .int .i64 t219, .int .i64 t220, .int .i64 t221, .int .i64 t222, .int .i64 t223, .bool true, .bool t225] 26 (0, 0)) BK226 hb; replace HB := hs_ HB hb; (try clear hb); (try clear hb2); (try clear hk); (try clear hi)) | ((with_reducible refine gate_dst (N := 5) rfl ?_); refine bx_ (N := 5) (cs := #[.int .i64 0, .int .i64 0]) (t := 28) ?_; intro gb230 hg w14 hbox hb; have BK230 := Aside0.mk hbox; have GW230 := bs_ HB hg; have GE230 := bs_ HB hg; have NB217_230 := nl_ BK217 hg; have NB230_217 := ng_ BK217 hg; have NB226_230 := nl_ BK226 hg; have NB230_226 := ng_ BK226 hg; replace BK217 := bb_ BK217 hb; replace BK226 := bb_ BK226 hb; replace HB := hs_ HB hb; clear hb hbox hg; have hnb15 := NB230_217.out; have hnc15 := NB217_230.out; have hnb16 := NB230_226.out; have hnc16 := NB226_230.out; obtain ⟨hcz17_0, hcz17_1, hfz17_0, hfz17_1⟩ := cz2_ BK230; obtain ⟨hcz18_0, hcz18_1, hcz18_2, hcz18_3, hcz18_4, hcz18_5, hcz18_6, hcz18_7, hfz18_0, hfz18_1, hfz18_2, hfz18_3, hfz18_4, hfz18_5, hfz18_6, hfz18_7⟩ := cz8_ BK226))
      go_ret
      exact ⟨id_, bw_ HB⟩
    · replace c5 := Bool.eq_false_iff.mpr c5
      subst c5
      have H1 : (if t225 = true then (some false) else (if a0_0 = 13 then (some false) else (if a0_0 = 1 then (some true) else (if a0_0 ≥ 6 then (some (decide (a0_0 ≤ 53))) else (some false))))) = some r := by rw [if_neg (show ¬ (false = true) by decide)] at H; exact H
      clear H
      have H := H1
      clear H1
      by_cases c19 : t225 = true
      · subst c19
        have H1 : (some false) = some r := by rw [if_pos rfl] at H; exact H
        clear H
        have H := H1
        clear H1
        obtain rfl := Option.some.inj H
        go_enter Try.func40, Try.ntmps40
        go_wp2_with (first | ((with_reducible refine gate_dst (N := 1) rfl ?_); refine bx_ (N := 1) (cs := #[.int .i64 a0_0, .slice A0_1 l0_1.length c0_1]) (t := 24) ?_; intro gb217 hg w20 hbox hb; have BK217 := Aside0.mk hbox; have GW217 := bs_ HB hg; have GE217 := bs_ HB hg; replace HB := hs_ HB hb; clear hb hbox hg; obtain ⟨hcz21_0, hcz21_1, hfz21_0, hfz21_1⟩ := cz2_ BK217) | ((with_reducible refine gate_callee (f := 35) rfl ?_); refine goesL_ (some 7) rfl rfl Try.func35 (by kernel_rfl) rfl #[.agg #[.int .i64 a0_0, .slice A0_1 l0_1.length c0_1]] rfl ar_ ?_; (with_reducible refine (effects_Find.calls k a0_0 _ _ l0_1 t218 t219 t220 t221 t222 t223 false true _ ?side1 ?side2 A2.out).mono ?_); (case side1 => exact cb_ HR0_1 HB); (case side2 => exact HC0_1.out); rintro e w22 ⟨rfl, hb⟩; refine ⟨_, rfl, ?_⟩; replace BK217 := bb_ BK217 hb; replace HB := hs_ HB hb; (try clear hb); (try clear hb2); (try clear hk); (try clear hi)) | ((with_reducible refine gate_dst (N := 3) rfl ?_); refine bx_ (N := 3) (cs := #[.int .i64 0, .int .i64 0, .int .i64 0, .int .i64 0, .int .i64 0, .int .i64 0, .bool false, .bool false]) (t := 26) ?_; intro gb226 hg w23 hbox hb; have BK226 := Aside0.mk hbox; have GW226 := bs_ HB hg; have GE226 := bs_ HB hg; have NB217_226 := nl_ BK217 hg; have NB226_217 := ng_ BK217 hg; replace BK217 := bb_ BK217 hb; replace HB := hs_ HB hb; clear hb hbox hg; have hnb24 := NB226_217.out; have hnc24 := NB217_226.out; obtain ⟨hcz25_0, hcz25_1, hcz25_2, hcz25_3, hcz25_4, hcz25_5, hcz25_6, hcz25_7, hfz25_0, hfz25_1, hfz25_2, hfz25_3, hfz25_4, hfz25_5, hfz25_6, hfz25_7⟩ := cz8_ BK226; obtain ⟨hcz26_0, hcz26_1, hfz26_0, hfz26_1⟩ := cz2_ BK217) | ((with_reducible refine gate_callee (f := 57) rfl ?_); refine goesL_ (some 11) rfl rfl Try.func57 (by kernel_rfl) rfl #[.int .i64 a0_0] rfl ar_ ?_; (with_reducible refine (isa_Flow.calls k a0_0 t227 t228 t229 _ A3.out).mono ?_); rintro e w27 ⟨rfl, hb⟩; refine ⟨_, rfl, ?_⟩; replace BK217 := bb_ BK217 hb; replace BK226 := bo_ (o' := .cells #[.int .i64 t218, .int .i64 t219, .int .i64 t220, .int .i64 t221, .int .i64 t222, .int .i64 t223, .bool false, .bool true] 26 (0, 0)) BK226 hb; replace HB := hs_ HB hb; (try clear hb); (try clear hb2); (try clear hk); (try clear hi)) | ((with_reducible refine gate_dst (N := 5) rfl ?_); refine bx_ (N := 5) (cs := #[.int .i64 0, .int .i64 0]) (t := 28) ?_; intro gb230 hg w28 hbox hb; have BK230 := Aside0.mk hbox; have GW230 := bs_ HB hg; have GE230 := bs_ HB hg; have NB217_230 := nl_ BK217 hg; have NB230_217 := ng_ BK217 hg; have NB226_230 := nl_ BK226 hg; have NB230_226 := ng_ BK226 hg; replace BK217 := bb_ BK217 hb; replace BK226 := bb_ BK226 hb; replace HB := hs_ HB hb; clear hb hbox hg; have hnb29 := NB230_217.out; have hnc29 := NB217_230.out; have hnb30 := NB230_226.out; have hnc30 := NB226_230.out; obtain ⟨hcz31_0, hcz31_1, hfz31_0, hfz31_1⟩ := cz2_ BK230; obtain ⟨hcz32_0, hcz32_1, hcz32_2, hcz32_3, hcz32_4, hcz32_5, hcz32_6, hcz32_7, hfz32_0, hfz32_1, hfz32_2, hfz32_3, hfz32_4, hfz32_5, hfz32_6, hfz32_7⟩ := cz8_ BK226))
        go_ret
        exact ⟨id_, bw_ HB⟩
      · replace c19 := Bool.eq_false_iff.mpr c19
        subst c19
        have H1 : (if a0_0 = 13 then (some false) else (if a0_0 = 1 then (some true) else (if a0_0 ≥ 6 then (some (decide (a0_0 ≤ 53))) else (some false)))) = some r := by rw [if_neg (show ¬ (false = true) by decide)] at H; exact H
        clear H
        have H := H1
        clear H1
        by_cases c33 : a0_0 = 13
        · rw [if_pos c33] at H
          have c33b0 : (a0_0 == 13) = true := beq_iff_eq.mpr c33
          have c33b1 : (a0_0 != 13) = false := bne_eq_false_iff_eq.mpr c33
          clear c33
          obtain rfl := Option.some.inj H
          go_enter Try.func40, Try.ntmps40
          go_wp2_with (first | ((with_reducible refine gate_dst (N := 1) rfl ?_); refine bx_ (N := 1) (cs := #[.int .i64 a0_0, .slice A0_1 l0_1.length c0_1]) (t := 24) ?_; intro gb217 hg w34 hbox hb; have BK217 := Aside0.mk hbox; have GW217 := bs_ HB hg; have GE217 := bs_ HB hg; replace HB := hs_ HB hb; clear hb hbox hg; obtain ⟨hcz35_0, hcz35_1, hfz35_0, hfz35_1⟩ := cz2_ BK217) | ((with_reducible refine gate_callee (f := 35) rfl ?_); refine goesL_ (some 7) rfl rfl Try.func35 (by kernel_rfl) rfl #[.agg #[.int .i64 a0_0, .slice A0_1 l0_1.length c0_1]] rfl ar_ ?_; (with_reducible refine (effects_Find.calls k a0_0 _ _ l0_1 t218 t219 t220 t221 t222 t223 false false _ ?side1 ?side2 A2.out).mono ?_); (case side1 => exact cb_ HR0_1 HB); (case side2 => exact HC0_1.out); rintro e w36 ⟨rfl, hb⟩; refine ⟨_, rfl, ?_⟩; replace BK217 := bb_ BK217 hb; replace HB := hs_ HB hb; (try clear hb); (try clear hb2); (try clear hk); (try clear hi)) | ((with_reducible refine gate_dst (N := 3) rfl ?_); refine bx_ (N := 3) (cs := #[.int .i64 0, .int .i64 0, .int .i64 0, .int .i64 0, .int .i64 0, .int .i64 0, .bool false, .bool false]) (t := 26) ?_; intro gb226 hg w37 hbox hb; have BK226 := Aside0.mk hbox; have GW226 := bs_ HB hg; have GE226 := bs_ HB hg; have NB217_226 := nl_ BK217 hg; have NB226_217 := ng_ BK217 hg; replace BK217 := bb_ BK217 hb; replace HB := hs_ HB hb; clear hb hbox hg; have hnb38 := NB226_217.out; have hnc38 := NB217_226.out; obtain ⟨hcz39_0, hcz39_1, hcz39_2, hcz39_3, hcz39_4, hcz39_5, hcz39_6, hcz39_7, hfz39_0, hfz39_1, hfz39_2, hfz39_3, hfz39_4, hfz39_5, hfz39_6, hfz39_7⟩ := cz8_ BK226; obtain ⟨hcz40_0, hcz40_1, hfz40_0, hfz40_1⟩ := cz2_ BK217) | ((with_reducible refine gate_callee (f := 57) rfl ?_); refine goesL_ (some 11) rfl rfl Try.func57 (by kernel_rfl) rfl #[.int .i64 a0_0] rfl ar_ ?_; (with_reducible refine (isa_Flow.calls k a0_0 t227 t228 t229 _ A3.out).mono ?_); rintro e w41 ⟨rfl, hb⟩; refine ⟨_, rfl, ?_⟩; replace BK217 := bb_ BK217 hb; replace BK226 := bo_ (o' := .cells #[.int .i64 t218, .int .i64 t219, .int .i64 t220, .int .i64 t221, .int .i64 t222, .int .i64 t223, .bool false, .bool false] 26 (0, 0)) BK226 hb; replace HB := hs_ HB hb; (try clear hb); (try clear hb2); (try clear hk); (try clear hi)) | ((with_reducible refine gate_dst (N := 5) rfl ?_); refine bx_ (N := 5) (cs := #[.int .i64 0, .int .i64 0]) (t := 28) ?_; intro gb230 hg w42 hbox hb; have BK230 := Aside0.mk hbox; have GW230 := bs_ HB hg; have GE230 := bs_ HB hg; have NB217_230 := nl_ BK217 hg; have NB230_217 := ng_ BK217 hg; have NB226_230 := nl_ BK226 hg; have NB230_226 := ng_ BK226 hg; replace BK217 := bb_ BK217 hb; replace BK226 := bb_ BK226 hb; replace HB := hs_ HB hb; clear hb hbox hg; have hnb43 := NB230_217.out; have hnc43 := NB217_230.out; have hnb44 := NB230_226.out; have hnc44 := NB226_230.out; obtain ⟨hcz45_0, hcz45_1, hfz45_0, hfz45_1⟩ := cz2_ BK230; obtain ⟨hcz46_0, hcz46_1, hcz46_2, hcz46_3, hcz46_4, hcz46_5, hcz46_6, hcz46_7, hfz46_0, hfz46_1, hfz46_2, hfz46_3, hfz46_4, hfz46_5, hfz46_6, hfz46_7⟩ := cz8_ BK226; obtain ⟨hcz47_0, hcz47_1, hfz47_0, hfz47_1⟩ := cz2_ BK217))
          go_ret
          exact ⟨id_, bw_ HB⟩
        · rw [if_neg c33] at H
          have c33b0 : (a0_0 == 13) = false := beq_eq_false_iff_ne.mpr c33
          have c33b1 : (a0_0 != 13) = true := bne_iff_ne.mpr c33
          by_cases c48 : a0_0 = 1
          · rw [if_pos c48] at H
            have c48b0 : (a0_0 == 1) = true := beq_iff_eq.mpr c48
            have c48b1 : (a0_0 != 1) = false := bne_eq_false_iff_eq.mpr c48
            clear c48
            obtain rfl := Option.some.inj H
            go_enter Try.func40, Try.ntmps40
            go_wp2_with (first | ((with_reducible refine gate_dst (N := 1) rfl ?_); refine bx_ (N := 1) (cs := #[.int .i64 a0_0, .slice A0_1 l0_1.length c0_1]) (t := 24) ?_; intro gb217 hg w49 hbox hb; have BK217 := Aside0.mk hbox; have GW217 := bs_ HB hg; have GE217 := bs_ HB hg; replace HB := hs_ HB hb; clear hb hbox hg; obtain ⟨hcz50_0, hcz50_1, hfz50_0, hfz50_1⟩ := cz2_ BK217) | ((with_reducible refine gate_callee (f := 35) rfl ?_); refine goesL_ (some 7) rfl rfl Try.func35 (by kernel_rfl) rfl #[.agg #[.int .i64 a0_0, .slice A0_1 l0_1.length c0_1]] rfl ar_ ?_; (with_reducible refine (effects_Find.calls k a0_0 _ _ l0_1 t218 t219 t220 t221 t222 t223 false false _ ?side1 ?side2 A2.out).mono ?_); (case side1 => exact cb_ HR0_1 HB); (case side2 => exact HC0_1.out); rintro e w51 ⟨rfl, hb⟩; refine ⟨_, rfl, ?_⟩; replace BK217 := bb_ BK217 hb; replace HB := hs_ HB hb; (try clear hb); (try clear hb2); (try clear hk); (try clear hi)) | ((with_reducible refine gate_dst (N := 3) rfl ?_); refine bx_ (N := 3) (cs := #[.int .i64 0, .int .i64 0, .int .i64 0, .int .i64 0, .int .i64 0, .int .i64 0, .bool false, .bool false]) (t := 26) ?_; intro gb226 hg w52 hbox hb; have BK226 := Aside0.mk hbox; have GW226 := bs_ HB hg; have GE226 := bs_ HB hg; have NB217_226 := nl_ BK217 hg; have NB226_217 := ng_ BK217 hg; replace BK217 := bb_ BK217 hb; replace HB := hs_ HB hb; clear hb hbox hg; have hnb53 := NB226_217.out; have hnc53 := NB217_226.out; obtain ⟨hcz54_0, hcz54_1, hcz54_2, hcz54_3, hcz54_4, hcz54_5, hcz54_6, hcz54_7, hfz54_0, hfz54_1, hfz54_2, hfz54_3, hfz54_4, hfz54_5, hfz54_6, hfz54_7⟩ := cz8_ BK226; obtain ⟨hcz55_0, hcz55_1, hfz55_0, hfz55_1⟩ := cz2_ BK217) | ((with_reducible refine gate_callee (f := 57) rfl ?_); refine goesL_ (some 11) rfl rfl Try.func57 (by kernel_rfl) rfl #[.int .i64 a0_0] rfl ar_ ?_; (with_reducible refine (isa_Flow.calls k a0_0 t227 t228 t229 _ A3.out).mono ?_); rintro e w56 ⟨rfl, hb⟩; refine ⟨_, rfl, ?_⟩; replace BK217 := bb_ BK217 hb; replace BK226 := bo_ (o' := .cells #[.int .i64 t218, .int .i64 t219, .int .i64 t220, .int .i64 t221, .int .i64 t222, .int .i64 t223, .bool false, .bool false] 26 (0, 0)) BK226 hb; replace HB := hs_ HB hb; (try clear hb); (try clear hb2); (try clear hk); (try clear hi)) | ((with_reducible refine gate_dst (N := 5) rfl ?_); refine bx_ (N := 5) (cs := #[.int .i64 0, .int .i64 0]) (t := 28) ?_; intro gb230 hg w57 hbox hb; have BK230 := Aside0.mk hbox; have GW230 := bs_ HB hg; have GE230 := bs_ HB hg; have NB217_230 := nl_ BK217 hg; have NB230_217 := ng_ BK217 hg; have NB226_230 := nl_ BK226 hg; have NB230_226 := ng_ BK226 hg; replace BK217 := bb_ BK217 hb; replace BK226 := bb_ BK226 hb; replace HB := hs_ HB hb; clear hb hbox hg; have hnb58 := NB230_217.out; have hnc58 := NB217_230.out; have hnb59 := NB230_226.out; have hnc59 := NB226_230.out; obtain ⟨hcz60_0, hcz60_1, hfz60_0, hfz60_1⟩ := cz2_ BK230; obtain ⟨hcz61_0, hcz61_1, hcz61_2, hcz61_3, hcz61_4, hcz61_5, hcz61_6, hcz61_7, hfz61_0, hfz61_1, hfz61_2, hfz61_3, hfz61_4, hfz61_5, hfz61_6, hfz61_7⟩ := cz8_ BK226; obtain ⟨hcz62_0, hcz62_1, hfz62_0, hfz62_1⟩ := cz2_ BK217))
            go_ret
            exact ⟨id_, bw_ HB⟩
          · rw [if_neg c48] at H
            have c48b0 : (a0_0 == 1) = false := beq_eq_false_iff_ne.mpr c48
            have c48b1 : (a0_0 != 1) = true := bne_iff_ne.mpr c48
            by_cases c63 : a0_0 ≥ 6
            · rw [if_pos c63] at H
              have c63b0 : decide (6 ≤ a0_0) = true := decide_eq_true c63
              clear c63
              obtain rfl := Option.some.inj H
              go_enter Try.func40, Try.ntmps40
              go_wp2_with (first | ((with_reducible refine gate_dst (N := 1) rfl ?_); refine bx_ (N := 1) (cs := #[.int .i64 a0_0, .slice A0_1 l0_1.length c0_1]) (t := 24) ?_; intro gb217 hg w64 hbox hb; have BK217 := Aside0.mk hbox; have GW217 := bs_ HB hg; have GE217 := bs_ HB hg; replace HB := hs_ HB hb; clear hb hbox hg; obtain ⟨hcz65_0, hcz65_1, hfz65_0, hfz65_1⟩ := cz2_ BK217) | ((with_reducible refine gate_callee (f := 35) rfl ?_); refine goesL_ (some 7) rfl rfl Try.func35 (by kernel_rfl) rfl #[.agg #[.int .i64 a0_0, .slice A0_1 l0_1.length c0_1]] rfl ar_ ?_; (with_reducible refine (effects_Find.calls k a0_0 _ _ l0_1 t218 t219 t220 t221 t222 t223 false false _ ?side1 ?side2 A2.out).mono ?_); (case side1 => exact cb_ HR0_1 HB); (case side2 => exact HC0_1.out); rintro e w66 ⟨rfl, hb⟩; refine ⟨_, rfl, ?_⟩; replace BK217 := bb_ BK217 hb; replace HB := hs_ HB hb; (try clear hb); (try clear hb2); (try clear hk); (try clear hi)) | ((with_reducible refine gate_dst (N := 3) rfl ?_); refine bx_ (N := 3) (cs := #[.int .i64 0, .int .i64 0, .int .i64 0, .int .i64 0, .int .i64 0, .int .i64 0, .bool false, .bool false]) (t := 26) ?_; intro gb226 hg w67 hbox hb; have BK226 := Aside0.mk hbox; have GW226 := bs_ HB hg; have GE226 := bs_ HB hg; have NB217_226 := nl_ BK217 hg; have NB226_217 := ng_ BK217 hg; replace BK217 := bb_ BK217 hb; replace HB := hs_ HB hb; clear hb hbox hg; have hnb68 := NB226_217.out; have hnc68 := NB217_226.out; obtain ⟨hcz69_0, hcz69_1, hcz69_2, hcz69_3, hcz69_4, hcz69_5, hcz69_6, hcz69_7, hfz69_0, hfz69_1, hfz69_2, hfz69_3, hfz69_4, hfz69_5, hfz69_6, hfz69_7⟩ := cz8_ BK226; obtain ⟨hcz70_0, hcz70_1, hfz70_0, hfz70_1⟩ := cz2_ BK217) | ((with_reducible refine gate_callee (f := 57) rfl ?_); refine goesL_ (some 11) rfl rfl Try.func57 (by kernel_rfl) rfl #[.int .i64 a0_0] rfl ar_ ?_; (with_reducible refine (isa_Flow.calls k a0_0 t227 t228 t229 _ A3.out).mono ?_); rintro e w71 ⟨rfl, hb⟩; refine ⟨_, rfl, ?_⟩; replace BK217 := bb_ BK217 hb; replace BK226 := bo_ (o' := .cells #[.int .i64 t218, .int .i64 t219, .int .i64 t220, .int .i64 t221, .int .i64 t222, .int .i64 t223, .bool false, .bool false] 26 (0, 0)) BK226 hb; replace HB := hs_ HB hb; (try clear hb); (try clear hb2); (try clear hk); (try clear hi)) | ((with_reducible refine gate_dst (N := 5) rfl ?_); refine bx_ (N := 5) (cs := #[.int .i64 0, .int .i64 0]) (t := 28) ?_; intro gb230 hg w72 hbox hb; have BK230 := Aside0.mk hbox; have GW230 := bs_ HB hg; have GE230 := bs_ HB hg; have NB217_230 := nl_ BK217 hg; have NB230_217 := ng_ BK217 hg; have NB226_230 := nl_ BK226 hg; have NB230_226 := ng_ BK226 hg; replace BK217 := bb_ BK217 hb; replace BK226 := bb_ BK226 hb; replace HB := hs_ HB hb; clear hb hbox hg; have hnb73 := NB230_217.out; have hnc73 := NB217_230.out; have hnb74 := NB230_226.out; have hnc74 := NB226_230.out; obtain ⟨hcz75_0, hcz75_1, hfz75_0, hfz75_1⟩ := cz2_ BK230; obtain ⟨hcz76_0, hcz76_1, hcz76_2, hcz76_3, hcz76_4, hcz76_5, hcz76_6, hcz76_7, hfz76_0, hfz76_1, hfz76_2, hfz76_3, hfz76_4, hfz76_5, hfz76_6, hfz76_7⟩ := cz8_ BK226; obtain ⟨hcz77_0, hcz77_1, hfz77_0, hfz77_1⟩ := cz2_ BK217))
              go_ret
              exact ⟨id_, bw_ HB⟩
            · rw [if_neg c63] at H
              have c63b0 : decide (6 ≤ a0_0) = false := decide_eq_false c63
              clear c63
              obtain rfl := Option.some.inj H
              go_enter Try.func40, Try.ntmps40
              go_wp2_with (first | ((with_reducible refine gate_dst (N := 1) rfl ?_); refine bx_ (N := 1) (cs := #[.int .i64 a0_0, .slice A0_1 l0_1.length c0_1]) (t := 24) ?_; intro gb217 hg w78 hbox hb; have BK217 := Aside0.mk hbox; have GW217 := bs_ HB hg; have GE217 := bs_ HB hg; replace HB := hs_ HB hb; clear hb hbox hg; obtain ⟨hcz79_0, hcz79_1, hfz79_0, hfz79_1⟩ := cz2_ BK217) | ((with_reducible refine gate_callee (f := 35) rfl ?_); refine goesL_ (some 7) rfl rfl Try.func35 (by kernel_rfl) rfl #[.agg #[.int .i64 a0_0, .slice A0_1 l0_1.length c0_1]] rfl ar_ ?_; (with_reducible refine (effects_Find.calls k a0_0 _ _ l0_1 t218 t219 t220 t221 t222 t223 false false _ ?side1 ?side2 A2.out).mono ?_); (case side1 => exact cb_ HR0_1 HB); (case side2 => exact HC0_1.out); rintro e w80 ⟨rfl, hb⟩; refine ⟨_, rfl, ?_⟩; replace BK217 := bb_ BK217 hb; replace HB := hs_ HB hb; (try clear hb); (try clear hb2); (try clear hk); (try clear hi)) | ((with_reducible refine gate_dst (N := 3) rfl ?_); refine bx_ (N := 3) (cs := #[.int .i64 0, .int .i64 0, .int .i64 0, .int .i64 0, .int .i64 0, .int .i64 0, .bool false, .bool false]) (t := 26) ?_; intro gb226 hg w81 hbox hb; have BK226 := Aside0.mk hbox; have GW226 := bs_ HB hg; have GE226 := bs_ HB hg; have NB217_226 := nl_ BK217 hg; have NB226_217 := ng_ BK217 hg; replace BK217 := bb_ BK217 hb; replace HB := hs_ HB hb; clear hb hbox hg; have hnb82 := NB226_217.out; have hnc82 := NB217_226.out; obtain ⟨hcz83_0, hcz83_1, hcz83_2, hcz83_3, hcz83_4, hcz83_5, hcz83_6, hcz83_7, hfz83_0, hfz83_1, hfz83_2, hfz83_3, hfz83_4, hfz83_5, hfz83_6, hfz83_7⟩ := cz8_ BK226; obtain ⟨hcz84_0, hcz84_1, hfz84_0, hfz84_1⟩ := cz2_ BK217) | ((with_reducible refine gate_callee (f := 57) rfl ?_); refine goesL_ (some 11) rfl rfl Try.func57 (by kernel_rfl) rfl #[.int .i64 a0_0] rfl ar_ ?_; (with_reducible refine (isa_Flow.calls k a0_0 t227 t228 t229 _ A3.out).mono ?_); rintro e w85 ⟨rfl, hb⟩; refine ⟨_, rfl, ?_⟩; replace BK217 := bb_ BK217 hb; replace BK226 := bo_ (o' := .cells #[.int .i64 t218, .int .i64 t219, .int .i64 t220, .int .i64 t221, .int .i64 t222, .int .i64 t223, .bool false, .bool false] 26 (0, 0)) BK226 hb; replace HB := hs_ HB hb; (try clear hb); (try clear hb2); (try clear hk); (try clear hi)) | ((with_reducible refine gate_dst (N := 5) rfl ?_); refine bx_ (N := 5) (cs := #[.int .i64 0, .int .i64 0]) (t := 28) ?_; intro gb230 hg w86 hbox hb; have BK230 := Aside0.mk hbox; have GW230 := bs_ HB hg; have GE230 := bs_ HB hg; have NB217_230 := nl_ BK217 hg; have NB230_217 := ng_ BK217 hg; have NB226_230 := nl_ BK226 hg; have NB230_226 := ng_ BK226 hg; replace BK217 := bb_ BK217 hb; replace BK226 := bb_ BK226 hb; replace HB := hs_ HB hb; clear hb hbox hg; have hnb87 := NB230_217.out; have hnc87 := NB217_230.out; have hnb88 := NB230_226.out; have hnc88 := NB226_230.out; obtain ⟨hcz89_0, hcz89_1, hfz89_0, hfz89_1⟩ := cz2_ BK230; obtain ⟨hcz90_0, hcz90_1, hcz90_2, hcz90_3, hcz90_4, hcz90_5, hcz90_6, hcz90_7, hfz90_0, hfz90_1, hfz90_2, hfz90_3, hfz90_4, hfz90_5, hfz90_6, hfz90_7⟩ := cz8_ BK226; obtain ⟨hcz91_0, hcz91_1, hfz91_0, hfz91_1⟩ := cz2_ BK217))
              go_ret
              exact ⟨id_, bw_ HB⟩
  · rw [if_neg c4] at H
    have c4b0 : (t227 == 1) = false := beq_eq_false_iff_ne.mpr c4
    have c4b1 : (t227 != 1) = true := bne_iff_ne.mpr c4
    obtain rfl := Option.some.inj H
    go_enter Try.func40, Try.ntmps40
    go_wp2_with (first | ((with_reducible refine gate_dst (N := 1) rfl ?_); refine bx_ (N := 1) (cs := #[.int .i64 a0_0, .slice A0_1 l0_1.length c0_1]) (t := 24) ?_; intro gb217 hg w92 hbox hb; have BK217 := Aside0.mk hbox; have GW217 := bs_ HB hg; have GE217 := bs_ HB hg; replace HB := hs_ HB hb; clear hb hbox hg; obtain ⟨hcz93_0, hcz93_1, hfz93_0, hfz93_1⟩ := cz2_ BK217) | ((with_reducible refine gate_callee (f := 35) rfl ?_); refine goesL_ (some 7) rfl rfl Try.func35 (by kernel_rfl) rfl #[.agg #[.int .i64 a0_0, .slice A0_1 l0_1.length c0_1]] rfl ar_ ?_; (with_reducible refine (effects_Find.calls k a0_0 _ _ l0_1 t218 t219 t220 t221 t222 t223 t224 t225 _ ?side1 ?side2 A2.out).mono ?_); (case side1 => exact cb_ HR0_1 HB); (case side2 => exact HC0_1.out); rintro e w94 ⟨rfl, hb⟩; refine ⟨_, rfl, ?_⟩; replace BK217 := bb_ BK217 hb; replace HB := hs_ HB hb; (try clear hb); (try clear hb2); (try clear hk); (try clear hi)) | ((with_reducible refine gate_dst (N := 3) rfl ?_); refine bx_ (N := 3) (cs := #[.int .i64 0, .int .i64 0, .int .i64 0, .int .i64 0, .int .i64 0, .int .i64 0, .bool false, .bool false]) (t := 26) ?_; intro gb226 hg w95 hbox hb; have BK226 := Aside0.mk hbox; have GW226 := bs_ HB hg; have GE226 := bs_ HB hg; have NB217_226 := nl_ BK217 hg; have NB226_217 := ng_ BK217 hg; replace BK217 := bb_ BK217 hb; replace HB := hs_ HB hb; clear hb hbox hg; have hnb96 := NB226_217.out; have hnc96 := NB217_226.out; obtain ⟨hcz97_0, hcz97_1, hcz97_2, hcz97_3, hcz97_4, hcz97_5, hcz97_6, hcz97_7, hfz97_0, hfz97_1, hfz97_2, hfz97_3, hfz97_4, hfz97_5, hfz97_6, hfz97_7⟩ := cz8_ BK226; obtain ⟨hcz98_0, hcz98_1, hfz98_0, hfz98_1⟩ := cz2_ BK217) | ((with_reducible refine gate_callee (f := 57) rfl ?_); refine goesL_ (some 11) rfl rfl Try.func57 (by kernel_rfl) rfl #[.int .i64 a0_0] rfl ar_ ?_; (with_reducible refine (isa_Flow.calls k a0_0 t227 t228 t229 _ A3.out).mono ?_); rintro e w99 ⟨rfl, hb⟩; refine ⟨_, rfl, ?_⟩; replace BK217 := bb_ BK217 hb; replace BK226 := bo_ (o' := .cells #[.int .i64 t218, .int .i64 t219, .int .i64 t220, .int .i64 t221, .int .i64 t222, .int .i64 t223, .bool t224, .bool t225] 26 (0, 0)) BK226 hb; replace HB := hs_ HB hb; (try clear hb); (try clear hb2); (try clear hk); (try clear hi)) | ((with_reducible refine gate_dst (N := 5) rfl ?_); refine bx_ (N := 5) (cs := #[.int .i64 0, .int .i64 0]) (t := 28) ?_; intro gb230 hg w100 hbox hb; have BK230 := Aside0.mk hbox; have GW230 := bs_ HB hg; have GE230 := bs_ HB hg; have NB217_230 := nl_ BK217 hg; have NB230_217 := ng_ BK217 hg; have NB226_230 := nl_ BK226 hg; have NB230_226 := ng_ BK226 hg; replace BK217 := bb_ BK217 hb; replace BK226 := bb_ BK226 hb; replace HB := hs_ HB hb; clear hb hbox hg; have hnb101 := NB230_217.out; have hnc101 := NB217_230.out; have hnb102 := NB230_226.out; have hnc102 := NB226_230.out; obtain ⟨hcz103_0, hcz103_1, hfz103_0, hfz103_1⟩ := cz2_ BK230))
    go_ret
    exact ⟨id_, bw_ HB⟩

end Go.Proofs.Ytaellapacoikaaa.PA
