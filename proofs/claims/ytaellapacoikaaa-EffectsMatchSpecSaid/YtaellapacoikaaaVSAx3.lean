import Derived.Test.YtaellapacoikaaaV0
import Derived.Test.YtaellapacoikaaaVSAx0
namespace Go.Proofs.Ytaellapacoikaaa.PA
open Go.RowKit Go.Proofs.YtaellapacoikaaaW.PrintWords Go.Proofs.YtaellapacoikaaaW.PrintLast Go.Proofs.YtaellapacoikaaaW.PrintMore
attribute [local go_sem] max2_int min2_int max_two min_two max_three min_three max_four min_four   -- for this text's walks alone
set_option linter.unusedVariables false
set_option linter.unusedSimpArgs false

/-! ### isa_Range: function 62 -/
set_option maxRecDepth 100000 in
def isa_Range.f (a0 : Int) : Option (Int × Int) := if a0 = 1 then (some (0, 7)) else (if a0 = 2 then (some (0, 3)) else (if a0 = 4 then (some (0, 4294967295)) else (if a0 = 6 then (some ((-32768), 32767)) else (some ((-128), 127)))))
set_option maxHeartbeats 8000000 in
set_option maxRecDepth 100000 in
theorem isa_Range.calls (a0 : Int) (r1 : Int) (r2 : Int) (w : World) (h : isa_Range.f a0 = some (r1, r2)) :
    Calls Try.prog 62 #[.int .i64 a0] w fun e w' => e = .returned (.tuple #[.int .i64 r1, .int .i64 r2]) ∧ Drawn0 w w' := by
  have H : (if a0 = 1 then (some (0, 7)) else (if a0 = 2 then (some (0, 3)) else (if a0 = 4 then (some (0, 4294967295)) else (if a0 = 6 then (some ((-32768), 32767)) else (some ((-128), 127)))))) = some (r1, r2) := h
  clear h
  by_cases c2 : a0 = 1
  · rw [if_pos c2] at H
    have c2b0 : (a0 == 1) = true := beq_iff_eq.mpr c2
    have c2b1 : (a0 != 1) = false := bne_eq_false_iff_eq.mpr c2
    clear c2
    simp only [Option.some.injEq, Prod.mk.injEq] at H
    obtain ⟨rfl, rfl⟩ := H
    go_enter Try.func62, Try.ntmps62
    go_wp2
    go_ret2
    exact ⟨by first | rfl | (simp; done) | (simp [*]; done), by repeat (first | exact Drawn0.refl _ | apply Drawn0.step)⟩
  · rw [if_neg c2] at H
    have c2b0 : (a0 == 1) = false := beq_eq_false_iff_ne.mpr c2
    have c2b1 : (a0 != 1) = true := bne_iff_ne.mpr c2
    by_cases c3 : a0 = 2
    · rw [if_pos c3] at H
      have c3b0 : (a0 == 2) = true := beq_iff_eq.mpr c3
      have c3b1 : (a0 != 2) = false := bne_eq_false_iff_eq.mpr c3
      clear c3
      simp only [Option.some.injEq, Prod.mk.injEq] at H
      obtain ⟨rfl, rfl⟩ := H
      go_enter Try.func62, Try.ntmps62
      go_wp2
      go_ret2
      exact ⟨by first | rfl | (simp; done) | (simp [*]; done), by repeat (first | exact Drawn0.refl _ | apply Drawn0.step)⟩
    · rw [if_neg c3] at H
      have c3b0 : (a0 == 2) = false := beq_eq_false_iff_ne.mpr c3
      have c3b1 : (a0 != 2) = true := bne_iff_ne.mpr c3
      by_cases c4 : a0 = 4
      · rw [if_pos c4] at H
        have c4b0 : (a0 == 4) = true := beq_iff_eq.mpr c4
        have c4b1 : (a0 != 4) = false := bne_eq_false_iff_eq.mpr c4
        clear c4
        simp only [Option.some.injEq, Prod.mk.injEq] at H
        obtain ⟨rfl, rfl⟩ := H
        go_enter Try.func62, Try.ntmps62
        go_wp2
        go_ret2
        exact ⟨by first | rfl | (simp; done) | (simp [*]; done), by repeat (first | exact Drawn0.refl _ | apply Drawn0.step)⟩
      · rw [if_neg c4] at H
        have c4b0 : (a0 == 4) = false := beq_eq_false_iff_ne.mpr c4
        have c4b1 : (a0 != 4) = true := bne_iff_ne.mpr c4
        by_cases c5 : a0 = 6
        · rw [if_pos c5] at H
          have c5b0 : (a0 == 6) = true := beq_iff_eq.mpr c5
          have c5b1 : (a0 != 6) = false := bne_eq_false_iff_eq.mpr c5
          clear c5
          simp only [Option.some.injEq, Prod.mk.injEq] at H
          obtain ⟨rfl, rfl⟩ := H
          go_enter Try.func62, Try.ntmps62
          go_wp2
          go_ret2
          exact ⟨by first | rfl | (simp; done) | (simp [*]; done), by repeat (first | exact Drawn0.refl _ | apply Drawn0.step)⟩
        · rw [if_neg c5] at H
          have c5b0 : (a0 == 6) = false := beq_eq_false_iff_ne.mpr c5
          have c5b1 : (a0 != 6) = true := bne_iff_ne.mpr c5
          simp only [Option.some.injEq, Prod.mk.injEq] at H
          obtain ⟨rfl, rfl⟩ := H
          go_enter Try.func62, Try.ntmps62
          go_wp2
          go_ret2
          exact ⟨by first | rfl | (simp; done) | (simp [*]; done), by repeat (first | exact Drawn0.refl _ | apply Drawn0.step)⟩

/-! ### encode_inRange: function 51 -/
set_option maxRecDepth 100000 in
def encode_inRange.f (a0 : Int) (a1 : Int) : Option (Bool) := (isa_Range.f a0).bind fun bt101 => (if a1 ≥ bt101.1 then (some (decide (a1 ≤ bt101.2))) else (some false))
set_option maxHeartbeats 8000000 in
set_option maxRecDepth 100000 in
theorem encode_inRange.calls (a0 : Int) (a1 : Int) (r : Bool) (w : World) (h : encode_inRange.f a0 a1 = some r) :
    Calls Try.prog 51 #[.int .i64 a0, .int .i64 a1] w fun e w' => e = .returned (.bool r) ∧ Drawn0 w w' := by
  have H : ((isa_Range.f a0).bind fun bt101 => (if a1 ≥ bt101.1 then (some (decide (a1 ≤ bt101.2))) else (some false))) = some r := h
  clear h
  replace H := Option.bind_eq_some_iff.mp H
  obtain ⟨⟨t101, t102⟩, A30, H⟩ := H
  replace H : (if a1 ≥ t101 then (some (decide (a1 ≤ t102))) else (some false)) = some r := H
  have A3 := Aside0.mk A30
  clear A30
  by_cases c4 : a1 ≥ t101
  · rw [if_pos c4] at H
    have c4b0 : decide (t101 ≤ a1) = true := decide_eq_true c4
    clear c4
    obtain rfl := Option.some.inj H
    go_enter Try.func51, Try.ntmps51
    go_wp2_with (first | ((with_reducible refine gate_callee (f := 62) rfl ?_); refine goesL_ (some 9) rfl rfl Try.func62 (by kernel_rfl) rfl #[.int .i64 a0] rfl ar_ ?_; (with_reducible refine (isa_Range.calls a0 t101 t102 _ A3.out).mono ?_); rintro e w' ⟨rfl, ⟨nd, rfl⟩⟩; refine ⟨_, rfl, ?_⟩))
    go_ret
    exact ⟨by first | rfl | (simp; done) | (simp [*]; done), by repeat (first | exact Drawn0.refl _ | apply Drawn0.step)⟩
  · rw [if_neg c4] at H
    have c4b0 : decide (t101 ≤ a1) = false := decide_eq_false c4
    clear c4
    obtain rfl := Option.some.inj H
    go_enter Try.func51, Try.ntmps51
    go_wp2_with (first | ((with_reducible refine gate_callee (f := 62) rfl ?_); refine goesL_ (some 9) rfl rfl Try.func62 (by kernel_rfl) rfl #[.int .i64 a0] rfl ar_ ?_; (with_reducible refine (isa_Range.calls a0 t101 t102 _ A3.out).mono ?_); rintro e w' ⟨rfl, ⟨nd, rfl⟩⟩; refine ⟨_, rfl, ?_⟩))
    go_ret
    exact ⟨by first | rfl | (simp; done) | (simp [*]; done), by repeat (first | exact Drawn0.refl _ | apply Drawn0.step)⟩

/-! ### encode_Check: function 33 -/
set_option maxRecDepth 100000 in
mutual
def encode_Check.j0 : Nat → List (S84) → Bool → Int → List Int → Option (Int × Int)
  | 0, _, _, _, _ => none
  | k + 1, x0, x7, x104000, x104001 => if x7 = true then (some (3, (-2))) else (if 0 ≤ x104000 then (if x104000 < (x0.length : Int) then (if (x104001.length : Int) = (((rd_T84 x0 x104000).f2).length : Int) then (encode_Check.l0 k ((rd_T84 x0 x104000).f2) (((rd_T84 x0 x104000).f2).length : Int) 0 x104000 x104001) else (some (9, (-3)))) else (none)) else (none))
def encode_Check.l0 : Nat → List Int → Int → Int → Int → List Int → Option (Int × Int)
  | 0, _, _, _, _, _ => none
  | k + 1, x37, x38, x39, x104000, x104001 => if x39 < x38 then (if 0 ≤ x39 then (if x39 < (x37.length : Int) then (if x39 < (x104001.length : Int) then ((encode_inRange.f (rd x37 x39) (rd x104001 x39)).bind fun t109 => (if t109 = true then (encode_Check.l0 k x37 x38 (wrap64 (x39 + 1)) x104000 x104001) else (some (3, x39)))) else (none)) else (none)) else (none)) else (some (0, 0))
end
set_option maxRecDepth 100000 in
def encode_Check.f (k : Nat) (l0 : List (S84)) (a1_0 : Int) (l1_1 : List Int) : Option (Int × Int) := if a1_0 < 0 then (encode_Check.j0 k l0 true a1_0 l1_1) else (encode_Check.j0 k l0 (decide (a1_0 ≥ (l0.length : Int))) a1_0 l1_1)
set_option maxRecDepth 100000 in
theorem encode_Check.mono_l : ∀ k, (∀ y0 y1 y2 y3, LeO (encode_Check.j0 k y0 y1 y2 y3) (encode_Check.j0 (k + 1) y0 y1 y2 y3)) ∧ (∀ y0 y1 y2 y3 y4, LeO (encode_Check.l0 k y0 y1 y2 y3 y4) (encode_Check.l0 (k + 1) y0 y1 y2 y3 y4))
  | 0 => ⟨fun _ _ _ _ r h => by simp [encode_Check.j0] at h, fun _ _ _ _ _ r h => by simp [encode_Check.l0] at h⟩
  | k + 1 => by
    obtain ⟨ih0, ih1⟩ := encode_Check.mono_l k
    refine ⟨?_, ?_⟩
    · intro y0 y1 y2 y3
      unfold encode_Check.j0
      repeat' first
      | (with_reducible exact ih0 _ _ _ _)
      | (with_reducible exact ih1 _ _ _ _ _)
      | (with_reducible exact LeO.refl _)
      | (with_reducible exact LeO.none _)
      | (with_reducible refine LeO.ite ?_ ?_)
      | (with_reducible refine LeO.bind ?_ (fun _ => ?_))
      | exact ih0 _ _ _ _
      | exact ih1 _ _ _ _ _
      | exact LeO.none _
      | refine LeO.ite ?_ ?_
      | refine LeO.bind ?_ (fun _ => ?_)
    · intro y0 y1 y2 y3 y4
      unfold encode_Check.l0
      repeat' first
      | (with_reducible exact ih0 _ _ _ _)
      | (with_reducible exact ih1 _ _ _ _ _)
      | (with_reducible exact LeO.refl _)
      | (with_reducible exact LeO.none _)
      | (with_reducible refine LeO.ite ?_ ?_)
      | (with_reducible refine LeO.bind ?_ (fun _ => ?_))
      | exact ih0 _ _ _ _
      | exact ih1 _ _ _ _ _
      | exact LeO.none _
      | refine LeO.ite ?_ ?_
      | refine LeO.bind ?_ (fun _ => ?_)
set_option maxRecDepth 100000 in
theorem encode_Check.mono : ∀ a0 a1 a2 k, LeO (encode_Check.f k a0 a1 a2) (encode_Check.f (k + 1) a0 a1 a2) := by
  intro a0 a1 a2 k
  obtain ⟨ih0, ih1⟩ := encode_Check.mono_l k
  unfold encode_Check.f
  repeat' first
      | (with_reducible exact ih0 _ _ _ _)
      | (with_reducible exact ih1 _ _ _ _ _)
      | (with_reducible exact LeO.refl _)
      | (with_reducible exact LeO.none _)
      | (with_reducible refine LeO.ite ?_ ?_)
      | (with_reducible refine LeO.bind ?_ (fun _ => ?_))
      | exact ih0 _ _ _ _
      | exact ih1 _ _ _ _ _
      | exact LeO.none _
      | refine LeO.ite ?_ ?_
      | refine LeO.bind ?_ (fun _ => ?_)
set_option maxHeartbeats 8000000 in
set_option maxRecDepth 100000 in
theorem encode_Check.calls (k : Nat) (A0 : Option Addr) (c0 : Nat) (l0 : List (S84)) (a1_0 : Int) (A1_1 : Option Addr) (c1_1 : Nat) (l1_1 : List Int) (r1 : Int) (r2 : Int) (w : World) (hr0 : Kd.C k84 w A0 l0.length l0) (hc0 : l0.length ≤ c0) (hr1_1 : Kd.C (Kd.int .i64) w A1_1 l1_1.length l1_1) (hc1_1 : l1_1.length ≤ c1_1) (h : encode_Check.f k l0 a1_0 l1_1 = some (r1, r2)) :
    Calls Try.prog 33 #[.slice A0 l0.length c0, .agg #[.int .i64 a1_0, .slice A1_1 l1_1.length c1_1]] w fun e w' => e = .returned (.agg #[.int .i64 r1, .int .i64 r2]) ∧ Below w.heap.size w w' := by
  have hu24 := Try.underlying24
  have hu28 := Try.underlying28
  have HR0 := Aside0.mk hr0
  have HC0 := Aside0.mk hc0
  clear hr0 hc0
  have HR1_1 := Aside0.mk hr1_1
  have HC1_1 := Aside0.mk hc1_1
  clear hr1_1 hc1_1
  have HB := Aside0.mk (Below.refl w.heap.size w)
  have H : (if a1_0 < 0 then (encode_Check.j0 k l0 true a1_0 l1_1) else (encode_Check.j0 k l0 (decide (a1_0 ≥ (l0.length : Int))) a1_0 l1_1)) = some (r1, r2) := h
  clear h
  have HC3 := Aside0.mk H
  clear H
  go_enter Try.func33, Try.ntmps33
  go_upto_region 1 with (first | ((with_reducible refine gate_dst (N := 3) rfl ?_); (try (refine gate_guard (by rfl) ?_; dsimp only)); refine bx_ (N := 3) (cs := #[.int .i64 a1_0, .slice A1_1 l1_1.length c1_1]) (t := 24) ?_; intro gb103 hg w4 hbox hb; have BK103 := Aside0.mk hbox; have GW103 := bs_ HB hg; have GE103 := bs_ HB hg; replace HB := hs_ HB hb; clear hb hbox hg) | ((with_reducible refine gate_dst (N := 4) rfl ?_); (try (refine gate_guard (by rfl) ?_; dsimp only)); refine bx_ (N := 4) (cs := #[.int .i64 0, .int .i64 0]) (t := 28) ?_; intro gb104 hg w5 hbox hb; have BK104 := Aside0.mk hbox; have GW104 := bs_ HB hg; have GE104 := bs_ HB hg; have NB103_104 := nl_ BK103 hg; have NB104_103 := ng_ BK103 hg; replace BK103 := bb_ BK103 hb; replace HB := hs_ HB hb; clear hb hbox hg))
  repeat (go_quiet (first | ((with_reducible refine gate_dst (N := 3) rfl ?_); (try (refine gate_guard (by rfl) ?_; dsimp only)); refine bx_ (N := 3) (cs := #[.int .i64 a1_0, .slice A1_1 l1_1.length c1_1]) (t := 24) ?_; intro gb103 hg w4 hbox hb; have BK103 := Aside0.mk hbox; have GW103 := bs_ HB hg; have GE103 := bs_ HB hg; replace HB := hs_ HB hb; clear hb hbox hg) | ((with_reducible refine gate_dst (N := 4) rfl ?_); (try (refine gate_guard (by rfl) ?_; dsimp only)); refine bx_ (N := 4) (cs := #[.int .i64 0, .int .i64 0]) (t := 28) ?_; intro gb104 hg w5 hbox hb; have BK104 := Aside0.mk hbox; have GW104 := bs_ HB hg; have GE104 := bs_ HB hg; have NB103_104 := nl_ BK103 hg; have NB104_103 := ng_ BK103 hg; replace BK103 := bb_ BK103 hb; replace HB := hs_ HB hb; clear hb hbox hg)); go_upto_region 1 with (first | ((with_reducible refine gate_dst (N := 3) rfl ?_); (try (refine gate_guard (by rfl) ?_; dsimp only)); refine bx_ (N := 3) (cs := #[.int .i64 a1_0, .slice A1_1 l1_1.length c1_1]) (t := 24) ?_; intro gb103 hg w4 hbox hb; have BK103 := Aside0.mk hbox; have GW103 := bs_ HB hg; have GE103 := bs_ HB hg; replace HB := hs_ HB hb; clear hb hbox hg) | ((with_reducible refine gate_dst (N := 4) rfl ?_); (try (refine gate_guard (by rfl) ?_; dsimp only)); refine bx_ (N := 4) (cs := #[.int .i64 0, .int .i64 0]) (t := 28) ?_; intro gb104 hg w5 hbox hb; have BK104 := Aside0.mk hbox; have GW104 := bs_ HB hg; have GE104 := bs_ HB hg; have NB103_104 := nl_ BK103 hg; have NB104_103 := ng_ BK103 hg; replace BK103 := bb_ BK103 hb; replace HB := hs_ HB hb; clear hb hbox hg)))
  (try simp only [Act.put, List.setIfInBounds_toArray, List.set_cons_zero, List.set_cons_succ])
  go_cut [7] (fun v7 wc => ∃ (kq : Nat) (x7_2 : Bool), v7 = .bool x7_2 ∧ Aside0 (encode_Check.j0 kq l0 x7_2 a1_0 l1_1 = some (r1, r2)) ∧ Aside0 (kq ≤ k) ∧ Aside0 (wc.heap[gb103]? = some (.cells #[.int .i64 a1_0, (.slice A1_1 l1_1.length c1_1)] 24 (0, 0))) ∧ Aside0 (wc.heap[gb104]? = some (.cells #[.int .i64 0, .int .i64 0] 28 (0, 0))) ∧ Aside0 (Below w.heap.size w wc))
  case first =>
    have H := HC3.out
    clear HC3
    by_cases c6 : a1_0 < 0
    · rw [if_pos c6] at H
      have c6b0 : decide (a1_0 < 0) = true := decide_eq_true c6
      clear c6
      (first | rw [c6b0] | (simp only [i64_w, i32_w]; rw [c6b0]) | skip)
      have H' := Aside0.mk H
      clear H
      have hnb7 := NB103_104.out
      have hnc7 := NB104_103.out
      obtain ⟨hcz8_0, hcz8_1, hfz8_0, hfz8_1⟩ := cz2_ BK103
      go_wp2
      repeat (go_quiet (fail); try go_wp2)
      go_meet
      case rel => exact ⟨_, (true), rs_, H', le_, ⟨bk_ BK103⟩, ⟨bk_ BK104⟩, ⟨bw_ HB⟩⟩
    · rw [if_neg c6] at H
      have c6b0 : decide (a1_0 < 0) = false := decide_eq_false c6
      clear c6
      (first | rw [c6b0] | (simp only [i64_w, i32_w]; rw [c6b0]) | skip)
      have H' := Aside0.mk H
      clear H
      have hnb9 := NB103_104.out
      have hnc9 := NB104_103.out
      obtain ⟨hcz10_0, hcz10_1, hfz10_0, hfz10_1⟩ := cz2_ BK103
      go_wp2
      repeat (go_quiet (fail); try go_wp2)
      go_meet
      case rel => exact ⟨_, (decide (a1_0 ≥ (l0.length : Int))), rs_, H', le_, ⟨bk_ BK103⟩, ⟨bk_ BK104⟩, ⟨bw_ HB⟩⟩
  case rest =>
    clear HC3
    (try clear c1); (try clear p2); (try clear c3); (try clear c6); (try clear c6b0); (try clear c7); (try clear c9); (try clear hcz10_0); (try clear hcz10_1); (try clear hcz8_0); (try clear hcz8_1); (try clear hfz10_0); (try clear hfz10_1); (try clear hfz8_0); (try clear hfz8_1)
    obtain ⟨kq, x7_2, rfl, HA, HJ2, BK103, BK104, HB⟩ := hcut
    cases kq with
    | zero => exact absurd HA.out (by simp [encode_Check.j0])
    | succ kj2 =>
      have H := HA.out
      clear HA
      simp only [encode_Check.j0] at H
      by_cases c11 : x7_2 = true
      · subst c11
        have H1 : (some (3, (-2))) = some (r1, r2) := by rw [if_pos rfl] at H; exact H
        clear H
        have H := H1
        clear H1
        simp only [Option.some.injEq, Prod.mk.injEq] at H
        obtain ⟨rfl, rfl⟩ := H
        have hnb12 := NB104_103.out
        have hnc12 := NB103_104.out
        obtain ⟨hcz13_0, hcz13_1, hfz13_0, hfz13_1⟩ := cz2_ BK104
        go_wp2
        repeat (go_quiet (fail); try go_wp2)
        refine bodyPost_ret (results_cell_row rfl _ _ gb104 28 #[.int .i64 3, .int .i64 (-2)] (0, 0) _ rfl (bk_ BK104) Try.underlying28 rfl (by kernel_rfl)) rfl ?_
        exact ⟨id_, bw_ HB⟩
      · replace c11 := Bool.eq_false_iff.mpr c11
        subst c11
        have H1 : (if 0 ≤ a1_0 then (if a1_0 < (l0.length : Int) then (if (l1_1.length : Int) = (((rd_T84 l0 a1_0).f2).length : Int) then (encode_Check.l0 kj2 ((rd_T84 l0 a1_0).f2) (((rd_T84 l0 a1_0).f2).length : Int) 0 a1_0 l1_1) else (some (9, (-3)))) else (none)) else (none)) = some (r1, r2) := by rw [if_neg (show ¬ (false = true) by decide)] at H; exact H
        clear H
        have H := H1
        clear H1
        by_cases c14 : 0 ≤ a1_0
        · rw [if_pos c14] at H
          have c14b0 : decide (0 ≤ a1_0) = true := decide_eq_true c14
          clear c14
          by_cases c15 : a1_0 < (l0.length : Int)
          · rw [if_pos c15] at H
            have c15b0 : decide (a1_0 < (l0.length : Int)) = true := decide_eq_true c15
            clear c15
            by_cases c16 : (l1_1.length : Int) = (((rd_T84 l0 a1_0).f2).length : Int)
            · rw [if_pos c16] at H
              have c16b0 : ((l1_1.length : Int) == (((rd_T84 l0 a1_0).f2).length : Int)) = true := beq_iff_eq.mpr c16
              have c16b1 : ((l1_1.length : Int) != (((rd_T84 l0 a1_0).f2).length : Int)) = false := bne_eq_false_iff_eq.mpr c16
              have c16b2 : (l1_1.length == ((rd_T84 l0 a1_0).f2).length) = true := by first | simpa using c16 | (simp at c16 ⊢; omega)
              clear c16
              have H' := Aside0.mk H
              clear H
              have hnb17 := NB103_104.out
              have hnc17 := NB104_103.out
              obtain ⟨hcz18_0, hcz18_1, hfz18_0, hfz18_1⟩ := cz2_ BK103
              have p105 : 0 ≤ (a1_0 : Int) := of_decide_eq_true (by first | (with_reducible assumption) | assumption)
              have q105 : a1_0 < (l0.length : Int) := of_decide_eq_true (by first | (with_reducible assumption) | assumption)
              obtain ⟨ad105, A105_2, c105_2, e105, hx105_0, hx105_1, hx105_2, hl105_2, hi105_2⟩ := at_T84 HR0.out a1_0 p105 q105
              cases e105
              replace hx105_0 := (HB.out.cell (World.block_lt_of_cell? w _ hx105_0)).trans hx105_0
              replace hx105_1 := (HB.out.cell (World.block_lt_of_cell? w _ hx105_1)).trans hx105_1
              replace hx105_2 := (HB.out.cell (World.block_lt_of_cell? w _ hx105_2)).trans hx105_2
              have HR105_2 := Aside0.mk hi105_2
              have HC105_2 := Aside0.mk hl105_2
              clear hi105_2 hl105_2
              replace p105 := eq_true p105
              replace q105 := eq_true q105
              have p106 : 0 ≤ (a1_0 : Int) := of_decide_eq_true (by first | (with_reducible assumption) | assumption)
              have q106 : a1_0 < (l0.length : Int) := of_decide_eq_true (by first | (with_reducible assumption) | assumption)
              obtain ⟨ad106, A106_2, c106_2, e106, hx106_0, hx106_1, hx106_2, hl106_2, hi106_2⟩ := at_T84 HR0.out a1_0 p106 q106
              obtain rfl : ad105 = ad106 := (by injection e106)
              replace hx106_0 := (HB.out.cell (World.block_lt_of_cell? w _ hx106_0)).trans hx106_0
              replace hx106_1 := (HB.out.cell (World.block_lt_of_cell? w _ hx106_1)).trans hx106_1
              replace hx106_2 := (HB.out.cell (World.block_lt_of_cell? w _ hx106_2)).trans hx106_2
              have HR106_2 := Aside0.mk hi106_2
              have HC106_2 := Aside0.mk hl106_2
              clear hi106_2 hl106_2
              replace p106 := eq_true p106
              replace q106 := eq_true q106
              have ea_ := Option.some.inj (hx105_2.symm.trans hx106_2)
              injection ea_ with ea_ en_ ec_
              subst ea_
              subst ec_
              clear en_
              go_wp2
              repeat (go_quiet (fail); try go_wp2)
              go_loopg [39] kj2 (fun kq v39 w' => ∃ (x39_2 : Int) (x105000_2 : Int) (x105001_2 : Int), v39 = .int .i64 x39_2 ∧ Aside0 (encode_Check.l0 kq ((rd_T84 l0 a1_0).f2) (((rd_T84 l0 a1_0).f2).length : Int) x39_2 a1_0 l1_1 = some (r1, r2)) ∧ Aside0 (kq ≤ kj2) ∧ Aside0 (w'.heap[gb103]? = some (.cells #[.int .i64 a1_0, (.slice A1_1 l1_1.length c1_1)] 24 (0, 0))) ∧ Aside0 (w'.heap[gb104]? = some (.cells #[.int .i64 x105000_2, .int .i64 x105001_2] 28 (0, 0))) ∧ Aside0 (Below w.heap.size w w'))
              case atStart => exact ⟨(0), (0), (0), rs_, H', ⟨Nat.le_refl _⟩, ⟨bk_ BK103⟩, ⟨bk_ BK104⟩, ⟨bw_ HB⟩⟩
              case round =>
                clear H'
                (try clear c1); (try clear p1); (try clear q1); (try clear hx1); (try clear p2); (try clear c3); (try clear c6); (try clear c6b0); (try clear c7); (try clear c9); (try clear c10); (try clear p10); (try clear q10); (try clear hx10); (try clear c11); (try clear c12); (try clear c14); (try clear c14b0); (try clear c15); (try clear c15b0); (try clear c16); (try clear c16b0); (try clear c16b1); (try clear c16b2); (try clear c17); (try clear hcz10_0); (try clear hcz10_1); (try clear hcz13_0); (try clear hcz13_1); (try clear hcz18_0); (try clear hcz18_1); (try clear hcz8_0); (try clear hcz8_1); (try clear hfz10_0); (try clear hfz10_1); (try clear hfz13_0); (try clear hfz13_1); (try clear hfz18_0); (try clear hfz18_1); (try clear hfz8_0); (try clear hfz8_1); (try clear hx105_0); (try clear hx105_1); (try clear hx105_2); (try clear hx106_0); (try clear hx106_1); (try clear hx106_2); (try clear p105); (try clear p106); (try clear p2); (try clear q105); (try clear q106)
                obtain ⟨x39_2, x105000_2, x105001_2, rfl, HA, HK2, BK103, BK104, HB⟩ := hrel
                cases gk with
                | zero => exact absurd HA.out (by simp [encode_Check.l0])
                | succ k2 =>
                  have H := HA.out
                  clear HA
                  simp only [encode_Check.l0] at H
                  by_cases c19 : x39_2 < (((rd_T84 l0 a1_0).f2).length : Int)
                  · rw [if_pos c19] at H
                    have c19b0 : decide (x39_2 < (((rd_T84 l0 a1_0).f2).length : Int)) = true := decide_eq_true c19
                    clear c19
                    by_cases c20 : 0 ≤ x39_2
                    · rw [if_pos c20] at H
                      have c20b0 : decide (0 ≤ x39_2) = true := decide_eq_true c20
                      clear c20
                      by_cases c21 : x39_2 < (((rd_T84 l0 a1_0).f2).length : Int)
                      · rw [if_pos c21] at H
                        have c21b0 : decide (x39_2 < (((rd_T84 l0 a1_0).f2).length : Int)) = true := decide_eq_true c21
                        clear c21
                        by_cases c22 : x39_2 < (l1_1.length : Int)
                        · rw [if_pos c22] at H
                          have c22b0 : decide (x39_2 < (l1_1.length : Int)) = true := decide_eq_true c22
                          clear c22
                          replace H := Option.bind_eq_some_iff.mp H
                          obtain ⟨t109, A230, H⟩ := H
                          replace H : (if t109 = true then (encode_Check.l0 k2 ((rd_T84 l0 a1_0).f2) (((rd_T84 l0 a1_0).f2).length : Int) (wrap64 (x39_2 + 1)) a1_0 l1_1) else (some (3, x39_2))) = some (r1, r2) := H
                          have A23 := Aside0.mk A230
                          clear A230
                          by_cases c24 : t109 = true
                          · subst c24
                            have H1 : (encode_Check.l0 k2 ((rd_T84 l0 a1_0).f2) (((rd_T84 l0 a1_0).f2).length : Int) (wrap64 (x39_2 + 1)) a1_0 l1_1) = some (r1, r2) := by rw [if_pos rfl] at H; exact H
                            clear H
                            have H := H1
                            clear H1
                            have H' := Aside0.mk H
                            clear H
                            have p107 : 0 ≤ (x39_2 : Int) := of_decide_eq_true (by first | (with_reducible assumption) | assumption)
                            have q107 : x39_2 < (((rd_T84 l0 a1_0).f2).length : Int) := of_decide_eq_true (by first | (with_reducible assumption) | assumption)
                            obtain ⟨ad107, e107, hx107_0⟩ := Kd.at_int HR106_2.out x39_2 p107 q107
                            cases e107
                            replace hx107_0 := (HB.out.cell (World.block_lt_of_cell? w _ hx107_0)).trans hx107_0
                            replace p107 := eq_true p107
                            replace q107 := eq_true q107
                            have hnb25 := NB103_104.out
                            have hnc25 := NB104_103.out
                            obtain ⟨hcz26_0, hcz26_1, hfz26_0, hfz26_1⟩ := cz2_ BK103
                            have p108 : 0 ≤ (x39_2 : Int) := of_decide_eq_true (by first | (with_reducible assumption) | assumption)
                            have q108 : x39_2 < (l1_1.length : Int) := of_decide_eq_true (by first | (with_reducible assumption) | assumption)
                            obtain ⟨ad108, e108, hx108_0⟩ := Kd.at_int HR1_1.out x39_2 p108 q108
                            cases e108
                            replace hx108_0 := (HB.out.cell (World.block_lt_of_cell? w _ hx108_0)).trans hx108_0
                            replace p108 := eq_true p108
                            replace q108 := eq_true q108
                            go_wp2_with (first | (go_at_call 51; (with_reducible refine (encode_inRange.calls (rd ((rd_T84 l0 a1_0).f2) x39_2) (rd l1_1 x39_2) true _ A23.out).mono ?_); rintro e w' ⟨rfl, ⟨nd, rfl⟩⟩; (try first | exact ⟨rfl, _, World.drewN_drewN _ _ _⟩ | exact ⟨rfl, _, Eq.trans (World.drewN_drewN _ _ _) (congrArg (World.drewN _) (Nat.add_assoc _ _ _))⟩)))
                            repeat (go_quiet (first | (go_at_call 51; (with_reducible refine (encode_inRange.calls (rd ((rd_T84 l0 a1_0).f2) x39_2) (rd l1_1 x39_2) true _ A23.out).mono ?_); rintro e w' ⟨rfl, ⟨nd, rfl⟩⟩; (try first | exact ⟨rfl, _, World.drewN_drewN _ _ _⟩ | exact ⟨rfl, _, Eq.trans (World.drewN_drewN _ _ _) (congrArg (World.drewN _) (Nat.add_assoc _ _ _))⟩))); try go_wp2_with (first | (go_at_call 51; (with_reducible refine (encode_inRange.calls (rd ((rd_T84 l0 a1_0).f2) x39_2) (rd l1_1 x39_2) true _ A23.out).mono ?_); rintro e w' ⟨rfl, ⟨nd, rfl⟩⟩; (try first | exact ⟨rfl, _, World.drewN_drewN _ _ _⟩ | exact ⟨rfl, _, Eq.trans (World.drewN_drewN _ _ _) (congrArg (World.drewN _) (Nat.add_assoc _ _ _))⟩))))
                            go_roundg k2
                            case measure => have := HJ2.out; have := HK2.out; omega
                            case rel => exact ⟨(wrap64 (x39_2 + 1)), (x105000_2), (x105001_2), rs_, H', ⟨by have := HJ2.out; have := HK2.out; omega⟩, ⟨bk_ BK103⟩, ⟨bk_ BK104⟩, ⟨bw_ HB⟩⟩
                          · replace c24 := Bool.eq_false_iff.mpr c24
                            subst c24
                            have H1 : (some (3, x39_2)) = some (r1, r2) := by rw [if_neg (show ¬ (false = true) by decide)] at H; exact H
                            clear H
                            have H := H1
                            clear H1
                            simp only [Option.some.injEq, Prod.mk.injEq] at H
                            obtain ⟨rfl, rfl⟩ := H
                            have p107 : 0 ≤ (x39_2 : Int) := of_decide_eq_true (by first | (with_reducible assumption) | assumption)
                            have q107 : x39_2 < (((rd_T84 l0 a1_0).f2).length : Int) := of_decide_eq_true (by first | (with_reducible assumption) | assumption)
                            obtain ⟨ad107, e107, hx107_0⟩ := Kd.at_int HR106_2.out x39_2 p107 q107
                            cases e107
                            replace hx107_0 := (HB.out.cell (World.block_lt_of_cell? w _ hx107_0)).trans hx107_0
                            replace p107 := eq_true p107
                            replace q107 := eq_true q107
                            have hnb27 := NB103_104.out
                            have hnc27 := NB104_103.out
                            obtain ⟨hcz28_0, hcz28_1, hfz28_0, hfz28_1⟩ := cz2_ BK103
                            have p108 : 0 ≤ (x39_2 : Int) := of_decide_eq_true (by first | (with_reducible assumption) | assumption)
                            have q108 : x39_2 < (l1_1.length : Int) := of_decide_eq_true (by first | (with_reducible assumption) | assumption)
                            obtain ⟨ad108, e108, hx108_0⟩ := Kd.at_int HR1_1.out x39_2 p108 q108
                            cases e108
                            replace hx108_0 := (HB.out.cell (World.block_lt_of_cell? w _ hx108_0)).trans hx108_0
                            replace p108 := eq_true p108
                            replace q108 := eq_true q108
                            go_wp2_with (first | (go_at_call 51; (with_reducible refine (encode_inRange.calls (rd ((rd_T84 l0 a1_0).f2) x39_2) (rd l1_1 x39_2) false _ A23.out).mono ?_); rintro e w' ⟨rfl, ⟨nd, rfl⟩⟩; (try first | exact ⟨rfl, _, World.drewN_drewN _ _ _⟩ | exact ⟨rfl, _, Eq.trans (World.drewN_drewN _ _ _) (congrArg (World.drewN _) (Nat.add_assoc _ _ _))⟩); obtain ⟨hcz29_0, hcz29_1, hfz29_0, hfz29_1⟩ := cz2_ BK104))
                            repeat (go_quiet (first | (go_at_call 51; (with_reducible refine (encode_inRange.calls (rd ((rd_T84 l0 a1_0).f2) x39_2) (rd l1_1 x39_2) false _ A23.out).mono ?_); rintro e w' ⟨rfl, ⟨nd, rfl⟩⟩; (try first | exact ⟨rfl, _, World.drewN_drewN _ _ _⟩ | exact ⟨rfl, _, Eq.trans (World.drewN_drewN _ _ _) (congrArg (World.drewN _) (Nat.add_assoc _ _ _))⟩); obtain ⟨hcz29_0, hcz29_1, hfz29_0, hfz29_1⟩ := cz2_ BK104)); try go_wp2_with (first | (go_at_call 51; (with_reducible refine (encode_inRange.calls (rd ((rd_T84 l0 a1_0).f2) x39_2) (rd l1_1 x39_2) false _ A23.out).mono ?_); rintro e w' ⟨rfl, ⟨nd, rfl⟩⟩; (try first | exact ⟨rfl, _, World.drewN_drewN _ _ _⟩ | exact ⟨rfl, _, Eq.trans (World.drewN_drewN _ _ _) (congrArg (World.drewN _) (Nat.add_assoc _ _ _))⟩); obtain ⟨hcz29_0, hcz29_1, hfz29_0, hfz29_1⟩ := cz2_ BK104)))
                            refine bodyPost_ret (results_cell_row rfl _ _ gb104 28 #[.int .i64 3, .int .i64 x39_2] (0, 0) _ rfl (bk_ BK104) Try.underlying28 rfl (by kernel_rfl)) rfl ?_
                            exact ⟨id_, bw_ HB⟩
                        · rw [if_neg c22] at H
                          exact absurd H (by simp)
                      · rw [if_neg c21] at H
                        exact absurd H (by simp)
                    · rw [if_neg c20] at H
                      exact absurd H (by simp)
                  · rw [if_neg c19] at H
                    have c19b0 : decide (x39_2 < (((rd_T84 l0 a1_0).f2).length : Int)) = false := decide_eq_false c19
                    clear c19
                    simp only [Option.some.injEq, Prod.mk.injEq] at H
                    obtain ⟨rfl, rfl⟩ := H
                    have hnb30 := NB104_103.out
                    have hnc30 := NB103_104.out
                    obtain ⟨hcz31_0, hcz31_1, hfz31_0, hfz31_1⟩ := cz2_ BK104
                    go_wp2
                    repeat (go_quiet (fail); try go_wp2)
                    refine bodyPost_ret (results_cell_row rfl _ _ gb104 28 #[.int .i64 0, .int .i64 0] (0, 0) _ rfl (bk_ BK104) Try.underlying28 rfl (by kernel_rfl)) rfl ?_
                    exact ⟨id_, bw_ HB⟩
            · rw [if_neg c16] at H
              have c16b0 : ((l1_1.length : Int) == (((rd_T84 l0 a1_0).f2).length : Int)) = false := beq_eq_false_iff_ne.mpr c16
              have c16b1 : ((l1_1.length : Int) != (((rd_T84 l0 a1_0).f2).length : Int)) = true := bne_iff_ne.mpr c16
              have c16b2 : (l1_1.length == ((rd_T84 l0 a1_0).f2).length) = false := by first | simpa using c16 | (simp at c16 ⊢; omega)
              simp only [Option.some.injEq, Prod.mk.injEq] at H
              obtain ⟨rfl, rfl⟩ := H
              have hnb32 := NB103_104.out
              have hnc32 := NB104_103.out
              obtain ⟨hcz33_0, hcz33_1, hfz33_0, hfz33_1⟩ := cz2_ BK103
              have p105 : 0 ≤ (a1_0 : Int) := of_decide_eq_true (by first | (with_reducible assumption) | assumption)
              have q105 : a1_0 < (l0.length : Int) := of_decide_eq_true (by first | (with_reducible assumption) | assumption)
              obtain ⟨ad105, A105_2, c105_2, e105, hx105_0, hx105_1, hx105_2, hl105_2, hi105_2⟩ := at_T84 HR0.out a1_0 p105 q105
              cases e105
              replace hx105_0 := (HB.out.cell (World.block_lt_of_cell? w _ hx105_0)).trans hx105_0
              replace hx105_1 := (HB.out.cell (World.block_lt_of_cell? w _ hx105_1)).trans hx105_1
              replace hx105_2 := (HB.out.cell (World.block_lt_of_cell? w _ hx105_2)).trans hx105_2
              have HR105_2 := Aside0.mk hi105_2
              have HC105_2 := Aside0.mk hl105_2
              clear hi105_2 hl105_2
              replace p105 := eq_true p105
              replace q105 := eq_true q105
              obtain ⟨hcz34_0, hcz34_1, hfz34_0, hfz34_1⟩ := cz2_ BK104
              go_wp2
              repeat (go_quiet (fail); try go_wp2)
              refine bodyPost_ret (results_cell_row rfl _ _ gb104 28 #[.int .i64 9, .int .i64 (-3)] (0, 0) _ rfl (bk_ BK104) Try.underlying28 rfl (by kernel_rfl)) rfl ?_
              exact ⟨id_, bw_ HB⟩
          · rw [if_neg c15] at H
            exact absurd H (by simp)
        · rw [if_neg c14] at H
          exact absurd H (by simp)

-- NOT PRINTED: function 63 (isa_fields_1)

-- NOT PRINTED: function 52 (isa_fields)

/-! ### slices_Index_byte_byte: function 53 -/
set_option maxRecDepth 100000 in
def slices_Index_byte_byte.l0 : Nat → List Int → Int → Int → Int → Option (Int)
  | 0, _, _, _, _ => none
  | k + 1, x0, x1, x7, x8 => if x8 < x7 then (if 0 ≤ x8 then (if x8 < (x0.length : Int) then (if x1 = (rd x0 x8) then (some x8) else (slices_Index_byte_byte.l0 k x0 x1 x7 (wrap64 (x8 + 1)))) else (none)) else (none)) else (some (-1))
set_option maxRecDepth 100000 in
def slices_Index_byte_byte.f (k : Nat) (l0 : List Int) (a1 : Int) : Option (Int) := slices_Index_byte_byte.l0 k l0 a1 (l0.length : Int) 0
set_option maxRecDepth 100000 in
theorem slices_Index_byte_byte.mono_l : ∀ k, (∀ y0 y1 y2 y3, LeO (slices_Index_byte_byte.l0 k y0 y1 y2 y3) (slices_Index_byte_byte.l0 (k + 1) y0 y1 y2 y3))
  | 0 => fun _ _ _ _ r h => by simp [slices_Index_byte_byte.l0] at h
  | k + 1 => by
    have ih0 := slices_Index_byte_byte.mono_l k
    · intro y0 y1 y2 y3
      unfold slices_Index_byte_byte.l0
      repeat' first
      | (with_reducible exact ih0 _ _ _ _)
      | (with_reducible exact LeO.refl _)
      | (with_reducible exact LeO.none _)
      | (with_reducible refine LeO.ite ?_ ?_)
      | (with_reducible refine LeO.bind ?_ (fun _ => ?_))
      | exact ih0 _ _ _ _
      | exact LeO.none _
      | refine LeO.ite ?_ ?_
      | refine LeO.bind ?_ (fun _ => ?_)
set_option maxRecDepth 100000 in
theorem slices_Index_byte_byte.mono : ∀ a0 a1 k, LeO (slices_Index_byte_byte.f k a0 a1) (slices_Index_byte_byte.f (k + 1) a0 a1) := by
  intro a0 a1 k
  have ih0 := slices_Index_byte_byte.mono_l k
  unfold slices_Index_byte_byte.f
  repeat' first
      | (with_reducible exact ih0 _ _ _ _)
      | (with_reducible exact LeO.refl _)
      | (with_reducible exact LeO.none _)
      | (with_reducible refine LeO.ite ?_ ?_)
      | (with_reducible refine LeO.bind ?_ (fun _ => ?_))
      | exact ih0 _ _ _ _
      | exact LeO.none _
      | refine LeO.ite ?_ ?_
      | refine LeO.bind ?_ (fun _ => ?_)
set_option maxHeartbeats 8000000 in
set_option maxRecDepth 100000 in
theorem slices_Index_byte_byte.calls (k : Nat) (A0 : Option Addr) (c0 : Nat) (l0 : List Int) (a1 : Int) (r : Int) (w : World) (hr0 : Kd.C (Kd.int .u8) w A0 l0.length l0) (hc0 : l0.length ≤ c0) (h : slices_Index_byte_byte.f k l0 a1 = some r) :
    Calls Try.prog 53 #[.slice A0 l0.length c0, .int .u8 a1] w fun e w' => e = .returned (.int .i64 r) ∧ Drawn0 w w' := by
  have HR0 := Aside0.mk hr0
  have HC0 := Aside0.mk hc0
  clear hr0 hc0
  have H : (slices_Index_byte_byte.l0 k l0 a1 (l0.length : Int) 0) = some r := h
  clear h
  have H' := Aside0.mk H
  clear H
  go_enter Try.func53, Try.ntmps53
  go_wp2
  go_loopg [8] k (fun kq v8 w' => ∃ (x8_1 : Int), v8 = .int .i64 x8_1 ∧ Aside0 (slices_Index_byte_byte.l0 kq l0 a1 (l0.length : Int) x8_1 = some r) ∧ Aside0 (kq ≤ k) ∧ Drawn0 w w')
  case atStart => exact ⟨(0), rs_, H', ⟨Nat.le_refl _⟩, by repeat (first | exact Drawn0.refl _ | apply Drawn0.step)⟩
  case round =>
    clear H'
    (try clear p2)
    obtain ⟨x8_1, rfl, HA, HK1, ⟨m1, rfl⟩⟩ := hrel
    cases gk with
    | zero => exact absurd HA.out (by simp [slices_Index_byte_byte.l0])
    | succ k1 =>
      have H := HA.out
      clear HA
      simp only [slices_Index_byte_byte.l0] at H
      by_cases c3 : x8_1 < (l0.length : Int)
      · rw [if_pos c3] at H
        have c3b0 : decide (x8_1 < (l0.length : Int)) = true := decide_eq_true c3
        clear c3
        by_cases c4 : 0 ≤ x8_1
        · rw [if_pos c4] at H
          have c4b0 : decide (0 ≤ x8_1) = true := decide_eq_true c4
          clear c4
          by_cases c5 : x8_1 < (l0.length : Int)
          · rw [if_pos c5] at H
            have c5b0 : decide (x8_1 < (l0.length : Int)) = true := decide_eq_true c5
            clear c5
            by_cases c6 : a1 = (rd l0 x8_1)
            · rw [if_pos c6] at H
              have c6b0 : (a1 == (rd l0 x8_1)) = true := beq_iff_eq.mpr c6
              have c6b1 : (a1 != (rd l0 x8_1)) = false := bne_eq_false_iff_eq.mpr c6
              clear c6
              obtain rfl := Option.some.inj H
              have p110 : 0 ≤ (x8_1 : Int) := of_decide_eq_true (by first | (with_reducible assumption) | assumption)
              have q110 : x8_1 < (l0.length : Int) := of_decide_eq_true (by first | (with_reducible assumption) | assumption)
              obtain ⟨ad110, e110, hx110_0⟩ := Kd.at_int HR0.out x8_1 p110 q110
              cases e110
              replace p110 := eq_true p110
              replace q110 := eq_true q110
              go_wp2
              go_ret
              exact ⟨by first | rfl | (simp; done) | (simp [*]; done), by repeat (first | exact Drawn0.refl _ | apply Drawn0.step)⟩
            · rw [if_neg c6] at H
              have c6b0 : (a1 == (rd l0 x8_1)) = false := beq_eq_false_iff_ne.mpr c6
              have c6b1 : (a1 != (rd l0 x8_1)) = true := bne_iff_ne.mpr c6
              have H' := Aside0.mk H
              clear H
              have p110 : 0 ≤ (x8_1 : Int) := of_decide_eq_true (by first | (with_reducible assumption) | assumption)
              have q110 : x8_1 < (l0.length : Int) := of_decide_eq_true (by first | (with_reducible assumption) | assumption)
              obtain ⟨ad110, e110, hx110_0⟩ := Kd.at_int HR0.out x8_1 p110 q110
              cases e110
              replace p110 := eq_true p110
              replace q110 := eq_true q110
              go_wp2
              go_roundg k1
              case measure => have := HK1.out; omega
              case rel => exact ⟨(wrap64 (x8_1 + 1)), rs_, H', ⟨by have := HK1.out; omega⟩, by repeat (first | exact Drawn0.refl _ | apply Drawn0.step)⟩
          · rw [if_neg c5] at H
            exact absurd H (by simp)
        · rw [if_neg c4] at H
          exact absurd H (by simp)
      · rw [if_neg c3] at H
        have c3b0 : decide (x8_1 < (l0.length : Int)) = false := decide_eq_false c3
        clear c3
        obtain rfl := Option.some.inj H
        go_wp2
        go_ret
        exact ⟨by first | rfl | (simp; done) | (simp [*]; done), by repeat (first | exact Drawn0.refl _ | apply Drawn0.step)⟩

end Go.Proofs.Ytaellapacoikaaa.PA
