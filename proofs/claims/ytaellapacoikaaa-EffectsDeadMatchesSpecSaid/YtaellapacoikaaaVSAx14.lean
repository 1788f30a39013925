import Derived.Test.YtaellapacoikaaaV0
import Derived.Test.YtaellapacoikaaaVSAx0
import Derived.Test.YtaellapacoikaaaVSAx2
import Derived.Test.YtaellapacoikaaaVSAx8
import Derived.Test.YtaellapacoikaaaVSAx10
import Derived.Test.YtaellapacoikaaaVSAx11
import Derived.Test.YtaellapacoikaaaVSAx12
import Derived.Test.YtaellapacoikaaaVSAx13
namespace Go.Proofs.Ytaellapacoikaaa.PA
open Go.RowKit Go.Proofs.YtaellapacoikaaaW.PrintWords Go.Proofs.YtaellapacoikaaaW.PrintLast Go.Proofs.YtaellapacoikaaaW.PrintMore
attribute [local go_sem] max2_int min2_int max_two min_two max_three min_three max_four min_four   -- for this text's walks alone
set_option linter.unusedVariables false
set_option linter.unusedSimpArgs false

attribute [local go_sem high] eqA28
/-! ### linkhouseref7_Dead: function 18 -/
set_option maxRecDepth 100000 in
def linkhouseref7_Dead.f (k : Nat) (a0_0 : Int) (l0_1 : List Int) (a1_0 : Int) (a1_1 : Int) (a1_2 : Int) (a1_3 : Int) : Option (Bool) := (linkhouseref7_Effect.f k a0_0 l0_1).bind fun bt315 => (if a0_0 = 1 then (some true) else ((linkhouseref7_In.f a0_0 6 53).bind fun t324 => (if t324 = true then (if a0_0 = 13 then (some false) else (if bt315.2.2.2.2.2.2.1 = true then (some false) else (if bt315.2.2.2.2.2.2.2 = true then (some false) else ((linkhouseref7_Flow.f k a0_0).bind fun t325 => (if t325 = 1 then (if (Go.bits .and .i64 bt315.2.1 a1_1) = 0 then (if (Go.bits .and .i64 bt315.2.2.2.1 a1_2) = 0 then (some ((Go.bits .and .i64 bt315.2.2.2.2.2.1 a1_3) == 0)) else (some false)) else (some false)) else (some false)))))) else (some false))))
set_option maxRecDepth 100000 in
theorem linkhouseref7_Dead.mono : ∀ a0 a1 a2 a3 a4 a5 k, LeO (linkhouseref7_Dead.f k a0 a1 a2 a3 a4 a5) (linkhouseref7_Dead.f (k + 1) a0 a1 a2 a3 a4 a5) := by
  intro a0 a1 a2 a3 a4 a5 k
  unfold linkhouseref7_Dead.f
  repeat' first
      | (with_reducible exact linkhouseref7_Effect.mono _ _ _)
      | (with_reducible exact linkhouseref7_Flow.mono _ _)
      | (with_reducible exact LeO.refl _)
      | (with_reducible exact LeO.none _)
      | (with_reducible refine LeO.ite ?_ ?_)
      | (with_reducible refine LeO.bind ?_ (fun _ => ?_))
      | exact linkhouseref7_Effect.mono _ _ _
      | exact linkhouseref7_Flow.mono _ _
      | exact LeO.none _
      | refine LeO.ite ?_ ?_
      | refine LeO.bind ?_ (fun _ => ?_)
set_option maxHeartbeats 8000000 in
set_option maxRecDepth 100000 in
theorem linkhouseref7_Dead.calls (k : Nat) (a0_0 : Int) (A0_1 : Option Addr) (c0_1 : Nat) (l0_1 : List Int) (a1_0 : Int) (a1_1 : Int) (a1_2 : Int) (a1_3 : Int) (r : Bool) (w : World) (hr0_1 : Kd.C (Kd.int .i64) w A0_1 l0_1.length l0_1) (hc0_1 : l0_1.length ≤ c0_1) (h : linkhouseref7_Dead.f k a0_0 l0_1 a1_0 a1_1 a1_2 a1_3 = some r) :
    Calls Try.prog 18 #[.agg #[.int .i64 a0_0, .slice A0_1 l0_1.length c0_1], .agg #[.int .i64 a1_0, .int .i64 a1_1, .int .i64 a1_2, .int .i64 a1_3]] w fun e w' => e = .returned (.bool r) ∧ Below w.heap.size w w' := by
  have hu24 := Try.underlying24
  have hu36 := Try.underlying36
  have hu26 := Try.underlying26
  have HR0_1 := Aside0.mk hr0_1
  have HC0_1 := Aside0.mk hc0_1
  clear hr0_1 hc0_1
  have HB := Aside0.mk (Below.refl w.heap.size w)
  have H : ((linkhouseref7_Effect.f k a0_0 l0_1).bind fun bt315 => (if a0_0 = 1 then (some true) else ((linkhouseref7_In.f a0_0 6 53).bind fun t324 => (if t324 = true then (if a0_0 = 13 then (some false) else (if bt315.2.2.2.2.2.2.1 = true then (some false) else (if bt315.2.2.2.2.2.2.2 = true then (some false) else ((linkhouseref7_Flow.f k a0_0).bind fun t325 => (if t325 = 1 then (if (Go.bits .and .i64 bt315.2.1 a1_1) = 0 then (if (Go.bits .and .i64 bt315.2.2.2.1 a1_2) = 0 then (some ((Go.bits .and .i64 bt315.2.2.2.2.2.1 a1_3) == 0)) else (some false)) else (some false)) else (some false)))))) else (some false))))) = some r := h
  clear h
  replace H := Option.bind_eq_some_iff.mp H
  obtain ⟨⟨t315, t316, t317, t318, t319, t320, t321, t322⟩, A30, H⟩ := H
  replace H : (if a0_0 = 1 then (some true) else ((linkhouseref7_In.f a0_0 6 53).bind fun t324 => (if t324 = true then (if a0_0 = 13 then (some false) else (if t321 = true then (some false) else (if t322 = true then (some false) else ((linkhouseref7_Flow.f k a0_0).bind fun t325 => (if t325 = 1 then (if (Go.bits .and .i64 t316 a1_1) = 0 then (if (Go.bits .and .i64 t318 a1_2) = 0 then (some ((Go.bits .and .i64 t320 a1_3) == 0)) else (some false)) else (some false)) else (some false)))))) else (some false)))) = some r := H
  have A3 := Aside0.mk A30
  clear A30
  by_cases c4 : a0_0 = 1
  · rw [if_pos c4] at H
    have c4b0 : (a0_0 == 1) = true := beq_iff_eq.mpr c4
    have c4b1 : (a0_0 != 1) = false := bne_eq_false_iff_eq.mpr c4
    clear c4
    obtain rfl := Option.some.inj H
    go_enter Try.func18, Try.ntmps18
    go_wp2_with (first | ((with_reducible refine gate_dst (N := 2) rfl ?_); refine bx_ (N := 2) (cs := #[.int .i64 a0_0, .slice A0_1 l0_1.length c0_1]) (t := 24) ?_; intro gb313 hg w5 hbox hb; have BK313 := Aside0.mk hbox; have GW313 := bs_ HB hg; have GE313 := bs_ HB hg; replace HB := hs_ HB hb; clear hb hbox hg) | ((with_reducible refine gate_dst (N := 3) rfl ?_); refine bx_ (N := 3) (cs := #[.int .i64 a1_0, .int .i64 a1_1, .int .i64 a1_2, .int .i64 a1_3]) (t := 36) ?_; intro gb314 hg w6 hbox hb; have BK314 := Aside0.mk hbox; have GW314 := bs_ HB hg; have GE314 := bs_ HB hg; have NB313_314 := nl_ BK313 hg; have NB314_313 := ng_ BK313 hg; replace BK313 := bb_ BK313 hb; replace HB := hs_ HB hb; clear hb hbox hg; have hnb7 := NB313_314.out; have hnc7 := NB314_313.out; obtain ⟨hcz8_0, hcz8_1, hfz8_0, hfz8_1⟩ := cz2_ BK313) | ((with_reducible refine gate_callee (f := 14) rfl ?_); refine goesL_ (some 7) rfl rfl Try.func14 (by kernel_rfl) rfl #[.agg #[.int .i64 a0_0, .slice A0_1 l0_1.length c0_1]] rfl ar_ ?_; (with_reducible refine (linkhouseref7_Effect.calls k a0_0 _ _ l0_1 t315 t316 t317 t318 t319 t320 t321 t322 _ ?side1 ?side2 A3.out).mono ?_); (case side1 => exact cb_ HR0_1 HB); (case side2 => exact HC0_1.out); rintro e w9 ⟨rfl, hb⟩; refine ⟨_, rfl, ?_⟩; replace BK313 := bb_ BK313 hb; replace BK314 := bb_ BK314 hb; replace HB := hs_ HB hb; (try clear hb); (try clear hb2); (try clear hk); (try clear hi)) | ((with_reducible refine gate_dst (N := 5) rfl ?_); refine bx_ (N := 5) (cs := #[.int .i64 0, .int .i64 0, .int .i64 0, .int .i64 0, .int .i64 0, .int .i64 0, .bool false, .bool false]) (t := 26) ?_; intro gb323 hg w10 hbox hb; have BK323 := Aside0.mk hbox; have GW323 := bs_ HB hg; have GE323 := bs_ HB hg; have NB313_323 := nl_ BK313 hg; have NB323_313 := ng_ BK313 hg; have NB314_323 := nl_ BK314 hg; have NB323_314 := ng_ BK314 hg; replace BK313 := bb_ BK313 hb; replace BK314 := bb_ BK314 hb; replace HB := hs_ HB hb; clear hb hbox hg; have hnb11 := NB323_313.out; have hnc11 := NB313_323.out; have hnb12 := NB323_314.out; have hnc12 := NB314_323.out; obtain ⟨hcz13_0, hcz13_1, hcz13_2, hcz13_3, hcz13_4, hcz13_5, hcz13_6, hcz13_7, hfz13_0, hfz13_1, hfz13_2, hfz13_3, hfz13_4, hfz13_5, hfz13_6, hfz13_7⟩ := cz8_ BK323; obtain ⟨hcz14_0, hcz14_1, hfz14_0, hfz14_1⟩ := cz2_ BK313))
    go_ret
    exact ⟨id_, bw_ HB⟩
  · rw [if_neg c4] at H
    have c4b0 : (a0_0 == 1) = false := beq_eq_false_iff_ne.mpr c4
    have c4b1 : (a0_0 != 1) = true := bne_iff_ne.mpr c4
    replace H := Option.bind_eq_some_iff.mp H
    obtain ⟨t324, A150, H⟩ := H
    replace H : (if t324 = true then (if a0_0 = 13 then (some false) else (if t321 = true then (some false) else (if t322 = true then (some false) else ((linkhouseref7_Flow.f k a0_0).bind fun t325 => (if t325 = 1 then (if (Go.bits .and .i64 t316 a1_1) = 0 then (if (Go.bits .and .i64 t318 a1_2) = 0 then (some ((Go.bits .and .i64 t320 a1_3) == 0)) else (some false)) else (some false)) else (some false)))))) else (some false)) = some r := H
    have A15 := Aside0.mk A150
    clear A150
    by_cases c16 : t324 = true
    · subst c16
      have H1 : (if a0_0 = 13 then (some false) else (if t321 = true then (some false) else (if t322 = true then (some false) else ((linkhouseref7_Flow.f k a0_0).bind fun t325 => (if t325 = 1 then (if (Go.bits .and .i64 t316 a1_1) = 0 then (if (Go.bits .and .i64 t318 a1_2) = 0 then (some ((Go.bits .and .i64 t320 a1_3) == 0)) else (some false)) else (some false)) else (some false)))))) = some r := by rw [if_pos rfl] at H; exact H
      clear H
      have H := H1
      clear H1
      by_cases c17 : a0_0 = 13
      · rw [if_pos c17] at H
        have c17b0 : (a0_0 == 13) = true := beq_iff_eq.mpr c17
        have c17b1 : (a0_0 != 13) = false := bne_eq_false_iff_eq.mpr c17
        clear c17
        obtain rfl := Option.some.inj H
        go_enter Try.func18, Try.ntmps18
        go_wp2_with (first | ((with_reducible refine gate_dst (N := 2) rfl ?_); refine bx_ (N := 2) (cs := #[.int .i64 a0_0, .slice A0_1 l0_1.length c0_1]) (t := 24) ?_; intro gb313 hg w18 hbox hb; have BK313 := Aside0.mk hbox; have GW313 := bs_ HB hg; have GE313 := bs_ HB hg; replace HB := hs_ HB hb; clear hb hbox hg) | ((with_reducible refine gate_dst (N := 3) rfl ?_); refine bx_ (N := 3) (cs := #[.int .i64 a1_0, .int .i64 a1_1, .int .i64 a1_2, .int .i64 a1_3]) (t := 36) ?_; intro gb314 hg w19 hbox hb; have BK314 := Aside0.mk hbox; have GW314 := bs_ HB hg; have GE314 := bs_ HB hg; have NB313_314 := nl_ BK313 hg; have NB314_313 := ng_ BK313 hg; replace BK313 := bb_ BK313 hb; replace HB := hs_ HB hb; clear hb hbox hg; have hnb20 := NB313_314.out; have hnc20 := NB314_313.out; obtain ⟨hcz21_0, hcz21_1, hfz21_0, hfz21_1⟩ := cz2_ BK313) | ((with_reducible refine gate_callee (f := 14) rfl ?_); refine goesL_ (some 7) rfl rfl Try.func14 (by kernel_rfl) rfl #[.agg #[.int .i64 a0_0, .slice A0_1 l0_1.length c0_1]] rfl ar_ ?_; (with_reducible refine (linkhouseref7_Effect.calls k a0_0 _ _ l0_1 t315 t316 t317 t318 t319 t320 t321 t322 _ ?side1 ?side2 A3.out).mono ?_); (case side1 => exact cb_ HR0_1 HB); (case side2 => exact HC0_1.out); rintro e w22 ⟨rfl, hb⟩; refine ⟨_, rfl, ?_⟩; replace BK313 := bb_ BK313 hb; replace BK314 := bb_ BK314 hb; replace HB := hs_ HB hb; (try clear hb); (try clear hb2); (try clear hk); (try clear hi)) | ((with_reducible refine gate_dst (N := 5) rfl ?_); refine bx_ (N := 5) (cs := #[.int .i64 0, .int .i64 0, .int .i64 0, .int .i64 0, .int .i64 0, .int .i64 0, .bool false, .bool false]) (t := 26) ?_; intro gb323 hg w23 hbox hb; have BK323 := Aside0.mk hbox; have GW323 := bs_ HB hg; have GE323 := bs_ HB hg; have NB313_323 := nl_ BK313 hg; have NB323_313 := ng_ BK313 hg; have NB314_323 := nl_ BK314 hg; have NB323_314 := ng_ BK314 hg; replace BK313 := bb_ BK313 hb; replace BK314 := bb_ BK314 hb; replace HB := hs_ HB hb; clear hb hbox hg; have hnb24 := NB323_313.out; have hnc24 := NB313_323.out; have hnb25 := NB323_314.out; have hnc25 := NB314_323.out; obtain ⟨hcz26_0, hcz26_1, hcz26_2, hcz26_3, hcz26_4, hcz26_5, hcz26_6, hcz26_7, hfz26_0, hfz26_1, hfz26_2, hfz26_3, hfz26_4, hfz26_5, hfz26_6, hfz26_7⟩ := cz8_ BK323; obtain ⟨hcz27_0, hcz27_1, hfz27_0, hfz27_1⟩ := cz2_ BK313) | ((with_reducible refine gate_callee (f := 16) rfl ?_); refine goesL_ (some 13) rfl rfl Try.func16 (by kernel_rfl) rfl #[.int .i64 a0_0, .int .i64 6, .int .i64 53] rfl ar_ ?_; (with_reducible refine (linkhouseref7_In.calls a0_0 6 53 true _ A15.out).mono ?_); rintro e w' ⟨rfl, ⟨nd, rfl⟩⟩; refine ⟨_, rfl, ?_⟩))
        go_ret
        exact ⟨id_, bw_ HB⟩
      · rw [if_neg c17] at H
        have c17b0 : (a0_0 == 13) = false := beq_eq_false_iff_ne.mpr c17
        have c17b1 : (a0_0 != 13) = true := bne_iff_ne.mpr c17
        by_cases c28 : t321 = true
        · subst c28
          have H1 : (some false) = some r := by rw [if_pos rfl] at H; exact H
          clear H
          have H := H1
          clear H1
          obtain rfl := Option.some.inj H
          go_enter Try.func18, Try.ntmps18
          go_wp2_with (first | ((with_reducible refine gate_dst (N := 2) rfl ?_); refine bx_ (N := 2) (cs := #[.int .i64 a0_0, .slice A0_1 l0_1.length c0_1]) (t := 24) ?_; intro gb313 hg w29 hbox hb; have BK313 := Aside0.mk hbox; have GW313 := bs_ HB hg; have GE313 := bs_ HB hg; replace HB := hs_ HB hb; clear hb hbox hg) | ((with_reducible refine gate_dst (N := 3) rfl ?_); refine bx_ (N := 3) (cs := #[.int .i64 a1_0, .int .i64 a1_1, .int .i64 a1_2, .int .i64 a1_3]) (t := 36) ?_; intro gb314 hg w30 hbox hb; have BK314 := Aside0.mk hbox; have GW314 := bs_ HB hg; have GE314 := bs_ HB hg; have NB313_314 := nl_ BK313 hg; have NB314_313 := ng_ BK313 hg; replace BK313 := bb_ BK313 hb; replace HB := hs_ HB hb; clear hb hbox hg; have hnb31 := NB313_314.out; have hnc31 := NB314_313.out; obtain ⟨hcz32_0, hcz32_1, hfz32_0, hfz32_1⟩ := cz2_ BK313) | ((with_reducible refine gate_callee (f := 14) rfl ?_); refine goesL_ (some 7) rfl rfl Try.func14 (by kernel_rfl) rfl #[.agg #[.int .i64 a0_0, .slice A0_1 l0_1.length c0_1]] rfl ar_ ?_; (with_reducible refine (linkhouseref7_Effect.calls k a0_0 _ _ l0_1 t315 t316 t317 t318 t319 t320 true t322 _ ?side1 ?side2 A3.out).mono ?_); (case side1 => exact cb_ HR0_1 HB); (case side2 => exact HC0_1.out); rintro e w33 ⟨rfl, hb⟩; refine ⟨_, rfl, ?_⟩; replace BK313 := bb_ BK313 hb; replace BK314 := bb_ BK314 hb; replace HB := hs_ HB hb; (try clear hb); (try clear hb2); (try clear hk); (try clear hi)) | ((with_reducible refine gate_dst (N := 5) rfl ?_); refine bx_ (N := 5) (cs := #[.int .i64 0, .int .i64 0, .int .i64 0, .int .i64 0, .int .i64 0, .int .i64 0, .bool false, .bool false]) (t := 26) ?_; intro gb323 hg w34 hbox hb; have BK323 := Aside0.mk hbox; have GW323 := bs_ HB hg; have GE323 := bs_ HB hg; have NB313_323 := nl_ BK313 hg; have NB323_313 := ng_ BK313 hg; have NB314_323 := nl_ BK314 hg; have NB323_314 := ng_ BK314 hg; replace BK313 := bb_ BK313 hb; replace BK314 := bb_ BK314 hb; replace HB := hs_ HB hb; clear hb hbox hg; have hnb35 := NB323_313.out; have hnc35 := NB313_323.out; have hnb36 := NB323_314.out; have hnc36 := NB314_323.out; obtain ⟨hcz37_0, hcz37_1, hcz37_2, hcz37_3, hcz37_4, hcz37_5, hcz37_6, hcz37_7, hfz37_0, hfz37_1, hfz37_2, hfz37_3, hfz37_4, hfz37_5, hfz37_6, hfz37_7⟩ := cz8_ BK323; obtain ⟨hcz38_0, hcz38_1, hfz38_0, hfz38_1⟩ := cz2_ BK313) | ((with_reducible refine gate_callee (f := 16) rfl ?_); refine goesL_ (some 13) rfl rfl Try.func16 (by kernel_rfl) rfl #[.int .i64 a0_0, .int .i64 6, .int .i64 53] rfl ar_ ?_; (with_reducible refine (linkhouseref7_In.calls a0_0 6 53 true _ A15.out).mono ?_); rintro e w' ⟨rfl, ⟨nd, rfl⟩⟩; refine ⟨_, rfl, ?_⟩))
          go_ret
          exact ⟨id_, bw_ HB⟩
        · replace c28 := Bool.eq_false_iff.mpr c28
          subst c28
          have H1 : (if t322 = true then (some false) else ((linkhouseref7_Flow.f k a0_0).bind fun t325 => (if t325 = 1 then (if (Go.bits .and .i64 t316 a1_1) = 0 then (if (Go.bits .and .i64 t318 a1_2) = 0 then (some ((Go.bits .and .i64 t320 a1_3) == 0)) else (some false)) else (some false)) else (some false)))) = some r := by rw [if_neg (show ¬ (false = true) by decide)] at H; exact H
          clear H
          have H := H1
          clear H1
          by_cases c39 : t322 = true
          · subst c39
            have H1 : (some false) = some r := by rw [if_pos rfl] at H; exact H
            clear H
            have H := H1
            clear H1
            obtain rfl := Option.some.inj H
            go_enter Try.func18, Try.ntmps18
            go_wp2_with (first | ((with_reducible refine gate_dst (N := 2) rfl ?_); refine bx_ (N := 2) (cs := #[.int .i64 a0_0, .slice A0_1 l0_1.length c0_1]) (t := 24) ?_; intro gb313 hg w40 hbox hb; have BK313 := Aside0.mk hbox; have GW313 := bs_ HB hg; have GE313 := bs_ HB hg; replace HB := hs_ HB hb; clear hb hbox hg) | ((with_reducible refine gate_dst (N := 3) rfl ?_); refine bx_ (N := 3) (cs := #[.int .i64 a1_0, .int .i64 a1_1, .int .i64 a1_2, .int .i64 a1_3]) (t := 36) ?_; intro gb314 hg w41 hbox hb; have BK314 := Aside0.mk hbox; have GW314 := bs_ HB hg; have GE314 := bs_ HB hg; have NB313_314 := nl_ BK313 hg; have NB314_313 := ng_ BK313 hg; replace BK313 := bb_ BK313 hb; replace HB := hs_ HB hb; clear hb hbox hg; have hnb42 := NB313_314.out; have hnc42 := NB314_313.out; obtain ⟨hcz43_0, hcz43_1, hfz43_0, hfz43_1⟩ := cz2_ BK313) | ((with_reducible refine gate_callee (f := 14) rfl ?_); refine goesL_ (some 7) rfl rfl Try.func14 (by kernel_rfl) rfl #[.agg #[.int .i64 a0_0, .slice A0_1 l0_1.length c0_1]] rfl ar_ ?_; (with_reducible refine (linkhouseref7_Effect.calls k a0_0 _ _ l0_1 t315 t316 t317 t318 t319 t320 false true _ ?side1 ?side2 A3.out).mono ?_); (case side1 => exact cb_ HR0_1 HB); (case side2 => exact HC0_1.out); rintro e w44 ⟨rfl, hb⟩; refine ⟨_, rfl, ?_⟩; replace BK313 := bb_ BK313 hb; replace BK314 := bb_ BK314 hb; replace HB := hs_ HB hb; (try clear hb); (try clear hb2); (try clear hk); (try clear hi)) | ((with_reducible refine gate_dst (N := 5) rfl ?_); refine bx_ (N := 5) (cs := #[.int .i64 0, .int .i64 0, .int .i64 0, .int .i64 0, .int .i64 0, .int .i64 0, .bool false, .bool false]) (t := 26) ?_; intro gb323 hg w45 hbox hb; have BK323 := Aside0.mk hbox; have GW323 := bs_ HB hg; have GE323 := bs_ HB hg; have NB313_323 := nl_ BK313 hg; have NB323_313 := ng_ BK313 hg; have NB314_323 := nl_ BK314 hg; have NB323_314 := ng_ BK314 hg; replace BK313 := bb_ BK313 hb; replace BK314 := bb_ BK314 hb; replace HB := hs_ HB hb; clear hb hbox hg; have hnb46 := NB323_313.out; have hnc46 := NB313_323.out; have hnb47 := NB323_314.out; have hnc47 := NB314_323.out; obtain ⟨hcz48_0, hcz48_1, hcz48_2, hcz48_3, hcz48_4, hcz48_5, hcz48_6, hcz48_7, hfz48_0, hfz48_1, hfz48_2, hfz48_3, hfz48_4, hfz48_5, hfz48_6, hfz48_7⟩ := cz8_ BK323; obtain ⟨hcz49_0, hcz49_1, hfz49_0, hfz49_1⟩ := cz2_ BK313) | ((with_reducible refine gate_callee (f := 16) rfl ?_); refine goesL_ (some 13) rfl rfl Try.func16 (by kernel_rfl) rfl #[.int .i64 a0_0, .int .i64 6, .int .i64 53] rfl ar_ ?_; (with_reducible refine (linkhouseref7_In.calls a0_0 6 53 true _ A15.out).mono ?_); rintro e w' ⟨rfl, ⟨nd, rfl⟩⟩; refine ⟨_, rfl, ?_⟩))
            go_ret
            exact ⟨id_, bw_ HB⟩
          · replace c39 := Bool.eq_false_iff.mpr c39
            subst c39
            have H1 : ((linkhouseref7_Flow.f k a0_0).bind fun t325 => (if t325 = 1 then (if (Go.bits .and .i64 t316 a1_1) = 0 then (if (Go.bits .and .i64 t318 a1_2) = 0 then (some ((Go.bits .and .i64 t320 a1_3) == 0)) else (some false)) else (some false)) else (some false))) = some r := by rw [if_neg (show ¬ (false = true) by decide)] at H; exact H
            clear H
            have H := H1
            clear H1
            replace H := Option.bind_eq_some_iff.mp H
            obtain ⟨t325, A500, H⟩ := H
            replace H : (if t325 = 1 then (if (Go.bits .and .i64 t316 a1_1) = 0 then (if (Go.bits .and .i64 t318 a1_2) = 0 then (some ((Go.bits .and .i64 t320 a1_3) == 0)) else (some false)) else (some false)) else (some false)) = some r := H
            have A50 := Aside0.mk A500
            clear A500
            by_cases c51 : t325 = 1
            · rw [if_pos c51] at H
              have c51b0 : (t325 == 1) = true := beq_iff_eq.mpr c51
              have c51b1 : (t325 != 1) = false := bne_eq_false_iff_eq.mpr c51
              clear c51
              by_cases c52 : (Go.bits .and .i64 t316 a1_1) = 0
              · rw [if_pos c52] at H
                have c52b0 : ((Go.bits .and .i64 t316 a1_1) == 0) = true := beq_iff_eq.mpr c52
                have c52b1 : ((Go.bits .and .i64 t316 a1_1) != 0) = false := bne_eq_false_iff_eq.mpr c52
                clear c52
                by_cases c53 : (Go.bits .and .i64 t318 a1_2) = 0
                · rw [if_pos c53] at H
                  have c53b0 : ((Go.bits .and .i64 t318 a1_2) == 0) = true := beq_iff_eq.mpr c53
                  have c53b1 : ((Go.bits .and .i64 t318 a1_2) != 0) = false := bne_eq_false_iff_eq.mpr c53
                  clear c53
                  obtain rfl := Option.some.inj H
                  go_enter Try.func18, Try.ntmps18
                  go_wp2_with (first | ((with_reducible refine gate_dst (N := 2) rfl ?_); refine bx_ (N := 2) (cs := #[.int .i64 a0_0, .slice A0_1 l0_1.length c0_1]) (t := 24) ?_; intro gb313 hg w54 hbox hb; have BK313 := Aside0.mk hbox; have GW313 := bs_ HB hg; have GE313 := bs_ HB hg; replace HB := hs_ HB hb; clear hb hbox hg) | ((with_reducible refine gate_dst (N := 3) rfl ?_); refine bx_ (N := 3) (cs := #[.int .i64 a1_0, .int .i64 a1_1, .int .i64 a1_2, .int .i64 a1_3]) (t := 36) ?_; intro gb314 hg w55 hbox hb; have BK314 := Aside0.mk hbox; have GW314 := bs_ HB hg; have GE314 := bs_ HB hg; have NB313_314 := nl_ BK313 hg; have NB314_313 := ng_ BK313 hg; replace BK313 := bb_ BK313 hb; replace HB := hs_ HB hb; clear hb hbox hg; have hnb56 := NB313_314.out; have hnc56 := NB314_313.out; obtain ⟨hcz57_0, hcz57_1, hfz57_0, hfz57_1⟩ := cz2_ BK313) | ((with_reducible refine gate_callee (f := 14) rfl ?_); refine goesL_ (some 7) rfl rfl Try.func14 (by kernel_rfl) rfl #[.agg #[.int .i64 a0_0, .slice A0_1 l0_1.length c0_1]] rfl ar_ ?_; (with_reducible refine (linkhouseref7_Effect.calls k a0_0 _ _ l0_1 t315 t316 t317 t318 t319 t320 false false _ ?side1 ?side2 A3.out).mono ?_); (case side1 => exact cb_ HR0_1 HB); (case side2 => exact HC0_1.out); rintro e w58 ⟨rfl, hb⟩; refine ⟨_, rfl, ?_⟩; replace BK313 := bb_ BK313 hb; replace BK314 := bb_ BK314 hb; replace HB := hs_ HB hb; (try clear hb); (try clear hb2); (try clear hk); (try clear hi)) | ((with_reducible refine gate_dst (N := 5) rfl ?_); refine bx_ (N := 5) (cs := #[.int .i64 0, .int .i64 0, .int .i64 0, .int .i64 0, .int .i64 0, .int .i64 0, .bool false, .bool false]) (t := 26) ?_; intro gb323 hg w59 hbox hb; have BK323 := Aside0.mk hbox; have GW323 := bs_ HB hg; have GE323 := bs_ HB hg; have NB313_323 := nl_ BK313 hg; have NB323_313 := ng_ BK313 hg; have NB314_323 := nl_ BK314 hg; have NB323_314 := ng_ BK314 hg; replace BK313 := bb_ BK313 hb; replace BK314 := bb_ BK314 hb; replace HB := hs_ HB hb; clear hb hbox hg; have hnb60 := NB323_313.out; have hnc60 := NB313_323.out; have hnb61 := NB323_314.out; have hnc61 := NB314_323.out; obtain ⟨hcz62_0, hcz62_1, hcz62_2, hcz62_3, hcz62_4, hcz62_5, hcz62_6, hcz62_7, hfz62_0, hfz62_1, hfz62_2, hfz62_3, hfz62_4, hfz62_5, hfz62_6, hfz62_7⟩ := cz8_ BK323; obtain ⟨hcz63_0, hcz63_1, hfz63_0, hfz63_1⟩ := cz2_ BK313) | ((with_reducible refine gate_callee (f := 16) rfl ?_); refine goesL_ (some 13) rfl rfl Try.func16 (by kernel_rfl) rfl #[.int .i64 a0_0, .int .i64 6, .int .i64 53] rfl ar_ ?_; (with_reducible refine (linkhouseref7_In.calls a0_0 6 53 true _ A15.out).mono ?_); rintro e w' ⟨rfl, ⟨nd, rfl⟩⟩; refine ⟨_, rfl, ?_⟩) | (go_at_call 41; (with_reducible refine (linkhouseref7_Flow.calls k a0_0 t325 _ A50.out).mono ?_); rintro e w' ⟨rfl, ⟨nd, rfl⟩⟩; obtain ⟨hcz64_0, hcz64_1, hcz64_2, hcz64_3, hfz64_0, hfz64_1, hfz64_2, hfz64_3⟩ := cz4_ BK314))
                  go_ret
                  exact ⟨id_, bw_ HB⟩
                · rw [if_neg c53] at H
                  have c53b0 : ((Go.bits .and .i64 t318 a1_2) == 0) = false := beq_eq_false_iff_ne.mpr c53
                  have c53b1 : ((Go.bits .and .i64 t318 a1_2) != 0) = true := bne_iff_ne.mpr c53
                  obtain rfl := Option.some.inj H
                  go_enter Try.func18, Try.ntmps18
                  go_wp2_with (first | ((with_reducible refine gate_dst (N := 2) rfl ?_); refine bx_ (N := 2) (cs := #[.int .i64 a0_0, .slice A0_1 l0_1.length c0_1]) (t := 24) ?_; intro gb313 hg w65 hbox hb; have BK313 := Aside0.mk hbox; have GW313 := bs_ HB hg; have GE313 := bs_ HB hg; replace HB := hs_ HB hb; clear hb hbox hg) | ((with_reducible refine gate_dst (N := 3) rfl ?_); refine bx_ (N := 3) (cs := #[.int .i64 a1_0, .int .i64 a1_1, .int .i64 a1_2, .int .i64 a1_3]) (t := 36) ?_; intro gb314 hg w66 hbox hb; have BK314 := Aside0.mk hbox; have GW314 := bs_ HB hg; have GE314 := bs_ HB hg; have NB313_314 := nl_ BK313 hg; have NB314_313 := ng_ BK313 hg; replace BK313 := bb_ BK313 hb; replace HB := hs_ HB hb; clear hb hbox hg; have hnb67 := NB313_314.out; have hnc67 := NB314_313.out; obtain ⟨hcz68_0, hcz68_1, hfz68_0, hfz68_1⟩ := cz2_ BK313) | ((with_reducible refine gate_callee (f := 14) rfl ?_); refine goesL_ (some 7) rfl rfl Try.func14 (by kernel_rfl) rfl #[.agg #[.int .i64 a0_0, .slice A0_1 l0_1.length c0_1]] rfl ar_ ?_; (with_reducible refine (linkhouseref7_Effect.calls k a0_0 _ _ l0_1 t315 t316 t317 t318 t319 t320 false false _ ?side1 ?side2 A3.out).mono ?_); (case side1 => exact cb_ HR0_1 HB); (case side2 => exact HC0_1.out); rintro e w69 ⟨rfl, hb⟩; refine ⟨_, rfl, ?_⟩; replace BK313 := bb_ BK313 hb; replace BK314 := bb_ BK314 hb; replace HB := hs_ HB hb; (try clear hb); (try clear hb2); (try clear hk); (try clear hi)) | ((with_reducible refine gate_dst (N := 5) rfl ?_); refine bx_ (N := 5) (cs := #[.int .i64 0, .int .i64 0, .int .i64 0, .int .i64 0, .int .i64 0, .int .i64 0, .bool false, .bool false]) (t := 26) ?_; intro gb323 hg w70 hbox hb; have BK323 := Aside0.mk hbox; have GW323 := bs_ HB hg; have GE323 := bs_ HB hg; have NB313_323 := nl_ BK313 hg; have NB323_313 := ng_ BK313 hg; have NB314_323 := nl_ BK314 hg; have NB323_314 := ng_ BK314 hg; replace BK313 := bb_ BK313 hb; replace BK314 := bb_ BK314 hb; replace HB := hs_ HB hb; clear hb hbox hg; have hnb71 := NB323_313.out; have hnc71 := NB313_323.out; have hnb72 := NB323_314.out; have hnc72 := NB314_323.out; obtain ⟨hcz73_0, hcz73_1, hcz73_2, hcz73_3, hcz73_4, hcz73_5, hcz73_6, hcz73_7, hfz73_0, hfz73_1, hfz73_2, hfz73_3, hfz73_4, hfz73_5, hfz73_6, hfz73_7⟩ := cz8_ BK323; obtain ⟨hcz74_0, hcz74_1, hfz74_0, hfz74_1⟩ := cz2_ BK313) | ((with_reducible refine gate_callee (f := 16) rfl ?_); refine goesL_ (some 13) rfl rfl Try.func16 (by kernel_rfl) rfl #[.int .i64 a0_0, .int .i64 6, .int .i64 53] rfl ar_ ?_; (with_reducible refine (linkhouseref7_In.calls a0_0 6 53 true _ A15.out).mono ?_); rintro e w' ⟨rfl, ⟨nd, rfl⟩⟩; refine ⟨_, rfl, ?_⟩) | (go_at_call 41; (with_reducible refine (linkhouseref7_Flow.calls k a0_0 t325 _ A50.out).mono ?_); rintro e w' ⟨rfl, ⟨nd, rfl⟩⟩; obtain ⟨hcz75_0, hcz75_1, hcz75_2, hcz75_3, hfz75_0, hfz75_1, hfz75_2, hfz75_3⟩ := cz4_ BK314))
                  go_ret
                  exact ⟨id_, bw_ HB⟩
              · rw [if_neg c52] at H
                have c52b0 : ((Go.bits .and .i64 t316 a1_1) == 0) = false := beq_eq_false_iff_ne.mpr c52
                have c52b1 : ((Go.bits .and .i64 t316 a1_1) != 0) = true := bne_iff_ne.mpr c52
                obtain rfl := Option.some.inj H
                go_enter Try.func18, Try.ntmps18
                go_wp2_with (first | ((with_reducible refine gate_dst (N := 2) rfl ?_); refine bx_ (N := 2) (cs := #[.int .i64 a0_0, .slice A0_1 l0_1.length c0_1]) (t := 24) ?_; intro gb313 hg w76 hbox hb; have BK313 := Aside0.mk hbox; have GW313 := bs_ HB hg; have GE313 := bs_ HB hg; replace HB := hs_ HB hb; clear hb hbox hg) | ((with_reducible refine gate_dst (N := 3) rfl ?_); refine bx_ (N := 3) (cs := #[.int .i64 a1_0, .int .i64 a1_1, .int .i64 a1_2, .int .i64 a1_3]) (t := 36) ?_; intro gb314 hg w77 hbox hb; have BK314 := Aside0.mk hbox; have GW314 := bs_ HB hg; have GE314 := bs_ HB hg; have NB313_314 := nl_ BK313 hg; have NB314_313 := ng_ BK313 hg; replace BK313 := bb_ BK313 hb; replace HB := hs_ HB hb; clear hb hbox hg; have hnb78 := NB313_314.out; have hnc78 := NB314_313.out; obtain ⟨hcz79_0, hcz79_1, hfz79_0, hfz79_1⟩ := cz2_ BK313) | ((with_reducible refine gate_callee (f := 14) rfl ?_); refine goesL_ (some 7) rfl rfl Try.func14 (by kernel_rfl) rfl #[.agg #[.int .i64 a0_0, .slice A0_1 l0_1.length c0_1]] rfl ar_ ?_; (with_reducible refine (linkhouseref7_Effect.calls k a0_0 _ _ l0_1 t315 t316 t317 t318 t319 t320 false false _ ?side1 ?side2 A3.out).mono ?_); (case side1 => exact cb_ HR0_1 HB); (case side2 => exact HC0_1.out); rintro e w80 ⟨rfl, hb⟩; refine ⟨_, rfl, ?_⟩; replace BK313 := bb_ BK313 hb; replace BK314 := bb_ BK314 hb; replace HB := hs_ HB hb; (try clear hb); (try clear hb2); (try clear hk); (try clear hi)) | ((with_reducible refine gate_dst (N := 5) rfl ?_); refine bx_ (N := 5) (cs := #[.int .i64 0, .int .i64 0, .int .i64 0, .int .i64 0, .int .i64 0, .int .i64 0, .bool false, .bool false]) (t := 26) ?_; intro gb323 hg w81 hbox hb; have BK323 := Aside0.mk hbox; have GW323 := bs_ HB hg; have GE323 := bs_ HB hg; have NB313_323 := nl_ BK313 hg; have NB323_313 := ng_ BK313 hg; have NB314_323 := nl_ BK314 hg; have NB323_314 := ng_ BK314 hg; replace BK313 := bb_ BK313 hb; replace BK314 := bb_ BK314 hb; replace HB := hs_ HB hb; clear hb hbox hg; have hnb82 := NB323_313.out; have hnc82 := NB313_323.out; have hnb83 := NB323_314.out; have hnc83 := NB314_323.out; obtain ⟨hcz84_0, hcz84_1, hcz84_2, hcz84_3, hcz84_4, hcz84_5, hcz84_6, hcz84_7, hfz84_0, hfz84_1, hfz84_2, hfz84_3, hfz84_4, hfz84_5, hfz84_6, hfz84_7⟩ := cz8_ BK323; obtain ⟨hcz85_0, hcz85_1, hfz85_0, hfz85_1⟩ := cz2_ BK313) | ((with_reducible refine gate_callee (f := 16) rfl ?_); refine goesL_ (some 13) rfl rfl Try.func16 (by kernel_rfl) rfl #[.int .i64 a0_0, .int .i64 6, .int .i64 53] rfl ar_ ?_; (with_reducible refine (linkhouseref7_In.calls a0_0 6 53 true _ A15.out).mono ?_); rintro e w' ⟨rfl, ⟨nd, rfl⟩⟩; refine ⟨_, rfl, ?_⟩) | (go_at_call 41; (with_reducible refine (linkhouseref7_Flow.calls k a0_0 t325 _ A50.out).mono ?_); rintro e w' ⟨rfl, ⟨nd, rfl⟩⟩; obtain ⟨hcz86_0, hcz86_1, hcz86_2, hcz86_3, hfz86_0, hfz86_1, hfz86_2, hfz86_3⟩ := cz4_ BK314))
                go_ret
                exact ⟨id_, bw_ HB⟩
            · rw [if_neg c51] at H
              have c51b0 : (t325 == 1) = false := beq_eq_false_iff_ne.mpr c51
              have c51b1 : (t325 != 1) = true := bne_iff_ne.mpr c51
              obtain rfl := Option.some.inj H
              go_enter Try.func18, Try.ntmps18
              go_wp2_with (first | ((with_reducible refine gate_dst (N := 2) rfl ?_); refine bx_ (N := 2) (cs := #[.int .i64 a0_0, .slice A0_1 l0_1.length c0_1]) (t := 24) ?_; intro gb313 hg w87 hbox hb; have BK313 := Aside0.mk hbox; have GW313 := bs_ HB hg; have GE313 := bs_ HB hg; replace HB := hs_ HB hb; clear hb hbox hg) | ((with_reducible refine gate_dst (N := 3) rfl ?_); refine bx_ (N := 3) (cs := #[.int .i64 a1_0, .int .i64 a1_1, .int .i64 a1_2, .int .i64 a1_3]) (t := 36) ?_; intro gb314 hg w88 hbox hb; have BK314 := Aside0.mk hbox; have GW314 := bs_ HB hg; have GE314 := bs_ HB hg; have NB313_314 := nl_ BK313 hg; have NB314_313 := ng_ BK313 hg; replace BK313 := bb_ BK313 hb; replace HB := hs_ HB hb; clear hb hbox hg; have hnb89 := NB313_314.out; have hnc89 := NB314_313.out; obtain ⟨hcz90_0, hcz90_1, hfz90_0, hfz90_1⟩ := cz2_ BK313) | ((with_reducible refine gate_callee (f := 14) rfl ?_); refine goesL_ (some 7) rfl rfl Try.func14 (by kernel_rfl) rfl #[.agg #[.int .i64 a0_0, .slice A0_1 l0_1.length c0_1]] rfl ar_ ?_; (with_reducible refine (linkhouseref7_Effect.calls k a0_0 _ _ l0_1 t315 t316 t317 t318 t319 t320 false false _ ?side1 ?side2 A3.out).mono ?_); (case side1 => exact cb_ HR0_1 HB); (case side2 => exact HC0_1.out); rintro e w91 ⟨rfl, hb⟩; refine ⟨_, rfl, ?_⟩; replace BK313 := bb_ BK313 hb; replace BK314 := bb_ BK314 hb; replace HB := hs_ HB hb; (try clear hb); (try clear hb2); (try clear hk); (try clear hi)) | ((with_reducible refine gate_dst (N := 5) rfl ?_); refine bx_ (N := 5) (cs := #[.int .i64 0, .int .i64 0, .int .i64 0, .int .i64 0, .int .i64 0, .int .i64 0, .bool false, .bool false]) (t := 26) ?_; intro gb323 hg w92 hbox hb; have BK323 := Aside0.mk hbox; have GW323 := bs_ HB hg; have GE323 := bs_ HB hg; have NB313_323 := nl_ BK313 hg; have NB323_313 := ng_ BK313 hg; have NB314_323 := nl_ BK314 hg; have NB323_314 := ng_ BK314 hg; replace BK313 := bb_ BK313 hb; replace BK314 := bb_ BK314 hb; replace HB := hs_ HB hb; clear hb hbox hg; have hnb93 := NB323_313.out; have hnc93 := NB313_323.out; have hnb94 := NB323_314.out; have hnc94 := NB314_323.out; obtain ⟨hcz95_0, hcz95_1, hcz95_2, hcz95_3, hcz95_4, hcz95_5, hcz95_6, hcz95_7, hfz95_0, hfz95_1, hfz95_2, hfz95_3, hfz95_4, hfz95_5, hfz95_6, hfz95_7⟩ := cz8_ BK323; obtain ⟨hcz96_0, hcz96_1, hfz96_0, hfz96_1⟩ := cz2_ BK313) | ((with_reducible refine gate_callee (f := 16) rfl ?_); refine goesL_ (some 13) rfl rfl Try.func16 (by kernel_rfl) rfl #[.int .i64 a0_0, .int .i64 6, .int .i64 53] rfl ar_ ?_; (with_reducible refine (linkhouseref7_In.calls a0_0 6 53 true _ A15.out).mono ?_); rintro e w' ⟨rfl, ⟨nd, rfl⟩⟩; refine ⟨_, rfl, ?_⟩) | (go_at_call 41; (with_reducible refine (linkhouseref7_Flow.calls k a0_0 t325 _ A50.out).mono ?_); rintro e w' ⟨rfl, ⟨nd, rfl⟩⟩))
              go_ret
              exact ⟨id_, bw_ HB⟩
    · replace c16 := Bool.eq_false_iff.mpr c16
      subst c16
      have H1 : (some false) = some r := by rw [if_neg (show ¬ (false = true) by decide)] at H; exact H
      clear H
      have H := H1
      clear H1
      obtain rfl := Option.some.inj H
      go_enter Try.func18, Try.ntmps18
      go_wp2_with (first | ((with_reducible refine gate_dst (N := 2) rfl ?_); refine bx_ (N := 2) (cs := #[.int .i64 a0_0, .slice A0_1 l0_1.length c0_1]) (t := 24) ?_; intro gb313 hg w97 hbox hb; have BK313 := Aside0.mk hbox; have GW313 := bs_ HB hg; have GE313 := bs_ HB hg; replace HB := hs_ HB hb; clear hb hbox hg) | ((with_reducible refine gate_dst (N := 3) rfl ?_); refine bx_ (N := 3) (cs := #[.int .i64 a1_0, .int .i64 a1_1, .int .i64 a1_2, .int .i64 a1_3]) (t := 36) ?_; intro gb314 hg w98 hbox hb; have BK314 := Aside0.mk hbox; have GW314 := bs_ HB hg; have GE314 := bs_ HB hg; have NB313_314 := nl_ BK313 hg; have NB314_313 := ng_ BK313 hg; replace BK313 := bb_ BK313 hb; replace HB := hs_ HB hb; clear hb hbox hg; have hnb99 := NB313_314.out; have hnc99 := NB314_313.out; obtain ⟨hcz100_0, hcz100_1, hfz100_0, hfz100_1⟩ := cz2_ BK313) | ((with_reducible refine gate_callee (f := 14) rfl ?_); refine goesL_ (some 7) rfl rfl Try.func14 (by kernel_rfl) rfl #[.agg #[.int .i64 a0_0, .slice A0_1 l0_1.length c0_1]] rfl ar_ ?_; (with_reducible refine (linkhouseref7_Effect.calls k a0_0 _ _ l0_1 t315 t316 t317 t318 t319 t320 t321 t322 _ ?side1 ?side2 A3.out).mono ?_); (case side1 => exact cb_ HR0_1 HB); (case side2 => exact HC0_1.out); rintro e w101 ⟨rfl, hb⟩; refine ⟨_, rfl, ?_⟩; replace BK313 := bb_ BK313 hb; replace BK314 := bb_ BK314 hb; replace HB := hs_ HB hb; (try clear hb); (try clear hb2); (try clear hk); (try clear hi)) | ((with_reducible refine gate_dst (N := 5) rfl ?_); refine bx_ (N := 5) (cs := #[.int .i64 0, .int .i64 0, .int .i64 0, .int .i64 0, .int .i64 0, .int .i64 0, .bool false, .bool false]) (t := 26) ?_; intro gb323 hg w102 hbox hb; have BK323 := Aside0.mk hbox; have GW323 := bs_ HB hg; have GE323 := bs_ HB hg; have NB313_323 := nl_ BK313 hg; have NB323_313 := ng_ BK313 hg; have NB314_323 := nl_ BK314 hg; have NB323_314 := ng_ BK314 hg; replace BK313 := bb_ BK313 hb; replace BK314 := bb_ BK314 hb; replace HB := hs_ HB hb; clear hb hbox hg; have hnb103 := NB323_313.out; have hnc103 := NB313_323.out; have hnb104 := NB323_314.out; have hnc104 := NB314_323.out; obtain ⟨hcz105_0, hcz105_1, hcz105_2, hcz105_3, hcz105_4, hcz105_5, hcz105_6, hcz105_7, hfz105_0, hfz105_1, hfz105_2, hfz105_3, hfz105_4, hfz105_5, hfz105_6, hfz105_7⟩ := cz8_ BK323; obtain ⟨hcz106_0, hcz106_1, hfz106_0, hfz106_1⟩ := cz2_ BK313) | ((with_reducible refine gate_callee (f := 16) rfl ?_); refine goesL_ (some 13) rfl rfl Try.func16 (by kernel_rfl) rfl #[.int .i64 a0_0, .int .i64 6, .int .i64 53] rfl ar_ ?_; (with_reducible refine (linkhouseref7_In.calls a0_0 6 53 false _ A15.out).mono ?_); rintro e w' ⟨rfl, ⟨nd, rfl⟩⟩; refine ⟨_, rfl, ?_⟩))
      go_ret
      exact ⟨id_, bw_ HB⟩

/-! ### linkhouselaw7_EffectsDeadMatchesSpec: function 4 -/
set_option maxRecDepth 100000 in
mutual
def linkhouselaw7_EffectsDeadMatchesSpec.j0 : Nat → Bool → Bool → Int → List Int → Int → Int → Int → Int → Int → Int → Int → Int → Option (Bool)
  | 0, _, _, _, _, _, _, _, _, _, _, _, _ => none
  | k + 1, x5, x36, x327000, x327001, x328000, x328001, x328002, x328003, x332000, x332001, x335000, x335001 => if x36 = true then ((linkhouseref7_At.f 3 (-4)).bind fun bt338 => (linkhouselaw7_EffectsDeadMatchesSpec.j1 k x5 x327000 x327001 x328000 x328001 x328002 x328003 x332000 x332001 bt338.1 bt338.2)) else (linkhouselaw7_EffectsDeadMatchesSpec.j1 k x5 x327000 x327001 x328000 x328001 x328002 x328003 x332000 x332001 x335000 x335001)
def linkhouselaw7_EffectsDeadMatchesSpec.j1 : Nat → Bool → Int → List Int → Int → Int → Int → Int → Int → Int → Int → Int → Option (Bool)
  | 0, _, _, _, _, _, _, _, _, _, _, _ => none
  | k + 1, x5, x327000, x327001, x328000, x328001, x328002, x328003, x332000, x332001, x335000, x335001 => if x335000 = 0 then (if x332000 = 0 then ((linkhouseref7_Dead.f k x327000 x327001 x328000 x328001 x328002 x328003).bind fun t340 => (if (x5 == t340) = true then ((linkhouselaw7_added.f k).bind fun t341 => (some t341)) else (some false))) else (some false)) else (if (x332000 == x335000 && (x332001 == x335001)) = true then (if x5 = true then (some false) else ((linkhouselaw7_added.f k).bind fun t342 => (some t342))) else (some false))
end
set_option maxRecDepth 100000 in
def linkhouselaw7_EffectsDeadMatchesSpec.f (k : Nat) (a0_0 : Int) (l0_1 : List Int) (a1_0 : Int) (a1_1 : Int) (a1_2 : Int) (a1_3 : Int) : Option (Bool) := (effects_Dead.f k a0_0 l0_1 a1_0 a1_1 a1_2 a1_3).bind fun bt328 => ((linkhouseref7_InsFault.f k a0_0 l0_1).bind fun bt332 => (if bt332.1 = 0 then ((linkhouseref7_In.f a1_1 0 255).bind fun t335 => (if t335 = true then ((linkhouseref7_In.f a1_2 0 15).bind fun t336 => (if t336 = true then ((linkhouseref7_In.f a1_3 0 15).bind fun t337 => (linkhouselaw7_EffectsDeadMatchesSpec.j0 k bt328.1 (!t337) a0_0 l0_1 a1_0 a1_1 a1_2 a1_3 bt328.2.1 bt328.2.2 bt332.1 bt332.2)) else (linkhouselaw7_EffectsDeadMatchesSpec.j0 k bt328.1 true a0_0 l0_1 a1_0 a1_1 a1_2 a1_3 bt328.2.1 bt328.2.2 bt332.1 bt332.2))) else (linkhouselaw7_EffectsDeadMatchesSpec.j0 k bt328.1 true a0_0 l0_1 a1_0 a1_1 a1_2 a1_3 bt328.2.1 bt328.2.2 bt332.1 bt332.2))) else (linkhouselaw7_EffectsDeadMatchesSpec.j0 k bt328.1 false a0_0 l0_1 a1_0 a1_1 a1_2 a1_3 bt328.2.1 bt328.2.2 bt332.1 bt332.2)))
set_option maxRecDepth 100000 in
theorem linkhouselaw7_EffectsDeadMatchesSpec.mono_l : ∀ k, (∀ y0 y1 y2 y3 y4 y5 y6 y7 y8 y9 y10 y11, LeO (linkhouselaw7_EffectsDeadMatchesSpec.j0 k y0 y1 y2 y3 y4 y5 y6 y7 y8 y9 y10 y11) (linkhouselaw7_EffectsDeadMatchesSpec.j0 (k + 1) y0 y1 y2 y3 y4 y5 y6 y7 y8 y9 y10 y11)) ∧ (∀ y0 y1 y2 y3 y4 y5 y6 y7 y8 y9 y10, LeO (linkhouselaw7_EffectsDeadMatchesSpec.j1 k y0 y1 y2 y3 y4 y5 y6 y7 y8 y9 y10) (linkhouselaw7_EffectsDeadMatchesSpec.j1 (k + 1) y0 y1 y2 y3 y4 y5 y6 y7 y8 y9 y10))
  | 0 => ⟨fun _ _ _ _ _ _ _ _ _ _ _ _ r h => by simp [linkhouselaw7_EffectsDeadMatchesSpec.j0] at h, fun _ _ _ _ _ _ _ _ _ _ _ r h => by simp [linkhouselaw7_EffectsDeadMatchesSpec.j1] at h⟩
  | k + 1 => by
    obtain ⟨ih0, ih1⟩ := linkhouselaw7_EffectsDeadMatchesSpec.mono_l k
    refine ⟨?_, ?_⟩
    · intro y0 y1 y2 y3 y4 y5 y6 y7 y8 y9 y10 y11
      unfold linkhouselaw7_EffectsDeadMatchesSpec.j0
      repeat' first
      | (with_reducible exact ih0 _ _ _ _ _ _ _ _ _ _ _ _)
      | (with_reducible exact ih1 _ _ _ _ _ _ _ _ _ _ _)
      | (with_reducible exact effects_Dead.mono _ _ _ _ _ _ _)
      | (with_reducible exact linkhouselaw7_added.mono _)
      | (with_reducible exact linkhouseref7_Dead.mono _ _ _ _ _ _ _)
      | (with_reducible exact linkhouseref7_InsFault.mono _ _ _)
      | (with_reducible exact LeO.refl _)
      | (with_reducible exact LeO.none _)
      | (with_reducible refine LeO.ite ?_ ?_)
      | (with_reducible refine LeO.bind ?_ (fun _ => ?_))
      | exact ih0 _ _ _ _ _ _ _ _ _ _ _ _
      | exact ih1 _ _ _ _ _ _ _ _ _ _ _
      | exact effects_Dead.mono _ _ _ _ _ _ _
      | exact linkhouselaw7_added.mono _
      | exact linkhouseref7_Dead.mono _ _ _ _ _ _ _
      | exact linkhouseref7_InsFault.mono _ _ _
      | exact LeO.none _
      | refine LeO.ite ?_ ?_
      | refine LeO.bind ?_ (fun _ => ?_)
    · intro y0 y1 y2 y3 y4 y5 y6 y7 y8 y9 y10
      unfold linkhouselaw7_EffectsDeadMatchesSpec.j1
      repeat' first
      | (with_reducible exact ih0 _ _ _ _ _ _ _ _ _ _ _ _)
      | (with_reducible exact ih1 _ _ _ _ _ _ _ _ _ _ _)
      | (with_reducible exact effects_Dead.mono _ _ _ _ _ _ _)
      | (with_reducible exact linkhouselaw7_added.mono _)
      | (with_reducible exact linkhouseref7_Dead.mono _ _ _ _ _ _ _)
      | (with_reducible exact linkhouseref7_InsFault.mono _ _ _)
      | (with_reducible exact LeO.refl _)
      | (with_reducible exact LeO.none _)
      | (with_reducible refine LeO.ite ?_ ?_)
      | (with_reducible refine LeO.bind ?_ (fun _ => ?_))
      | exact ih0 _ _ _ _ _ _ _ _ _ _ _ _
      | exact ih1 _ _ _ _ _ _ _ _ _ _ _
      | exact effects_Dead.mono _ _ _ _ _ _ _
      | exact linkhouselaw7_added.mono _
      | exact linkhouseref7_Dead.mono _ _ _ _ _ _ _
      | exact linkhouseref7_InsFault.mono _ _ _
      | exact LeO.none _
      | refine LeO.ite ?_ ?_
      | refine LeO.bind ?_ (fun _ => ?_)
set_option maxRecDepth 100000 in
theorem linkhouselaw7_EffectsDeadMatchesSpec.mono : ∀ a0 a1 a2 a3 a4 a5 k, LeO (linkhouselaw7_EffectsDeadMatchesSpec.f k a0 a1 a2 a3 a4 a5) (linkhouselaw7_EffectsDeadMatchesSpec.f (k + 1) a0 a1 a2 a3 a4 a5) := by
  intro a0 a1 a2 a3 a4 a5 k
  obtain ⟨ih0, ih1⟩ := linkhouselaw7_EffectsDeadMatchesSpec.mono_l k
  unfold linkhouselaw7_EffectsDeadMatchesSpec.f
  repeat' first
      | (with_reducible exact ih0 _ _ _ _ _ _ _ _ _ _ _ _)
      | (with_reducible exact ih1 _ _ _ _ _ _ _ _ _ _ _)
      | (with_reducible exact effects_Dead.mono _ _ _ _ _ _ _)
      | (with_reducible exact linkhouselaw7_added.mono _)
      | (with_reducible exact linkhouseref7_Dead.mono _ _ _ _ _ _ _)
      | (with_reducible exact linkhouseref7_InsFault.mono _ _ _)
      | (with_reducible exact LeO.refl _)
      | (with_reducible exact LeO.none _)
      | (with_reducible refine LeO.ite ?_ ?_)
      | (with_reducible refine LeO.bind ?_ (fun _ => ?_))
      | exact ih0 _ _ _ _ _ _ _ _ _ _ _ _
      | exact ih1 _ _ _ _ _ _ _ _ _ _ _
      | exact effects_Dead.mono _ _ _ _ _ _ _
      | exact linkhouselaw7_added.mono _
      | exact linkhouseref7_Dead.mono _ _ _ _ _ _ _
      | exact linkhouseref7_InsFault.mono _ _ _
      | exact LeO.none _
      | refine LeO.ite ?_ ?_
      | refine LeO.bind ?_ (fun _ => ?_)
set_option maxHeartbeats 8000000 in
set_option maxRecDepth 100000 in
theorem linkhouselaw7_EffectsDeadMatchesSpec.calls (k : Nat) (a0_0 : Int) (A0_1 : Option Addr) (c0_1 : Nat) (l0_1 : List Int) (a1_0 : Int) (a1_1 : Int) (a1_2 : Int) (a1_3 : Int) (r : Bool) (w : World) (hr0_1 : Kd.C (Kd.int .i64) w A0_1 l0_1.length l0_1) (hc0_1 : l0_1.length ≤ c0_1) (h : linkhouselaw7_EffectsDeadMatchesSpec.f k a0_0 l0_1 a1_0 a1_1 a1_2 a1_3 = some r) :
    Calls Try.prog 4 #[.agg #[.int .i64 a0_0, .slice A0_1 l0_1.length c0_1], .agg #[.int .i64 a1_0, .int .i64 a1_1, .int .i64 a1_2, .int .i64 a1_3]] w fun e w' => e = .returned (.bool r) ∧ Below w.heap.size w w' := by
  have hu24 := Try.underlying24
  have hu36 := Try.underlying36
  have hu28 := Try.underlying28
  have HR0_1 := Aside0.mk hr0_1
  have HC0_1 := Aside0.mk hc0_1
  clear hr0_1 hc0_1
  have HB := Aside0.mk (Below.refl w.heap.size w)
  have H : ((effects_Dead.f k a0_0 l0_1 a1_0 a1_1 a1_2 a1_3).bind fun bt328 => ((linkhouseref7_InsFault.f k a0_0 l0_1).bind fun bt332 => (if bt332.1 = 0 then ((linkhouseref7_In.f a1_1 0 255).bind fun t335 => (if t335 = true then ((linkhouseref7_In.f a1_2 0 15).bind fun t336 => (if t336 = true then ((linkhouseref7_In.f a1_3 0 15).bind fun t337 => (linkhouselaw7_EffectsDeadMatchesSpec.j0 k bt328.1 (!t337) a0_0 l0_1 a1_0 a1_1 a1_2 a1_3 bt328.2.1 bt328.2.2 bt332.1 bt332.2)) else (linkhouselaw7_EffectsDeadMatchesSpec.j0 k bt328.1 true a0_0 l0_1 a1_0 a1_1 a1_2 a1_3 bt328.2.1 bt328.2.2 bt332.1 bt332.2))) else (linkhouselaw7_EffectsDeadMatchesSpec.j0 k bt328.1 true a0_0 l0_1 a1_0 a1_1 a1_2 a1_3 bt328.2.1 bt328.2.2 bt332.1 bt332.2))) else (linkhouselaw7_EffectsDeadMatchesSpec.j0 k bt328.1 false a0_0 l0_1 a1_0 a1_1 a1_2 a1_3 bt328.2.1 bt328.2.2 bt332.1 bt332.2)))) = some r := h
  clear h
  replace H := Option.bind_eq_some_iff.mp H
  obtain ⟨⟨t328, t329, t330⟩, A30, H⟩ := H
  replace H : ((linkhouseref7_InsFault.f k a0_0 l0_1).bind fun bt332 => (if bt332.1 = 0 then ((linkhouseref7_In.f a1_1 0 255).bind fun t335 => (if t335 = true then ((linkhouseref7_In.f a1_2 0 15).bind fun t336 => (if t336 = true then ((linkhouseref7_In.f a1_3 0 15).bind fun t337 => (linkhouselaw7_EffectsDeadMatchesSpec.j0 k t328 (!t337) a0_0 l0_1 a1_0 a1_1 a1_2 a1_3 t329 t330 bt332.1 bt332.2)) else (linkhouselaw7_EffectsDeadMatchesSpec.j0 k t328 true a0_0 l0_1 a1_0 a1_1 a1_2 a1_3 t329 t330 bt332.1 bt332.2))) else (linkhouselaw7_EffectsDeadMatchesSpec.j0 k t328 true a0_0 l0_1 a1_0 a1_1 a1_2 a1_3 t329 t330 bt332.1 bt332.2))) else (linkhouselaw7_EffectsDeadMatchesSpec.j0 k t328 false a0_0 l0_1 a1_0 a1_1 a1_2 a1_3 t329 t330 bt332.1 bt332.2))) = some r := H
  have A3 := Aside0.mk A30
  clear A30
  replace H := Option.bind_eq_some_iff.mp H
  obtain ⟨⟨t332, t333⟩, A40, H⟩ := H
  replace H : (if t332 = 0 then ((linkhouseref7_In.f a1_1 0 255).bind fun t335 => (if t335 = true then ((linkhouseref7_In.f a1_2 0 15).bind fun t336 => (if t336 = true then ((linkhouseref7_In.f a1_3 0 15).bind fun t337 => (linkhouselaw7_EffectsDeadMatchesSpec.j0 k t328 (!t337) a0_0 l0_1 a1_0 a1_1 a1_2 a1_3 t329 t330 t332 t333)) else (linkhouselaw7_EffectsDeadMatchesSpec.j0 k t328 true a0_0 l0_1 a1_0 a1_1 a1_2 a1_3 t329 t330 t332 t333))) else (linkhouselaw7_EffectsDeadMatchesSpec.j0 k t328 true a0_0 l0_1 a1_0 a1_1 a1_2 a1_3 t329 t330 t332 t333))) else (linkhouselaw7_EffectsDeadMatchesSpec.j0 k t328 false a0_0 l0_1 a1_0 a1_1 a1_2 a1_3 t329 t330 t332 t333)) = some r := H
  have A4 := Aside0.mk A40
  clear A40
  have HC5 := Aside0.mk H
  clear H
  go_enter Try.func4, Try.ntmps4
  go_upto_region 3 with (first | ((with_reducible refine gate_dst (N := 2) rfl ?_); refine bx_ (N := 2) (cs := #[.int .i64 a0_0, .slice A0_1 l0_1.length c0_1]) (t := 24) ?_; intro gb326 hg w6 hbox hb; have BK326 := Aside0.mk hbox; have GW326 := bs_ HB hg; have GE326 := bs_ HB hg; replace HB := hs_ HB hb; clear hb hbox hg) | ((with_reducible refine gate_dst (N := 3) rfl ?_); refine bx_ (N := 3) (cs := #[.int .i64 a1_0, .int .i64 a1_1, .int .i64 a1_2, .int .i64 a1_3]) (t := 36) ?_; intro gb327 hg w7 hbox hb; have BK327 := Aside0.mk hbox; have GW327 := bs_ HB hg; have GE327 := bs_ HB hg; have NB326_327 := nl_ BK326 hg; have NB327_326 := ng_ BK326 hg; replace BK326 := bb_ BK326 hb; replace HB := hs_ HB hb; clear hb hbox hg; have hnb8 := NB326_327.out; have hnc8 := NB327_326.out; obtain ⟨hcz9_0, hcz9_1, hfz9_0, hfz9_1⟩ := cz2_ BK326; obtain ⟨hcz10_0, hcz10_1, hcz10_2, hcz10_3, hfz10_0, hfz10_1, hfz10_2, hfz10_3⟩ := cz4_ BK327) | ((with_reducible refine gate_callee (f := 15) rfl ?_); refine goesL_ (some 11) rfl rfl Try.func15 (by kernel_rfl) rfl #[.agg #[.int .i64 a0_0, .slice A0_1 l0_1.length c0_1], .agg #[.int .i64 a1_0, .int .i64 a1_1, .int .i64 a1_2, .int .i64 a1_3]] rfl ar_ ?_; (with_reducible refine (effects_Dead.calls k a0_0 _ _ l0_1 a1_0 a1_1 a1_2 a1_3 t328 t329 t330 _ ?side1 ?side2 A3.out).mono ?_); (case side1 => exact cb_ HR0_1 HB); (case side2 => exact HC0_1.out); rintro e w11 ⟨rfl, hb⟩; refine ⟨_, rfl, ?_⟩; replace BK326 := bb_ BK326 hb; replace BK327 := bb_ BK327 hb; replace HB := hs_ HB hb; (try clear hb); (try clear hb2); (try clear hk); (try clear hi)) | ((with_reducible refine gate_dst (N := 6) rfl ?_); refine bx_ (N := 6) (cs := #[.int .i64 0, .int .i64 0]) (t := 28) ?_; intro gb331 hg w12 hbox hb; have BK331 := Aside0.mk hbox; have GW331 := bs_ HB hg; have GE331 := bs_ HB hg; have NB326_331 := nl_ BK326 hg; have NB331_326 := ng_ BK326 hg; have NB327_331 := nl_ BK327 hg; have NB331_327 := ng_ BK327 hg; replace BK326 := bb_ BK326 hb; replace BK327 := bb_ BK327 hb; replace HB := hs_ HB hb; clear hb hbox hg; have hnb13 := NB331_326.out; have hnc13 := NB326_331.out; have hnb14 := NB331_327.out; have hnc14 := NB327_331.out; obtain ⟨hcz15_0, hcz15_1, hfz15_0, hfz15_1⟩ := cz2_ BK331; obtain ⟨hcz16_0, hcz16_1, hfz16_0, hfz16_1⟩ := cz2_ BK326) | ((with_reducible refine gate_callee (f := 12) rfl ?_); refine goesL_ (some 15) rfl rfl Try.func12 (by kernel_rfl) rfl #[.agg #[.int .i64 a0_0, .slice A0_1 l0_1.length c0_1]] rfl ar_ ?_; (with_reducible refine (linkhouseref7_InsFault.calls k a0_0 _ _ l0_1 t332 t333 _ ?side1 ?side2 A4.out).mono ?_); (case side1 => exact cb_ HR0_1 HB); (case side2 => exact HC0_1.out); rintro e w17 ⟨rfl, hb⟩; refine ⟨_, rfl, ?_⟩; replace BK326 := bb_ BK326 hb; replace BK327 := bb_ BK327 hb; replace BK331 := bo_ (o' := .cells #[.int .i64 t329, .int .i64 t330] 28 (0, 0)) BK331 hb; replace HB := hs_ HB hb; (try clear hb); (try clear hb2); (try clear hk); (try clear hi)) | ((with_reducible refine gate_dst (N := 7) rfl ?_); refine bx_ (N := 7) (cs := #[.int .i64 0, .int .i64 0]) (t := 28) ?_; intro gb334 hg w18 hbox hb; have BK334 := Aside0.mk hbox; have GW334 := bs_ HB hg; have GE334 := bs_ HB hg; have NB326_334 := nl_ BK326 hg; have NB334_326 := ng_ BK326 hg; have NB327_334 := nl_ BK327 hg; have NB334_327 := ng_ BK327 hg; have NB331_334 := nl_ BK331 hg; have NB334_331 := ng_ BK331 hg; replace BK326 := bb_ BK326 hb; replace BK327 := bb_ BK327 hb; replace BK331 := bb_ BK331 hb; replace HB := hs_ HB hb; clear hb hbox hg; have hnb19 := NB334_326.out; have hnc19 := NB326_334.out; have hnb20 := NB334_327.out; have hnc20 := NB327_334.out; have hnb21 := NB334_331.out; have hnc21 := NB331_334.out; obtain ⟨hcz22_0, hcz22_1, hfz22_0, hfz22_1⟩ := cz2_ BK334))
  (try simp only [Act.put, List.setIfInBounds_toArray, List.set_cons_zero, List.set_cons_succ])
  go_cut [36] (fun v36 wc => ∃ (kq : Nat) (x36_4 : Bool), v36 = .bool x36_4 ∧ Aside0 (linkhouselaw7_EffectsDeadMatchesSpec.j0 kq t328 x36_4 a0_0 l0_1 a1_0 a1_1 a1_2 a1_3 t329 t330 t332 t333 = some r) ∧ Aside0 (kq ≤ k) ∧ Aside0 (wc.heap[gb326]? = some (.cells #[.int .i64 a0_0, (.slice A0_1 l0_1.length c0_1)] 24 (0, 0))) ∧ Aside0 (wc.heap[gb327]? = some (.cells #[.int .i64 a1_0, .int .i64 a1_1, .int .i64 a1_2, .int .i64 a1_3] 36 (0, 0))) ∧ Aside0 (wc.heap[gb331]? = some (.cells #[.int .i64 t329, .int .i64 t330] 28 (0, 0))) ∧ Aside0 (wc.heap[gb334]? = some (.cells #[.int .i64 t332, .int .i64 t333] 28 (0, 0))) ∧ Aside0 (Below w.heap.size w wc))
  case first =>
    have H := HC5.out
    clear HC5
    by_cases c23 : t332 = 0
    · rw [if_pos c23] at H
      have c23b0 : (t332 == 0) = true := beq_iff_eq.mpr c23
      have c23b1 : (t332 != 0) = false := bne_eq_false_iff_eq.mpr c23
      clear c23
      (first | rw [c23b0] | (simp only [i64_w, i32_w]; rw [c23b0]) | skip)
      replace H := Option.bind_eq_some_iff.mp H
      obtain ⟨t335, A240, H⟩ := H
      replace H : (if t335 = true then ((linkhouseref7_In.f a1_2 0 15).bind fun t336 => (if t336 = true then ((linkhouseref7_In.f a1_3 0 15).bind fun t337 => (linkhouselaw7_EffectsDeadMatchesSpec.j0 k t328 (!t337) a0_0 l0_1 a1_0 a1_1 a1_2 a1_3 t329 t330 t332 t333)) else (linkhouselaw7_EffectsDeadMatchesSpec.j0 k t328 true a0_0 l0_1 a1_0 a1_1 a1_2 a1_3 t329 t330 t332 t333))) else (linkhouselaw7_EffectsDeadMatchesSpec.j0 k t328 true a0_0 l0_1 a1_0 a1_1 a1_2 a1_3 t329 t330 t332 t333)) = some r := H
      have A24 := Aside0.mk A240
      clear A240
      by_cases c25 : t335 = true
      · subst c25
        have H1 : ((linkhouseref7_In.f a1_2 0 15).bind fun t336 => (if t336 = true then ((linkhouseref7_In.f a1_3 0 15).bind fun t337 => (linkhouselaw7_EffectsDeadMatchesSpec.j0 k t328 (!t337) a0_0 l0_1 a1_0 a1_1 a1_2 a1_3 t329 t330 t332 t333)) else (linkhouselaw7_EffectsDeadMatchesSpec.j0 k t328 true a0_0 l0_1 a1_0 a1_1 a1_2 a1_3 t329 t330 t332 t333))) = some r := by rw [if_pos rfl] at H; exact H
        clear H
        have H := H1
        clear H1
        replace H := Option.bind_eq_some_iff.mp H
        obtain ⟨t336, A260, H⟩ := H
        replace H : (if t336 = true then ((linkhouseref7_In.f a1_3 0 15).bind fun t337 => (linkhouselaw7_EffectsDeadMatchesSpec.j0 k t328 (!t337) a0_0 l0_1 a1_0 a1_1 a1_2 a1_3 t329 t330 t332 t333)) else (linkhouselaw7_EffectsDeadMatchesSpec.j0 k t328 true a0_0 l0_1 a1_0 a1_1 a1_2 a1_3 t329 t330 t332 t333)) = some r := H
        have A26 := Aside0.mk A260
        clear A260
        by_cases c27 : t336 = true
        · subst c27
          have H1 : ((linkhouseref7_In.f a1_3 0 15).bind fun t337 => (linkhouselaw7_EffectsDeadMatchesSpec.j0 k t328 (!t337) a0_0 l0_1 a1_0 a1_1 a1_2 a1_3 t329 t330 t332 t333)) = some r := by rw [if_pos rfl] at H; exact H
          clear H
          have H := H1
          clear H1
          replace H := Option.bind_eq_some_iff.mp H
          obtain ⟨t337, A280, H⟩ := H
          replace H : (linkhouselaw7_EffectsDeadMatchesSpec.j0 k t328 (!t337) a0_0 l0_1 a1_0 a1_1 a1_2 a1_3 t329 t330 t332 t333) = some r := H
          have A28 := Aside0.mk A280
          clear A280
          have H' := Aside0.mk H
          clear H
          have hnb29 := NB334_326.out
          have hnc29 := NB326_334.out
          have hnb30 := NB334_327.out
          have hnc30 := NB327_334.out
          have hnb31 := NB334_331.out
          have hnc31 := NB331_334.out
          obtain ⟨hcz32_0, hcz32_1, hfz32_0, hfz32_1⟩ := cz2_ BK334
          have hnb33 := NB327_326.out
          have hnc33 := NB326_327.out
          have hnb34 := NB327_331.out
          have hnc34 := NB331_327.out
          obtain ⟨hcz35_0, hcz35_1, hcz35_2, hcz35_3, hfz35_0, hfz35_1, hfz35_2, hfz35_3⟩ := cz4_ BK327
          go_wp2_with (first | (go_at_call 16; (with_reducible refine (linkhouseref7_In.calls a1_1 0 255 true _ A24.out).mono ?_); rintro e w' ⟨rfl, ⟨nd, rfl⟩⟩) | (go_at_call 16; (with_reducible refine (linkhouseref7_In.calls a1_2 0 15 true _ A26.out).mono ?_); rintro e w' ⟨rfl, ⟨nd, rfl⟩⟩) | (go_at_call 16; (with_reducible refine (linkhouseref7_In.calls a1_3 0 15 t337 _ A28.out).mono ?_); rintro e w' ⟨rfl, ⟨nd, rfl⟩⟩))
          go_meet
          case rel => exact ⟨_, (!t337), rs_, H', le_, ⟨bk_ BK326⟩, ⟨bk_ BK327⟩, ⟨bk_ BK331⟩, ⟨bk_ BK334⟩, ⟨bw_ HB⟩⟩
        · replace c27 := Bool.eq_false_iff.mpr c27
          subst c27
          have H1 : (linkhouselaw7_EffectsDeadMatchesSpec.j0 k t328 true a0_0 l0_1 a1_0 a1_1 a1_2 a1_3 t329 t330 t332 t333) = some r := by rw [if_neg (show ¬ (false = true) by decide)] at H; exact H
          clear H
          have H := H1
          clear H1
          have H' := Aside0.mk H
          clear H
          have hnb36 := NB334_326.out
          have hnc36 := NB326_334.out
          have hnb37 := NB334_327.out
          have hnc37 := NB327_334.out
          have hnb38 := NB334_331.out
          have hnc38 := NB331_334.out
          obtain ⟨hcz39_0, hcz39_1, hfz39_0, hfz39_1⟩ := cz2_ BK334
          have hnb40 := NB327_326.out
          have hnc40 := NB326_327.out
          have hnb41 := NB327_331.out
          have hnc41 := NB331_327.out
          obtain ⟨hcz42_0, hcz42_1, hcz42_2, hcz42_3, hfz42_0, hfz42_1, hfz42_2, hfz42_3⟩ := cz4_ BK327
          go_wp2_with (first | (go_at_call 16; (with_reducible refine (linkhouseref7_In.calls a1_1 0 255 true _ A24.out).mono ?_); rintro e w' ⟨rfl, ⟨nd, rfl⟩⟩) | (go_at_call 16; (with_reducible refine (linkhouseref7_In.calls a1_2 0 15 false _ A26.out).mono ?_); rintro e w' ⟨rfl, ⟨nd, rfl⟩⟩))
          go_meet
          case rel => exact ⟨_, (true), rs_, H', le_, ⟨bk_ BK326⟩, ⟨bk_ BK327⟩, ⟨bk_ BK331⟩, ⟨bk_ BK334⟩, ⟨bw_ HB⟩⟩
      · replace c25 := Bool.eq_false_iff.mpr c25
        subst c25
        have H1 : (linkhouselaw7_EffectsDeadMatchesSpec.j0 k t328 true a0_0 l0_1 a1_0 a1_1 a1_2 a1_3 t329 t330 t332 t333) = some r := by rw [if_neg (show ¬ (false = true) by decide)] at H; exact H
        clear H
        have H := H1
        clear H1
        have H' := Aside0.mk H
        clear H
        have hnb43 := NB334_326.out
        have hnc43 := NB326_334.out
        have hnb44 := NB334_327.out
        have hnc44 := NB327_334.out
        have hnb45 := NB334_331.out
        have hnc45 := NB331_334.out
        obtain ⟨hcz46_0, hcz46_1, hfz46_0, hfz46_1⟩ := cz2_ BK334
        have hnb47 := NB327_326.out
        have hnc47 := NB326_327.out
        have hnb48 := NB327_331.out
        have hnc48 := NB331_327.out
        obtain ⟨hcz49_0, hcz49_1, hcz49_2, hcz49_3, hfz49_0, hfz49_1, hfz49_2, hfz49_3⟩ := cz4_ BK327
        go_wp2_with (first | (go_at_call 16; (with_reducible refine (linkhouseref7_In.calls a1_1 0 255 false _ A24.out).mono ?_); rintro e w' ⟨rfl, ⟨nd, rfl⟩⟩))
        go_meet
        case rel => exact ⟨_, (true), rs_, H', le_, ⟨bk_ BK326⟩, ⟨bk_ BK327⟩, ⟨bk_ BK331⟩, ⟨bk_ BK334⟩, ⟨bw_ HB⟩⟩
    · rw [if_neg c23] at H
      have c23b0 : (t332 == 0) = false := beq_eq_false_iff_ne.mpr c23
      have c23b1 : (t332 != 0) = true := bne_iff_ne.mpr c23
      (first | rw [c23b0] | (simp only [i64_w, i32_w]; rw [c23b0]) | skip)
      have H' := Aside0.mk H
      clear H
      have hnb50 := NB334_326.out
      have hnc50 := NB326_334.out
      have hnb51 := NB334_327.out
      have hnc51 := NB327_334.out
      have hnb52 := NB334_331.out
      have hnc52 := NB331_334.out
      obtain ⟨hcz53_0, hcz53_1, hfz53_0, hfz53_1⟩ := cz2_ BK334
      go_wp2
      go_meet
      case rel => exact ⟨_, (false), rs_, H', le_, ⟨bk_ BK326⟩, ⟨bk_ BK327⟩, ⟨bk_ BK331⟩, ⟨bk_ BK334⟩, ⟨bw_ HB⟩⟩
  case rest =>
    clear HC5
    (try clear c1); (try clear c2); (try clear p2); (try clear c3); (try clear c4); (try clear c5); (try clear c8); (try clear c12); (try clear c13); (try clear c14); (try clear c15); (try clear c19); (try clear c20); (try clear c21); (try clear c23); (try clear c23b0); (try clear c23b1); (try clear c25); (try clear c27); (try clear c29); (try clear c30); (try clear c31); (try clear c33); (try clear c34); (try clear c36); (try clear c37); (try clear c38); (try clear c40); (try clear c41); (try clear c43); (try clear c44); (try clear c45); (try clear c47); (try clear c48); (try clear c50); (try clear c51); (try clear c52); (try clear hcz10_0); (try clear hcz10_1); (try clear hcz10_2); (try clear hcz10_3); (try clear hcz15_0); (try clear hcz15_1); (try clear hcz16_0); (try clear hcz16_1); (try clear hcz22_0); (try clear hcz22_1); (try clear hcz32_0); (try clear hcz32_1); (try clear hcz35_0); (try clear hcz35_1); (try clear hcz35_2); (try clear hcz35_3); (try clear hcz39_0); (try clear hcz39_1); (try clear hcz42_0); (try clear hcz42_1); (try clear hcz42_2); (try clear hcz42_3); (try clear hcz46_0); (try clear hcz46_1); (try clear hcz49_0); (try clear hcz49_1); (try clear hcz49_2); (try clear hcz49_3); (try clear hcz53_0); (try clear hcz53_1); (try clear hcz9_0); (try clear hcz9_1); (try clear hfz10_0); (try clear hfz10_1); (try clear hfz10_2); (try clear hfz10_3); (try clear hfz15_0); (try clear hfz15_1); (try clear hfz16_0); (try clear hfz16_1); (try clear hfz22_0); (try clear hfz22_1); (try clear hfz32_0); (try clear hfz32_1); (try clear hfz35_0); (try clear hfz35_1); (try clear hfz35_2); (try clear hfz35_3); (try clear hfz39_0); (try clear hfz39_1); (try clear hfz42_0); (try clear hfz42_1); (try clear hfz42_2); (try clear hfz42_3); (try clear hfz46_0); (try clear hfz46_1); (try clear hfz49_0); (try clear hfz49_1); (try clear hfz49_2); (try clear hfz49_3); (try clear hfz53_0); (try clear hfz53_1); (try clear hfz9_0); (try clear hfz9_1)
    obtain ⟨kq, x36_4, rfl, HA, HJ4, BK326, BK327, BK331, BK334, HB⟩ := hcut
    cases kq with
    | zero => exact absurd HA.out (by simp [linkhouselaw7_EffectsDeadMatchesSpec.j0])
    | succ kj4 =>
      have H := HA.out
      clear HA
      simp only [linkhouselaw7_EffectsDeadMatchesSpec.j0] at H
      have HC54 := Aside0.mk H
      clear H
      go_upto_if 36 with (fail)
      go_cut [] (fun wc => ∃ (kq : Nat) (x335000_53 : Int) (x335001_53 : Int), Aside0 (linkhouselaw7_EffectsDeadMatchesSpec.j1 kq t328 a0_0 l0_1 a1_0 a1_1 a1_2 a1_3 t329 t330 x335000_53 x335001_53 = some r) ∧ Aside0 (kq ≤ kj4) ∧ Aside0 (wc.heap[gb326]? = some (.cells #[.int .i64 a0_0, (.slice A0_1 l0_1.length c0_1)] 24 (0, 0))) ∧ Aside0 (wc.heap[gb327]? = some (.cells #[.int .i64 a1_0, .int .i64 a1_1, .int .i64 a1_2, .int .i64 a1_3] 36 (0, 0))) ∧ Aside0 (wc.heap[gb331]? = some (.cells #[.int .i64 t329, .int .i64 t330] 28 (0, 0))) ∧ Aside0 (wc.heap[gb334]? = some (.cells #[.int .i64 x335000_53, .int .i64 x335001_53] 28 (0, 0))) ∧ Aside0 (Below w.heap.size w wc))
      case first =>
        have H := HC54.out
        clear HC54
        by_cases c55 : x36_4 = true
        · subst c55
          have H1 : ((linkhouseref7_At.f 3 (-4)).bind fun bt338 => (linkhouselaw7_EffectsDeadMatchesSpec.j1 kj4 t328 a0_0 l0_1 a1_0 a1_1 a1_2 a1_3 t329 t330 bt338.1 bt338.2)) = some r := by rw [if_pos rfl] at H; exact H
          clear H
          have H := H1
          clear H1
          replace H := Option.bind_eq_some_iff.mp H
          obtain ⟨⟨t338, t339⟩, A560, H⟩ := H
          replace H : (linkhouselaw7_EffectsDeadMatchesSpec.j1 kj4 t328 a0_0 l0_1 a1_0 a1_1 a1_2 a1_3 t329 t330 t338 t339) = some r := H
          have A56 := Aside0.mk A560
          clear A560
          have H' := Aside0.mk H
          clear H
          go_wp2_with (first | ((with_reducible refine gate_callee (f := 17) rfl ?_); refine goesL_ (some 37) rfl rfl Try.func17 (by kernel_rfl) rfl #[.int .i64 3, .int .i64 (-4)] rfl ar_ ?_; (with_reducible refine (linkhouseref7_At.calls 3 (-4) t338 t339 _ A56.out).mono ?_); rintro e w57 ⟨rfl, hb⟩; refine ⟨_, rfl, ?_⟩; replace BK326 := bb_ BK326 hb; replace BK327 := bb_ BK327 hb; replace BK331 := bb_ BK331 hb; replace BK334 := bb_ BK334 hb; replace HB := hs_ HB hb; (try clear hb); (try clear hb2); (try clear hk); (try clear hi); have hnb58 := NB334_326.out; have hnc58 := NB326_334.out; have hnb59 := NB334_327.out; have hnc59 := NB327_334.out; have hnb60 := NB334_331.out; have hnc60 := NB331_334.out; obtain ⟨hcz61_0, hcz61_1, hfz61_0, hfz61_1⟩ := cz2_ BK334))
          go_meet
          case rel => exact ⟨_, (t338), (t339), H', ⟨by have := HJ4.out; first | omega | exact Nat.le_refl _⟩, ⟨bk_ BK326⟩, ⟨bk_ BK327⟩, ⟨bk_ BK331⟩, ⟨bk_ BK334⟩, ⟨bw_ HB⟩⟩
        · replace c55 := Bool.eq_false_iff.mpr c55
          subst c55
          have H1 : (linkhouselaw7_EffectsDeadMatchesSpec.j1 kj4 t328 a0_0 l0_1 a1_0 a1_1 a1_2 a1_3 t329 t330 t332 t333) = some r := by rw [if_neg (show ¬ (false = true) by decide)] at H; exact H
          clear H
          have H := H1
          clear H1
          have H' := Aside0.mk H
          clear H
          go_wp2
          go_meet
          case rel => exact ⟨_, (t332), (t333), H', ⟨by have := HJ4.out; first | omega | exact Nat.le_refl _⟩, ⟨bk_ BK326⟩, ⟨bk_ BK327⟩, ⟨bk_ BK331⟩, ⟨bk_ BK334⟩, ⟨bw_ HB⟩⟩
      case rest =>
        clear HC54
        (try clear c1); (try clear c2); (try clear p2); (try clear c3); (try clear c4); (try clear c5); (try clear c6); (try clear c8); (try clear c12); (try clear c13); (try clear c14); (try clear c15); (try clear c17); (try clear c19); (try clear c20); (try clear c21); (try clear c23); (try clear c23b0); (try clear c23b1); (try clear c25); (try clear c27); (try clear c29); (try clear c30); (try clear c31); (try clear c33); (try clear c34); (try clear c36); (try clear c37); (try clear c38); (try clear c40); (try clear c41); (try clear c43); (try clear c44); (try clear c45); (try clear c47); (try clear c48); (try clear c50); (try clear c51); (try clear c52); (try clear c55); (try clear c58); (try clear c59); (try clear c60); (try clear hcz10_0); (try clear hcz10_1); (try clear hcz10_2); (try clear hcz10_3); (try clear hcz15_0); (try clear hcz15_1); (try clear hcz16_0); (try clear hcz16_1); (try clear hcz22_0); (try clear hcz22_1); (try clear hcz32_0); (try clear hcz32_1); (try clear hcz35_0); (try clear hcz35_1); (try clear hcz35_2); (try clear hcz35_3); (try clear hcz39_0); (try clear hcz39_1); (try clear hcz42_0); (try clear hcz42_1); (try clear hcz42_2); (try clear hcz42_3); (try clear hcz46_0); (try clear hcz46_1); (try clear hcz49_0); (try clear hcz49_1); (try clear hcz49_2); (try clear hcz49_3); (try clear hcz53_0); (try clear hcz53_1); (try clear hcz61_0); (try clear hcz61_1); (try clear hcz9_0); (try clear hcz9_1); (try clear hfz10_0); (try clear hfz10_1); (try clear hfz10_2); (try clear hfz10_3); (try clear hfz15_0); (try clear hfz15_1); (try clear hfz16_0); (try clear hfz16_1); (try clear hfz22_0); (try clear hfz22_1); (try clear hfz32_0); (try clear hfz32_1); (try clear hfz35_0); (try clear hfz35_1); (try clear hfz35_2); (try clear hfz35_3); (try clear hfz39_0); (try clear hfz39_1); (try clear hfz42_0); (try clear hfz42_1); (try clear hfz42_2); (try clear hfz42_3); (try clear hfz46_0); (try clear hfz46_1); (try clear hfz49_0); (try clear hfz49_1); (try clear hfz49_2); (try clear hfz49_3); (try clear hfz53_0); (try clear hfz53_1); (try clear hfz61_0); (try clear hfz61_1); (try clear hfz9_0); (try clear hfz9_1); (try clear p2)
        obtain ⟨kq, x335000_53, x335001_53, HA, HJ53, BK326, BK327, BK331, BK334, HB⟩ := hcut
        cases kq with
        | zero => exact absurd HA.out (by simp [linkhouselaw7_EffectsDeadMatchesSpec.j1])
        | succ kj53 =>
          have H := HA.out
          clear HA
          simp only [linkhouselaw7_EffectsDeadMatchesSpec.j1] at H
          by_cases c62 : x335000_53 = 0
          · rw [if_pos c62] at H
            have c62b0 : (x335000_53 == 0) = true := beq_iff_eq.mpr c62
            have c62b1 : (x335000_53 != 0) = false := bne_eq_false_iff_eq.mpr c62
            clear c62
            by_cases c63 : t329 = 0
            · rw [if_pos c63] at H
              have c63b0 : (t329 == 0) = true := beq_iff_eq.mpr c63
              have c63b1 : (t329 != 0) = false := bne_eq_false_iff_eq.mpr c63
              clear c63
              replace H := Option.bind_eq_some_iff.mp H
              obtain ⟨t340, A640, H⟩ := H
              replace H : (if (t328 == t340) = true then ((linkhouselaw7_added.f kj53).bind fun t341 => (some t341)) else (some false)) = some r := H
              have A64 := Aside0.mk A640
              clear A640
              by_cases c65 : (t328 == t340) = true
              · rw [if_pos c65] at H
                have c65b0 : (t328 == t340) = true := c65
                (try (have c65b1 : decide (t328 = t340) = true := by simpa using c65))
                (try (have c65b2 : (t328 == t340) = true := by simpa using c65))
                clear c65
                replace H := Option.bind_eq_some_iff.mp H
                obtain ⟨t341, A660, H⟩ := H
                replace H : (some t341) = some r := H
                have A66 := Aside0.mk A660
                clear A660
                obtain rfl := Option.some.inj H
                have hnb67 := NB334_326.out
                have hnc67 := NB326_334.out
                have hnb68 := NB334_327.out
                have hnc68 := NB327_334.out
                have hnb69 := NB334_331.out
                have hnc69 := NB331_334.out
                obtain ⟨hcz70_0, hcz70_1, hfz70_0, hfz70_1⟩ := cz2_ BK334
                have hnb71 := NB331_326.out
                have hnc71 := NB326_331.out
                have hnb72 := NB331_327.out
                have hnc72 := NB327_331.out
                obtain ⟨hcz73_0, hcz73_1, hfz73_0, hfz73_1⟩ := cz2_ BK331
                have hnb74 := NB326_327.out
                have hnc74 := NB327_326.out
                obtain ⟨hcz75_0, hcz75_1, hfz75_0, hfz75_1⟩ := cz2_ BK326
                obtain ⟨hcz76_0, hcz76_1, hcz76_2, hcz76_3, hfz76_0, hfz76_1, hfz76_2, hfz76_3⟩ := cz4_ BK327
                go_wp2_with (first | (go_at_call 18; (with_reducible refine (linkhouseref7_Dead.calls kj53 a0_0 _ _ l0_1 a1_0 a1_1 a1_2 a1_3 t340 _ ?side1 ?side2 A64.out).mono ?_); (case side1 => exact cb_ HR0_1 HB); (case side2 => exact HC0_1.out); rintro e w77 ⟨rfl, hb⟩; replace BK326 := bb_ BK326 hb; replace BK327 := bb_ BK327 hb; replace BK331 := bb_ BK331 hb; replace BK334 := bb_ BK334 hb; replace HB := hs_ HB hb; (try clear hb); (try clear hb2); (try clear hk); (try clear hi)) | (go_at_call 13; (with_reducible refine (linkhouselaw7_added.calls kj53  t341 _ A66.out).mono ?_); rintro e w78 ⟨rfl, hb⟩; replace BK326 := bb_ BK326 hb; replace BK327 := bb_ BK327 hb; replace BK331 := bb_ BK331 hb; replace BK334 := bb_ BK334 hb; replace HB := hs_ HB hb; (try clear hb); (try clear hb2); (try clear hk); (try clear hi)))
                go_ret
                exact ⟨id_, bw_ HB⟩
              · rw [if_neg c65] at H
                have c65b0 : (t328 == t340) = false := by simpa using c65
                (try (have c65b1 : decide (t328 = t340) = false := by simpa using c65))
                (try (have c65b2 : (t328 == t340) = false := by simpa using c65))
                (try (have c65b3 : ¬ (t328 = t340) := by simpa using c65))
                clear c65
                obtain rfl := Option.some.inj H
                have hnb79 := NB334_326.out
                have hnc79 := NB326_334.out
                have hnb80 := NB334_327.out
                have hnc80 := NB327_334.out
                have hnb81 := NB334_331.out
                have hnc81 := NB331_334.out
                obtain ⟨hcz82_0, hcz82_1, hfz82_0, hfz82_1⟩ := cz2_ BK334
                have hnb83 := NB331_326.out
                have hnc83 := NB326_331.out
                have hnb84 := NB331_327.out
                have hnc84 := NB327_331.out
                obtain ⟨hcz85_0, hcz85_1, hfz85_0, hfz85_1⟩ := cz2_ BK331
                have hnb86 := NB326_327.out
                have hnc86 := NB327_326.out
                obtain ⟨hcz87_0, hcz87_1, hfz87_0, hfz87_1⟩ := cz2_ BK326
                obtain ⟨hcz88_0, hcz88_1, hcz88_2, hcz88_3, hfz88_0, hfz88_1, hfz88_2, hfz88_3⟩ := cz4_ BK327
                go_wp2_with (first | (go_at_call 18; (with_reducible refine (linkhouseref7_Dead.calls kj53 a0_0 _ _ l0_1 a1_0 a1_1 a1_2 a1_3 t340 _ ?side1 ?side2 A64.out).mono ?_); (case side1 => exact cb_ HR0_1 HB); (case side2 => exact HC0_1.out); rintro e w89 ⟨rfl, hb⟩; replace BK326 := bb_ BK326 hb; replace BK327 := bb_ BK327 hb; replace BK331 := bb_ BK331 hb; replace BK334 := bb_ BK334 hb; replace HB := hs_ HB hb; (try clear hb); (try clear hb2); (try clear hk); (try clear hi)))
                go_ret
                exact ⟨id_, bw_ HB⟩
            · rw [if_neg c63] at H
              have c63b0 : (t329 == 0) = false := beq_eq_false_iff_ne.mpr c63
              have c63b1 : (t329 != 0) = true := bne_iff_ne.mpr c63
              obtain rfl := Option.some.inj H
              have hnb90 := NB334_326.out
              have hnc90 := NB326_334.out
              have hnb91 := NB334_327.out
              have hnc91 := NB327_334.out
              have hnb92 := NB334_331.out
              have hnc92 := NB331_334.out
              obtain ⟨hcz93_0, hcz93_1, hfz93_0, hfz93_1⟩ := cz2_ BK334
              have hnb94 := NB331_326.out
              have hnc94 := NB326_331.out
              have hnb95 := NB331_327.out
              have hnc95 := NB327_331.out
              obtain ⟨hcz96_0, hcz96_1, hfz96_0, hfz96_1⟩ := cz2_ BK331
              go_wp2
              go_ret
              exact ⟨id_, bw_ HB⟩
          · rw [if_neg c62] at H
            have c62b0 : (x335000_53 == 0) = false := beq_eq_false_iff_ne.mpr c62
            have c62b1 : (x335000_53 != 0) = true := bne_iff_ne.mpr c62
            by_cases c97 : (t329 == x335000_53 && (t330 == x335001_53)) = true
            · rw [if_pos c97] at H
              have c97b0 : (t329 == x335000_53 && (t330 == x335001_53)) = true := c97
              (try (have c97b1 : decide (t329 = x335000_53 && (t330 == x335001_53)) = true := by simpa using c97))
              (try (have c97b2 : (t329 == x335000_53 && (t330 == x335001_53)) = true := by simpa using c97))
              clear c97
              by_cases c98 : t328 = true
              · subst c98
                have H1 : (some false) = some r := by rw [if_pos rfl] at H; exact H
                clear H
                have H := H1
                clear H1
                obtain rfl := Option.some.inj H
                have hnb99 := NB334_326.out
                have hnc99 := NB326_334.out
                have hnb100 := NB334_327.out
                have hnc100 := NB327_334.out
                have hnb101 := NB334_331.out
                have hnc101 := NB331_334.out
                obtain ⟨hcz102_0, hcz102_1, hfz102_0, hfz102_1⟩ := cz2_ BK334
                have hnb103 := NB331_326.out
                have hnc103 := NB326_331.out
                have hnb104 := NB331_327.out
                have hnc104 := NB327_331.out
                obtain ⟨hcz105_0, hcz105_1, hfz105_0, hfz105_1⟩ := cz2_ BK331
                go_wp2
                go_ret
                exact ⟨id_, bw_ HB⟩
              · replace c98 := Bool.eq_false_iff.mpr c98
                subst c98
                have H1 : ((linkhouselaw7_added.f kj53).bind fun t342 => (some t342)) = some r := by rw [if_neg (show ¬ (false = true) by decide)] at H; exact H
                clear H
                have H := H1
                clear H1
                replace H := Option.bind_eq_some_iff.mp H
                obtain ⟨t342, A1060, H⟩ := H
                replace H : (some t342) = some r := H
                have A106 := Aside0.mk A1060
                clear A1060
                obtain rfl := Option.some.inj H
                have hnb107 := NB334_326.out
                have hnc107 := NB326_334.out
                have hnb108 := NB334_327.out
                have hnc108 := NB327_334.out
                have hnb109 := NB334_331.out
                have hnc109 := NB331_334.out
                obtain ⟨hcz110_0, hcz110_1, hfz110_0, hfz110_1⟩ := cz2_ BK334
                have hnb111 := NB331_326.out
                have hnc111 := NB326_331.out
                have hnb112 := NB331_327.out
                have hnc112 := NB327_331.out
                obtain ⟨hcz113_0, hcz113_1, hfz113_0, hfz113_1⟩ := cz2_ BK331
                go_wp2_with (first | (go_at_call 13; (with_reducible refine (linkhouselaw7_added.calls kj53  t342 _ A106.out).mono ?_); rintro e w114 ⟨rfl, hb⟩; replace BK326 := bb_ BK326 hb; replace BK327 := bb_ BK327 hb; replace BK331 := bb_ BK331 hb; replace BK334 := bb_ BK334 hb; replace HB := hs_ HB hb; (try clear hb); (try clear hb2); (try clear hk); (try clear hi)))
                go_ret
                exact ⟨id_, bw_ HB⟩
            · rw [if_neg c97] at H
              have c97b0 : (t329 == x335000_53 && (t330 == x335001_53)) = false := by simpa using c97
              (try (have c97b1 : decide (t329 = x335000_53 && (t330 == x335001_53)) = false := by simpa using c97))
              (try (have c97b2 : (t329 == x335000_53 && (t330 == x335001_53)) = false := by simpa using c97))
              (try (have c97b3 : ¬ (t329 = x335000_53 && (t330 == x335001_53)) := by simpa using c97))
              clear c97
              obtain rfl := Option.some.inj H
              have hnb115 := NB334_326.out
              have hnc115 := NB326_334.out
              have hnb116 := NB334_327.out
              have hnc116 := NB327_334.out
              have hnb117 := NB334_331.out
              have hnc117 := NB331_334.out
              obtain ⟨hcz118_0, hcz118_1, hfz118_0, hfz118_1⟩ := cz2_ BK334
              have hnb119 := NB331_326.out
              have hnc119 := NB326_331.out
              have hnb120 := NB331_327.out
              have hnc120 := NB327_331.out
              obtain ⟨hcz121_0, hcz121_1, hfz121_0, hfz121_1⟩ := cz2_ BK331
              go_wp2
              go_ret
              exact ⟨id_, bw_ HB⟩

end Go.Proofs.Ytaellapacoikaaa.PA
