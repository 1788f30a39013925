import Derived.Test.YtaellapacoikaaaV0
import Derived.Test.YtaellapacoikaaaVSAx0
import Derived.Deep.Cut
namespace Go.Proofs.Ytaellapacoikaaa.PA
open Go.RowKit Go.Proofs.YtaellapacoikaaaW.PrintWords Go.Proofs.YtaellapacoikaaaW.PrintLast Go.Proofs.YtaellapacoikaaaW.PrintMore
attribute [local go_sem] max2_int min2_int max_two min_two max_three min_three max_four min_four   -- for this text's walks alone
set_option linter.unusedVariables false
set_option linter.unusedSimpArgs false

/-! ### effects_Find_1: function 54 -/
set_option maxRecDepth 100000 in
def effects_Find_1.f (a0 : Int) (a1_0 : Int) (l1_1 : List Int) : Option (Int) := if 0 ≤ a0 then (if a0 < (l1_1.length : Int) then (if 0 ≤ (rd l1_1 a0) then (some (shl .i64 1 (rd l1_1 a0))) else (none)) else (none)) else (none)
set_option maxHeartbeats 8000000 in
set_option maxRecDepth 100000 in
theorem effects_Find_1.calls (a0 : Int) (gc1 : Nat) (a1_0 : Int) (A1_1 : Option Addr) (c1_1 : Nat) (l1_1 : List Int) (r : Int) (w : World) (hb1 : w.heap[gc1]? = some (.cells #[.int .i64 a1_0, .slice A1_1 l1_1.length c1_1] 24 (0, 0))) (hr1_1 : Kd.C (Kd.int .i64) w A1_1 l1_1.length l1_1) (hc1_1 : l1_1.length ≤ c1_1) (h : effects_Find_1.f a0 a1_0 l1_1 = some r) :
    Calls Try.prog 54 #[.int .i64 a0, .pointer (some ⟨gc1, 0, none⟩)] w fun e w' => e = .returned (.int .i64 r) ∧ Drawn0 w w' := by
  have HR1_1 := Aside0.mk hr1_1
  have HC1_1 := Aside0.mk hc1_1
  clear hr1_1 hc1_1
  have BK111 := Aside0.mk hb1
  clear hb1
  have H : (if 0 ≤ a0 then (if a0 < (l1_1.length : Int) then (if 0 ≤ (rd l1_1 a0) then (some (shl .i64 1 (rd l1_1 a0))) else (none)) else (none)) else (none)) = some r := h
  clear h
  by_cases c3 : 0 ≤ a0
  · rw [if_pos c3] at H
    have c3b0 : decide (0 ≤ a0) = true := decide_eq_true c3
    clear c3
    by_cases c4 : a0 < (l1_1.length : Int)
    · rw [if_pos c4] at H
      have c4b0 : decide (a0 < (l1_1.length : Int)) = true := decide_eq_true c4
      clear c4
      by_cases c5 : 0 ≤ (rd l1_1 a0)
      · rw [if_pos c5] at H
        have c5b0 := eq_true c5
        have c5b1 : decide (0 ≤ (rd l1_1 a0)) = true := decide_eq_true c5
        clear c5
        obtain ⟨ji6, hji6⟩ : ∃ j_ : Int, (shl .i64 1 (rd l1_1 a0)) = j_ := ⟨_, rfl⟩
        replace H : (some ji6) = some r := by first | (rw [hji6] at H; exact H) | (simp only [hji6] at H ⊢; exact H)
        have hji6_ : (IntKind.i64.wrap (1 * 2 ^ min (rd l1_1 a0).toNat 64)) = ji6 := hji6
        have hji6z : (rd l1_1 a0) ≤ 64 → (IntKind.i64.wrap (1 * 2 ^ (rd l1_1 a0).toNat)) = ji6 := shl_small hji6
        have hji6u : (IntKind.i64.wrap (2 ^ min (rd l1_1 a0).toNat 64)) = ji6 := by have h_ := hji6_; rw [Int.one_mul] at h_; exact h_
        have hji6v : (rd l1_1 a0) ≤ 64 → (IntKind.i64.wrap (2 ^ (rd l1_1 a0).toNat)) = ji6 := fun hle_ => by have h_ := hji6z hle_; rw [Int.one_mul] at h_; exact h_
        have hji6y : (wrap64 (1 * 2 ^ min (rd l1_1 a0).toNat 64)) = ji6 := (i64_w _).symm.trans hji6_
        have hji6x : (rd l1_1 a0) ≤ 64 → (wrap64 (1 * 2 ^ (rd l1_1 a0).toNat)) = ji6 := fun h_ => (i64_w _).symm.trans (hji6z h_)
        obtain rfl := Option.some.inj H
        have hcz7_0 : w.cell? ⟨gc1, 0, none⟩ = some (.int .i64 a1_0) := (blk_cell BK111.out 0).trans rfl
        have hcz7_1 : w.cell? ⟨gc1, 1, none⟩ = some (.slice A1_1 l1_1.length c1_1) := (blk_cell BK111.out 1).trans rfl
        have hfz7_0 := blk_frozen BK111.out 0
        have hfz7_1 := blk_frozen BK111.out 1
        have p112 : 0 ≤ (a0 : Int) := of_decide_eq_true (by first | (with_reducible assumption) | assumption)
        have q112 : a0 < (l1_1.length : Int) := of_decide_eq_true (by first | (with_reducible assumption) | assumption)
        obtain ⟨ad112, e112, hx112_0⟩ := Kd.at_int HR1_1.out a0 p112 q112
        cases e112
        replace p112 := eq_true p112
        replace q112 := eq_true q112
        go_enter Try.func54, Try.ntmps54
        go_wp2
        go_ret
        exact ⟨by first | rfl | (simp; done) | (simp only [← hji6] <;> (first | rfl | simp)) | (simp [*]; done), by repeat (first | exact Drawn0.refl _ | apply Drawn0.step)⟩
      · rw [if_neg c5] at H
        exact absurd H (by simp)
    · rw [if_neg c4] at H
      exact absurd H (by simp)
  · rw [if_neg c3] at H
    exact absurd H (by simp)

/-! ### effects_arithmetic: function 55 -/
set_option maxRecDepth 100000 in
def effects_arithmetic.f (a0_0 : Int) (l0_1 : List Int) (a1 : Bool) (a2 : Bool) : Option (Int × Int × Int × Int × Int × Int × Bool × Bool) := if 0 < (l0_1.length : Int) then (if 0 ≤ (rd l0_1 0) then (if a2 = true then (if 1 < (l0_1.length : Int) then (if 0 ≤ (rd l0_1 1) then (if a1 = true then (some (Go.bits .or .i64 (shl .i64 1 (rd l0_1 0)) (shl .i64 1 (rd l0_1 1)), shl .i64 1 (rd l0_1 0), 0, 0, 0, 15, false, false)) else (some (Go.bits .or .i64 (shl .i64 1 (rd l0_1 0)) (shl .i64 1 (rd l0_1 1)), 0, 0, 0, 0, 15, false, false))) else (none)) else (none)) else (if a1 = true then (some (shl .i64 1 (rd l0_1 0), shl .i64 1 (rd l0_1 0), 0, 0, 0, 15, false, false)) else (some (shl .i64 1 (rd l0_1 0), 0, 0, 0, 0, 15, false, false)))) else (none)) else (none)
def effects_arithmetic.T3 : Bool × List (List Nat × List Nat) := (true, [([], []), ([0], [0]), ([], []), ([2], [2]), ([3], [3]), ([4], [4]), ([5], [5]), ([1, 6], [1, 6]), ([0, 1, 2, 3, 4, 5, 6, 7], []), ([8, 7, 0, 1, 2, 3, 4, 5, 6, 7], [7, 8])])
def effects_arithmetic.B3 : List Nat := [0, 1, 0, 4, 12, 28, 60, 127, 255, 511]
theorem effects_arithmetic.tab3 : rtab .any (opsOf Try.f55 3) = effects_arithmetic.T3 := by kernel_rfl
theorem effects_arithmetic.bits3 : waitsOk effects_arithmetic.T3.2 effects_arithmetic.B3 = true := by kernel_rfl
set_option maxHeartbeats 8000000 in
set_option maxRecDepth 100000 in
theorem effects_arithmetic.calls (a0_0 : Int) (A0_1 : Option Addr) (c0_1 : Nat) (l0_1 : List Int) (a1 : Bool) (a2 : Bool) (r1 : Int) (r2 : Int) (r3 : Int) (r4 : Int) (r5 : Int) (r6 : Int) (r7 : Bool) (r8 : Bool) (w : World) (hr0_1 : Kd.C (Kd.int .i64) w A0_1 l0_1.length l0_1) (hc0_1 : l0_1.length ≤ c0_1) (h : effects_arithmetic.f a0_0 l0_1 a1 a2 = some (r1, r2, r3, r4, r5, r6, r7, r8)) :
    Calls Try.prog 55 #[.agg #[.int .i64 a0_0, .slice A0_1 l0_1.length c0_1], .bool a1, .bool a2] w fun e w' => e = .returned (.agg #[.int .i64 r1, .int .i64 r2, .int .i64 r3, .int .i64 r4, .int .i64 r5, .int .i64 r6, .bool r7, .bool r8]) ∧ Below w.heap.size w w' := by
  have hu24 := Try.underlying24
  have hu26 := Try.underlying26
  have HR0_1 := Aside0.mk hr0_1
  have HC0_1 := Aside0.mk hc0_1
  clear hr0_1 hc0_1
  have HB := Aside0.mk (Below.refl w.heap.size w)
  have H : (if 0 < (l0_1.length : Int) then (if 0 ≤ (rd l0_1 0) then (if a2 = true then (if 1 < (l0_1.length : Int) then (if 0 ≤ (rd l0_1 1) then (if a1 = true then (some (Go.bits .or .i64 (shl .i64 1 (rd l0_1 0)) (shl .i64 1 (rd l0_1 1)), shl .i64 1 (rd l0_1 0), 0, 0, 0, 15, false, false)) else (some (Go.bits .or .i64 (shl .i64 1 (rd l0_1 0)) (shl .i64 1 (rd l0_1 1)), 0, 0, 0, 0, 15, false, false))) else (none)) else (none)) else (if a1 = true then (some (shl .i64 1 (rd l0_1 0), shl .i64 1 (rd l0_1 0), 0, 0, 0, 15, false, false)) else (some (shl .i64 1 (rd l0_1 0), 0, 0, 0, 0, 15, false, false)))) else (none)) else (none)) = some (r1, r2, r3, r4, r5, r6, r7, r8) := h
  clear h
  by_cases c4 : 0 < (l0_1.length : Int)
  · rw [if_pos c4] at H
    have c4b0 : decide (0 < (l0_1.length : Int)) = true := decide_eq_true c4
    have c4b1 : decide (0 < l0_1.length) = true := decide_eq_true (by omega)
    clear c4
    by_cases c5 : 0 ≤ (rd l0_1 0)
    · rw [if_pos c5] at H
      have c5b0 := eq_true c5
      have c5b1 : decide (0 ≤ (rd l0_1 0)) = true := decide_eq_true c5
      clear c5
      obtain ⟨ji6, hji6⟩ : ∃ j_ : Int, (shl .i64 1 (rd l0_1 0)) = j_ := ⟨_, rfl⟩
      replace H : (if a2 = true then (if 1 < (l0_1.length : Int) then (if 0 ≤ (rd l0_1 1) then (if a1 = true then (some (Go.bits .or .i64 (ji6) (shl .i64 1 (rd l0_1 1)), ji6, 0, 0, 0, 15, false, false)) else (some (Go.bits .or .i64 (ji6) (shl .i64 1 (rd l0_1 1)), 0, 0, 0, 0, 15, false, false))) else (none)) else (none)) else (if a1 = true then (some (ji6, ji6, 0, 0, 0, 15, false, false)) else (some (ji6, 0, 0, 0, 0, 15, false, false)))) = some (r1, r2, r3, r4, r5, r6, r7, r8) := by first | (rw [hji6] at H; exact H) | (simp only [hji6] at H ⊢; exact H)
      have hji6_ : (IntKind.i64.wrap (1 * 2 ^ min (rd l0_1 0).toNat 64)) = ji6 := hji6
      have hji6z : (rd l0_1 0) ≤ 64 → (IntKind.i64.wrap (1 * 2 ^ (rd l0_1 0).toNat)) = ji6 := shl_small hji6
      have hji6u : (IntKind.i64.wrap (2 ^ min (rd l0_1 0).toNat 64)) = ji6 := by have h_ := hji6_; rw [Int.one_mul] at h_; exact h_
      have hji6v : (rd l0_1 0) ≤ 64 → (IntKind.i64.wrap (2 ^ (rd l0_1 0).toNat)) = ji6 := fun hle_ => by have h_ := hji6z hle_; rw [Int.one_mul] at h_; exact h_
      have hji6y : (wrap64 (1 * 2 ^ min (rd l0_1 0).toNat 64)) = ji6 := (i64_w _).symm.trans hji6_
      have hji6x : (rd l0_1 0) ≤ 64 → (wrap64 (1 * 2 ^ (rd l0_1 0).toNat)) = ji6 := fun h_ => (i64_w _).symm.trans (hji6z h_)
      by_cases c7 : a2 = true
      · subst c7
        have H1 : (if 1 < (l0_1.length : Int) then (if 0 ≤ (rd l0_1 1) then (if a1 = true then (some (Go.bits .or .i64 (ji6) (shl .i64 1 (rd l0_1 1)), ji6, 0, 0, 0, 15, false, false)) else (some (Go.bits .or .i64 (ji6) (shl .i64 1 (rd l0_1 1)), 0, 0, 0, 0, 15, false, false))) else (none)) else (none)) = some (r1, r2, r3, r4, r5, r6, r7, r8) := by rw [if_pos rfl] at H; exact H
        clear H
        have H := H1
        clear H1
        by_cases c8 : 1 < (l0_1.length : Int)
        · rw [if_pos c8] at H
          have c8b0 : decide (1 < (l0_1.length : Int)) = true := decide_eq_true c8
          have c8b1 : decide (1 < l0_1.length) = true := decide_eq_true (by omega)
          clear c8
          by_cases c9 : 0 ≤ (rd l0_1 1)
          · rw [if_pos c9] at H
            have c9b0 := eq_true c9
            have c9b1 : decide (0 ≤ (rd l0_1 1)) = true := decide_eq_true c9
            clear c9
            obtain ⟨ji10, hji10⟩ : ∃ j_ : Int, (shl .i64 1 (rd l0_1 1)) = j_ := ⟨_, rfl⟩
            replace H : (if a1 = true then (some (Go.bits .or .i64 (ji6) (ji10), ji6, 0, 0, 0, 15, false, false)) else (some (Go.bits .or .i64 (ji6) (ji10), 0, 0, 0, 0, 15, false, false))) = some (r1, r2, r3, r4, r5, r6, r7, r8) := by first | (rw [hji10] at H; exact H) | (simp only [hji10] at H ⊢; exact H)
            have hji10_ : (IntKind.i64.wrap (1 * 2 ^ min (rd l0_1 1).toNat 64)) = ji10 := hji10
            have hji10z : (rd l0_1 1) ≤ 64 → (IntKind.i64.wrap (1 * 2 ^ (rd l0_1 1).toNat)) = ji10 := shl_small hji10
            have hji10u : (IntKind.i64.wrap (2 ^ min (rd l0_1 1).toNat 64)) = ji10 := by have h_ := hji10_; rw [Int.one_mul] at h_; exact h_
            have hji10v : (rd l0_1 1) ≤ 64 → (IntKind.i64.wrap (2 ^ (rd l0_1 1).toNat)) = ji10 := fun hle_ => by have h_ := hji10z hle_; rw [Int.one_mul] at h_; exact h_
            have hji10y : (wrap64 (1 * 2 ^ min (rd l0_1 1).toNat 64)) = ji10 := (i64_w _).symm.trans hji10_
            have hji10x : (rd l0_1 1) ≤ 64 → (wrap64 (1 * 2 ^ (rd l0_1 1).toNat)) = ji10 := fun h_ => (i64_w _).symm.trans (hji10z h_)
            by_cases c11 : a1 = true
            · subst c11
              have H1 : (some (Go.bits .or .i64 (ji6) (ji10), ji6, 0, 0, 0, 15, false, false)) = some (r1, r2, r3, r4, r5, r6, r7, r8) := by rw [if_pos rfl] at H; exact H
              clear H
              have H := H1
              clear H1
              have c12b0 := eq_true (of_decide_eq_true (by first | (with_reducible assumption) | assumption) : 0 ≤ (rd l0_1 0))
              simp only [Option.some.injEq, Prod.mk.injEq] at H
              obtain ⟨rfl, rfl, rfl, rfl, rfl, rfl, rfl, rfl⟩ := H
              go_enter Try.func55, Try.ntmps55
              try go_wp2_with (first | ((with_reducible refine gate_dst (N := 3) rfl ?_); refine bx_ (N := 3) (cs := #[.int .i64 a0_0, .slice A0_1 l0_1.length c0_1]) (t := 24) ?_; intro gb113 hg w13 hbox hb; have BK113 := Aside0.mk hbox; have GW113 := bs_ HB hg; have GE113 := bs_ HB hg; replace HB := hs_ HB hb; clear hb hbox hg) | ((with_reducible refine gate_dst (N := 6) rfl ?_); refine bx_ (N := 6) (cs := #[.int .i64 0, .int .i64 0, .int .i64 0, .int .i64 0, .int .i64 0, .int .i64 0, .bool false, .bool false]) (t := 26) ?_; intro gb114 hg w14 hbox hb; have BK114 := Aside0.mk hbox; have GW114 := bs_ HB hg; have GE114 := bs_ HB hg; have NB113_114 := nl_ BK113 hg; have NB114_113 := ng_ BK113 hg; replace BK113 := bb_ BK113 hb; replace HB := hs_ HB hb; clear hb hbox hg; have hnb15 := NB113_114.out; have hnc15 := NB114_113.out; obtain ⟨hcz16_0, hcz16_1, hfz16_0, hfz16_1⟩ := cz2_ BK113; have p115 : 0 ≤ (0 : Int) := (by omega); have q115 : 0 < (l0_1.length : Int) := of_decide_eq_true (by first | (with_reducible assumption) | assumption); obtain ⟨ad115, e115, hx115_0⟩ := Kd.at_int HR0_1.out 0 p115 q115; cases e115; have qi115 : (0 < l0_1.length) = True := eq_true (by omega); (try rw [show ((0 : Int)).toNat = 0 from rfl] at hx115_0); (try rw [Addr.add_zero'] at hx115_0); replace hx115_0 := (HB.out.cell (World.block_lt_of_cell? w _ hx115_0)).trans hx115_0; replace p115 := eq_true p115; replace q115 := eq_true q115) | ((with_reducible refine gate_dst (N := 7) rfl ?_); refine bx_ (N := 7) (cs := #[.int .i64 0, .int .i64 0, .int .i64 0, .int .i64 0, .int .i64 0, .int .i64 0, .bool false, .bool false]) (t := 26) ?_; intro gb116 hg w17 hbox hb; have BK116 := Aside0.mk hbox; have GW116 := bs_ HB hg; have GE116 := bs_ HB hg; have NB113_116 := nl_ BK113 hg; have NB116_113 := ng_ BK113 hg; have NB114_116 := nl_ BK114 hg; have NB116_114 := ng_ BK114 hg; replace BK113 := bb_ BK113 hb; replace BK114 := bb_ BK114 hb; replace HB := hs_ HB hb; clear hb hbox hg; have hnb18 := NB116_113.out; have hnc18 := NB113_116.out; have hnb19 := NB116_114.out; have hnc19 := NB114_116.out; obtain ⟨hcz20_0, hcz20_1, hcz20_2, hcz20_3, hcz20_4, hcz20_5, hcz20_6, hcz20_7, hfz20_0, hfz20_1, hfz20_2, hfz20_3, hfz20_4, hfz20_5, hfz20_6, hfz20_7⟩ := cz8_ BK116))
              have n0_ : Aside0 (((((((((w17.setCell ⟨gb116, 0, none⟩ (.int .i64 ji6)).setCell ⟨gb116, 1, none⟩ (.int .i64 0)).setCell ⟨gb116, 2, none⟩ (.int .i64 0)).setCell ⟨gb116, 3, none⟩ (.int .i64 0)).setCell ⟨gb116, 4, none⟩ (.int .i64 0)).setCell ⟨gb116, 5, none⟩ (.int .i64 15)).setCell ⟨gb116, 6, none⟩ (.bool false)).setCell ⟨gb116, 7, none⟩ (.bool false)).heap[gb113]? = some (.cells #[.int .i64 a0_0, .slice (some ad115) l0_1.length c0_1] 24 (0, 0))) := ⟨bk_ BK113⟩
              have n1_ : Aside0 (((((((((w17.setCell ⟨gb116, 0, none⟩ (.int .i64 ji6)).setCell ⟨gb116, 1, none⟩ (.int .i64 0)).setCell ⟨gb116, 2, none⟩ (.int .i64 0)).setCell ⟨gb116, 3, none⟩ (.int .i64 0)).setCell ⟨gb116, 4, none⟩ (.int .i64 0)).setCell ⟨gb116, 5, none⟩ (.int .i64 15)).setCell ⟨gb116, 6, none⟩ (.bool false)).setCell ⟨gb116, 7, none⟩ (.bool false)).heap[gb114]? = some (.cells #[.int .i64 0, .int .i64 0, .int .i64 0, .int .i64 0, .int .i64 0, .int .i64 0, .bool false, .bool false] 26 (0, 0))) := ⟨bk_ BK114⟩
              have n2_ : Aside0 (((((((((w17.setCell ⟨gb116, 0, none⟩ (.int .i64 ji6)).setCell ⟨gb116, 1, none⟩ (.int .i64 0)).setCell ⟨gb116, 2, none⟩ (.int .i64 0)).setCell ⟨gb116, 3, none⟩ (.int .i64 0)).setCell ⟨gb116, 4, none⟩ (.int .i64 0)).setCell ⟨gb116, 5, none⟩ (.int .i64 15)).setCell ⟨gb116, 6, none⟩ (.bool false)).setCell ⟨gb116, 7, none⟩ (.bool false)).heap[gb116]? = some (.cells #[.int .i64 ji6, .int .i64 0, .int .i64 0, .int .i64 0, .int .i64 0, .int .i64 15, .bool false, .bool false] 26 (0, 0))) := ⟨bk_ BK116⟩
              have n3_ : Aside0 (Below w.heap.size w ((((((((w17.setCell ⟨gb116, 0, none⟩ (.int .i64 ji6)).setCell ⟨gb116, 1, none⟩ (.int .i64 0)).setCell ⟨gb116, 2, none⟩ (.int .i64 0)).setCell ⟨gb116, 3, none⟩ (.int .i64 0)).setCell ⟨gb116, 4, none⟩ (.int .i64 0)).setCell ⟨gb116, 5, none⟩ (.int .i64 15)).setCell ⟨gb116, 6, none⟩ (.bool false)).setCell ⟨gb116, 7, none⟩ (.bool false))) := ⟨bw_ HB⟩
              (try clear BK113)
              (try clear BK114)
              (try clear BK116)
              (try clear HB)
              generalize ((((((((w17.setCell ⟨gb116, 0, none⟩ (.int .i64 ji6)).setCell ⟨gb116, 1, none⟩ (.int .i64 0)).setCell ⟨gb116, 2, none⟩ (.int .i64 0)).setCell ⟨gb116, 3, none⟩ (.int .i64 0)).setCell ⟨gb116, 4, none⟩ (.int .i64 0)).setCell ⟨gb116, 5, none⟩ (.int .i64 15)).setCell ⟨gb116, 6, none⟩ (.bool false)).setCell ⟨gb116, 7, none⟩ (.bool false)) = w21 at n0_ n1_ n2_ n3_ ⊢
              have BK113 := n0_
              have BK114 := n1_
              have BK116 := n2_
              have HB := n3_
              clear n0_ n1_ n2_ n3_
              have n0_ := Aside0.mk (blk_drew BK113.out)
              have n1_ := Aside0.mk (blk_drew BK114.out)
              have n2_ := Aside0.mk (blk_drew BK116.out)
              have n3_ := Aside0.mk (below_drew1 HB.out)
              clear BK113
              clear BK114
              clear BK116
              clear HB
              have BK113 := n0_
              have BK114 := n1_
              have BK116 := n2_
              have HB := n3_
              clear n0_ n1_ n2_ n3_
              have p117 : 0 ≤ (1 : Int) := (by omega)
              have q117 : 1 < (l0_1.length : Int) := of_decide_eq_true (by first | (with_reducible assumption) | assumption)
              obtain ⟨ad117, e117, hx117_0⟩ := Kd.at_int HR0_1.out 1 p117 q117
              have hw117_0 := hx117_0
              (try rw [show ((1 : Int)).toNat = 1 from rfl] at hw117_0)
              (try rw [show 1 * 1 = 1 from rfl] at hw117_0)
              (try simp only [Nat.reduceMul, Nat.reduceEqDiff, Go.Addr.add, ↓reduceIte] at hw117_0)
              obtain rfl : ad115 = ad117 := (by injection e117)
              (try simp only [show (1 : Int).toNat = 1 from rfl, Nat.reduceMul, Nat.reduceEqDiff, Go.Addr.add, ↓reduceIte] at hx117_0)
              have qi117 : (1 < l0_1.length) = True := eq_true (by omega)
              (try rw [show ((1 : Int)).toNat = 1 from rfl] at hx117_0)
              replace hx117_0 := (HB.out.cell (World.block_lt_of_cell? w _ hx117_0)).trans hx117_0
              replace p117 := eq_true p117
              replace q117 := eq_true q117
              refine start_ (n := 10) (S := fun w' => w'.cell? ⟨gb116, 0, none⟩ = some (.int .i64 ji6) ∧ w'.cell? ⟨gb116, 1, none⟩ = some (.int .i64 0) ∧ w'.cell? ⟨gb116, 2, none⟩ = some (.int .i64 0) ∧ w'.cell? ⟨gb116, 3, none⟩ = some (.int .i64 0) ∧ w'.cell? ⟨gb116, 4, none⟩ = some (.int .i64 0) ∧ w'.cell? ⟨gb116, 5, none⟩ = some (.int .i64 15) ∧ w'.cell? ⟨gb116, 6, none⟩ = some (.bool false) ∧ w'.cell? ⟨gb116, 7, none⟩ = some (.bool false) ∧ w'.cell? ⟨gb113, 0, none⟩ = some (.int .i64 a0_0) ∧ w'.cell? ⟨gb113, 1, none⟩ = some (.slice (some ad115) l0_1.length c0_1) ∧ w'.cell? ⟨ad115.block, ad115.off + 1, none⟩ = some (.int .i64 (rd l0_1 1))) (ds := [9]) #[false, false, false, false, false, false, false, false, false, false] (by kernel_rfl) rfl rfl ⟨(blk_cell BK116.out 0).trans rfl, (blk_cell BK116.out 1).trans rfl, (blk_cell BK116.out 2).trans rfl, (blk_cell BK116.out 3).trans rfl, (blk_cell BK116.out 4).trans rfl, (blk_cell BK116.out 5).trans rfl, (blk_cell BK116.out 6).trans rfl, (blk_cell BK116.out 7).trans rfl, (blk_cell BK113.out 0).trans rfl, (blk_cell BK113.out 1).trans rfl, ((HB.out.cell (World.block_lt_of_cell? w _ hw117_0)).trans hw117_0)⟩ (fun hHeld => ?_); refine with_tabW effects_arithmetic.tab3 effects_arithmetic.bits3 (fun HT_ HW_ => ?_)
              generalize w21.drew = w22 at BK113 BK114 BK116 HB hx117_0 hHeld ⊢
              refine pure_ (i := 0) (N := some 15) (v := ?_) (a' := ?_) #[true, false, false, false, false, false, false, false, false, false] rfl rfl (any_of HT_.out (by kernel_rfl)) (fun _ _ _ h => h) (Or.inl ⟨by rfl, ?_⟩) ?_ ?_
              rotate_left
              · intro w'
                go_simp
                with_reducible rfl
              rotate_left
              · simp only [Act.put, List.setIfInBounds_toArray, List.set_cons_zero, List.set_cons_succ, i64_w, i32_w]
                rfl
              refine pure_ (i := 2) (N := some 17) (v := ?_) (a' := ?_) #[true, false, true, false, false, false, false, false, false, false] rfl rfl (any_of HT_.out (by kernel_rfl)) (fun _ _ _ h => h) (Or.inl ⟨by rfl, ?_⟩) ?_ ?_
              rotate_left
              · intro w'
                go_simp
                with_reducible rfl
              rotate_left
              · simp only [Act.put, List.setIfInBounds_toArray, List.set_cons_zero, List.set_cons_succ, i64_w, i32_w]
                rfl
              refine take_ (i := 1) (N := some 16) (v := ?_) (a' := ?_) #[true, true, true, false, false, false, false, false, false, false] rfl rfl (take_ofW HT_.out HW_.out (by kernel_rfl)) (fun _ _ _ h => h) (Or.inl ⟨by rfl, ?_⟩) hHeld ?_ ?_
              rotate_left
              · rintro w' ⟨s0, s1, s2, s3, s4, s5, s6, s7, s8, s9, s10⟩
                go_simp
                with_reducible rfl
              rotate_left
              · simp only [Act.put, List.setIfInBounds_toArray, List.set_cons_zero, List.set_cons_succ, i64_w, i32_w]
                rfl
              refine take_ (i := 3) (N := some 18) (v := ?_) (a' := ?_) #[true, true, true, true, false, false, false, false, false, false] rfl rfl (take_ofW HT_.out HW_.out (by kernel_rfl)) (fun _ _ _ h => h) (Or.inl ⟨by rfl, ?_⟩) hHeld ?_ ?_
              rotate_left
              · rintro w' ⟨s0, s1, s2, s3, s4, s5, s6, s7, s8, s9, s10⟩
                go_simp
                with_reducible rfl
              rotate_left
              · simp only [Act.put, List.setIfInBounds_toArray, List.set_cons_zero, List.set_cons_succ, i64_w, i32_w]
                rfl
              refine pure_ (i := 4) (N := some 19) (v := ?_) (a' := ?_) #[true, true, true, true, true, false, false, false, false, false] rfl rfl (any_of HT_.out (by kernel_rfl)) (fun _ _ _ h => h) (Or.inl ⟨by rfl, ?_⟩) ?_ ?_
              rotate_left
              · intro w'
                go_simp
                with_reducible rfl
              rotate_left
              · simp only [Act.put, List.setIfInBounds_toArray, List.set_cons_zero, List.set_cons_succ, i64_w, i32_w]
                rfl
              refine take_ (i := 5) (N := some 20) (v := ?_) (a' := ?_) #[true, true, true, true, true, true, false, false, false, false] rfl rfl (take_ofW HT_.out HW_.out (by kernel_rfl)) (fun _ _ _ h => h) (Or.inl ⟨by rfl, ?_⟩) hHeld ?_ ?_
              rotate_left
              · rintro w' ⟨s0, s1, s2, s3, s4, s5, s6, s7, s8, s9, s10⟩
                go_simp
                with_reducible rfl
              rotate_left
              · simp only [Act.put, List.setIfInBounds_toArray, List.set_cons_zero, List.set_cons_succ, i64_w, i32_w]
                rfl
              refine pure_ (i := 6) (N := some 21) (v := ?_) (a' := ?_) #[true, true, true, true, true, true, true, false, false, false] rfl rfl (any_of HT_.out (by kernel_rfl)) (fun _ _ _ h => h) (Or.inl ⟨by rfl, ?_⟩) ?_ ?_
              rotate_left
              · intro w'
                go_simp
                with_reducible rfl
              rotate_left
              · simp only [Act.put, List.setIfInBounds_toArray, List.set_cons_zero, List.set_cons_succ, i64_w, i32_w]
                rfl
              refine pure_ (i := 7) (N := some 22) (v := ?_) (a' := ?_) #[true, true, true, true, true, true, true, true, false, false] rfl rfl (any_of HT_.out (by kernel_rfl)) (fun _ _ _ h => h) (Or.inl ⟨by rfl, ?_⟩) ?_ ?_
              rotate_left
              · intro w'
                go_simp
                with_reducible rfl
              rotate_left
              · simp only [Act.put, List.setIfInBounds_toArray, List.set_cons_zero, List.set_cons_succ, i64_w, i32_w]
                rfl
              refine pure_ (i := 8) (N := some 23) (v := ?_) (a' := ?_) #[true, true, true, true, true, true, true, true, true, false] rfl rfl (any_of HT_.out (by kernel_rfl)) (fun _ _ _ h => h) (Or.inl ⟨by rfl, ?_⟩) ?_ ?_
              rotate_left
              · intro w'
                go_simp
                with_reducible rfl
              rotate_left
              · simp only [Act.put, List.setIfInBounds_toArray, List.set_cons_zero, List.set_cons_succ, i64_w, i32_w]
                rfl
              refine last_ (i := 9) (N := none) #[true, true, true, true, true, true, true, true, true, true] rfl rfl (one_of HT_.out (by kernel_rfl)) (by decide) (fun K hK => ?_)
              have hs23 : w22.cell? ⟨gb116, 0, none⟩ = some (.int .i64 ji6) := (blk_cell BK116.out 0).trans rfl
              have hfs23 := blk_frozen BK116.out 0
              have hns23_0 := NB113_116.out
              have hns23_1 := NB114_116.out
              have hms23_0 := NB116_113.out
              have hms23_1 := NB116_114.out
              refine skip_ (w1 := ?_) (by rfl) rfl ?_ ?_
              rotate_left
              · go_simp
                rfl
              refine hK.out _ _ ?_
              clear hK K
              refine done_ (done_of HT_.out (by kernel_rfl)) ?_
              obtain ⟨hcz24_0, hcz24_1, hfz24_0, hfz24_1⟩ := cz2_ BK113
              have p118 : 0 ≤ (0 : Int) := (by omega)
              have q118 : 0 < (l0_1.length : Int) := of_decide_eq_true (by first | (with_reducible assumption) | assumption)
              obtain ⟨ad118, e118, hx118_0⟩ := Kd.at_int HR0_1.out 0 p118 q118
              obtain rfl : ad115 = ad118 := (by injection e118)
              have qi118 : (0 < l0_1.length) = True := eq_true (by omega)
              (try rw [show ((0 : Int)).toNat = 0 from rfl] at hx118_0)
              (try rw [Addr.add_zero'] at hx118_0)
              have hn118_0 : ad115.block ≠ gb116 := Nat.ne_of_lt (Nat.lt_of_lt_of_le (by have := World.block_lt_of_cell? _ _ hx118_0; first | rwa [add_block] at this | exact this) GW116.out)
              replace hx118_0 := (HB.out.cell (World.block_lt_of_cell? w _ hx118_0)).trans hx118_0
              replace hx118_0 := (cell_far (p := ⟨gb116, 0, none⟩) (by first | (rw [add_block]; exact hn118_0) | (show (Addr.add _ _).block ≠ _; rw [add_block]; exact hn118_0) | exact hn118_0) (.int .i64 (Go.bits .or .i64 (ji6) (ji10)))).trans hx118_0
              clear hn118_0
              replace p118 := eq_true p118
              replace q118 := eq_true q118
              obtain ⟨hcz25_0, hcz25_1, hcz25_2, hcz25_3, hcz25_4, hcz25_5, hcz25_6, hcz25_7, hfz25_0, hfz25_1, hfz25_2, hfz25_3, hfz25_4, hfz25_5, hfz25_6, hfz25_7⟩ := cz8_ BK116
              obtain ⟨hcz26_0, hcz26_1, hcz26_2, hcz26_3, hcz26_4, hcz26_5, hcz26_6, hcz26_7, hfz26_0, hfz26_1, hfz26_2, hfz26_3, hfz26_4, hfz26_5, hfz26_6, hfz26_7⟩ := cz8_ BK114
              try go_wp2
              refine bodyPost_ret (results_cell_row rfl _ _ gb114 26 #[.int .i64 (Go.bits .or .i64 (ji6) (ji10)), .int .i64 ji6, .int .i64 0, .int .i64 0, .int .i64 0, .int .i64 15, .bool false, .bool false] (0, 0) _ rfl (bk_ BK114) Try.underlying26 rfl (by kernel_rfl)) rfl ?_
              exact ⟨by first | rfl | (simp [errW_none, errW_some] <;> rfl) | (simp only [← hji6, ← hji10]; first | rfl | (simp [errW_none, errW_some] <;> rfl)) | (simp [*, errW_none, errW_some] <;> rfl), bw_ HB⟩
            · replace c11 := Bool.eq_false_iff.mpr c11
              subst c11
              have H1 : (some (Go.bits .or .i64 (ji6) (ji10), 0, 0, 0, 0, 15, false, false)) = some (r1, r2, r3, r4, r5, r6, r7, r8) := by rw [if_neg (show ¬ (false = true) by decide)] at H; exact H
              clear H
              have H := H1
              clear H1
              simp only [Option.some.injEq, Prod.mk.injEq] at H
              obtain ⟨rfl, rfl, rfl, rfl, rfl, rfl, rfl, rfl⟩ := H
              go_enter Try.func55, Try.ntmps55
              try go_wp2_with (first | ((with_reducible refine gate_dst (N := 3) rfl ?_); refine bx_ (N := 3) (cs := #[.int .i64 a0_0, .slice A0_1 l0_1.length c0_1]) (t := 24) ?_; intro gb113 hg w27 hbox hb; have BK113 := Aside0.mk hbox; have GW113 := bs_ HB hg; have GE113 := bs_ HB hg; replace HB := hs_ HB hb; clear hb hbox hg) | ((with_reducible refine gate_dst (N := 6) rfl ?_); refine bx_ (N := 6) (cs := #[.int .i64 0, .int .i64 0, .int .i64 0, .int .i64 0, .int .i64 0, .int .i64 0, .bool false, .bool false]) (t := 26) ?_; intro gb114 hg w28 hbox hb; have BK114 := Aside0.mk hbox; have GW114 := bs_ HB hg; have GE114 := bs_ HB hg; have NB113_114 := nl_ BK113 hg; have NB114_113 := ng_ BK113 hg; replace BK113 := bb_ BK113 hb; replace HB := hs_ HB hb; clear hb hbox hg; have hnb29 := NB113_114.out; have hnc29 := NB114_113.out; obtain ⟨hcz30_0, hcz30_1, hfz30_0, hfz30_1⟩ := cz2_ BK113; have p115 : 0 ≤ (0 : Int) := (by omega); have q115 : 0 < (l0_1.length : Int) := of_decide_eq_true (by first | (with_reducible assumption) | assumption); obtain ⟨ad115, e115, hx115_0⟩ := Kd.at_int HR0_1.out 0 p115 q115; cases e115; have qi115 : (0 < l0_1.length) = True := eq_true (by omega); (try rw [show ((0 : Int)).toNat = 0 from rfl] at hx115_0); (try rw [Addr.add_zero'] at hx115_0); replace hx115_0 := (HB.out.cell (World.block_lt_of_cell? w _ hx115_0)).trans hx115_0; replace p115 := eq_true p115; replace q115 := eq_true q115) | ((with_reducible refine gate_dst (N := 7) rfl ?_); refine bx_ (N := 7) (cs := #[.int .i64 0, .int .i64 0, .int .i64 0, .int .i64 0, .int .i64 0, .int .i64 0, .bool false, .bool false]) (t := 26) ?_; intro gb116 hg w31 hbox hb; have BK116 := Aside0.mk hbox; have GW116 := bs_ HB hg; have GE116 := bs_ HB hg; have NB113_116 := nl_ BK113 hg; have NB116_113 := ng_ BK113 hg; have NB114_116 := nl_ BK114 hg; have NB116_114 := ng_ BK114 hg; replace BK113 := bb_ BK113 hb; replace BK114 := bb_ BK114 hb; replace HB := hs_ HB hb; clear hb hbox hg; have hnb32 := NB116_113.out; have hnc32 := NB113_116.out; have hnb33 := NB116_114.out; have hnc33 := NB114_116.out; obtain ⟨hcz34_0, hcz34_1, hcz34_2, hcz34_3, hcz34_4, hcz34_5, hcz34_6, hcz34_7, hfz34_0, hfz34_1, hfz34_2, hfz34_3, hfz34_4, hfz34_5, hfz34_6, hfz34_7⟩ := cz8_ BK116))
              have n0_ : Aside0 (((((((((w31.setCell ⟨gb116, 0, none⟩ (.int .i64 ji6)).setCell ⟨gb116, 1, none⟩ (.int .i64 0)).setCell ⟨gb116, 2, none⟩ (.int .i64 0)).setCell ⟨gb116, 3, none⟩ (.int .i64 0)).setCell ⟨gb116, 4, none⟩ (.int .i64 0)).setCell ⟨gb116, 5, none⟩ (.int .i64 15)).setCell ⟨gb116, 6, none⟩ (.bool false)).setCell ⟨gb116, 7, none⟩ (.bool false)).heap[gb113]? = some (.cells #[.int .i64 a0_0, .slice (some ad115) l0_1.length c0_1] 24 (0, 0))) := ⟨bk_ BK113⟩
              have n1_ : Aside0 (((((((((w31.setCell ⟨gb116, 0, none⟩ (.int .i64 ji6)).setCell ⟨gb116, 1, none⟩ (.int .i64 0)).setCell ⟨gb116, 2, none⟩ (.int .i64 0)).setCell ⟨gb116, 3, none⟩ (.int .i64 0)).setCell ⟨gb116, 4, none⟩ (.int .i64 0)).setCell ⟨gb116, 5, none⟩ (.int .i64 15)).setCell ⟨gb116, 6, none⟩ (.bool false)).setCell ⟨gb116, 7, none⟩ (.bool false)).heap[gb114]? = some (.cells #[.int .i64 0, .int .i64 0, .int .i64 0, .int .i64 0, .int .i64 0, .int .i64 0, .bool false, .bool false] 26 (0, 0))) := ⟨bk_ BK114⟩
              have n2_ : Aside0 (((((((((w31.setCell ⟨gb116, 0, none⟩ (.int .i64 ji6)).setCell ⟨gb116, 1, none⟩ (.int .i64 0)).setCell ⟨gb116, 2, none⟩ (.int .i64 0)).setCell ⟨gb116, 3, none⟩ (.int .i64 0)).setCell ⟨gb116, 4, none⟩ (.int .i64 0)).setCell ⟨gb116, 5, none⟩ (.int .i64 15)).setCell ⟨gb116, 6, none⟩ (.bool false)).setCell ⟨gb116, 7, none⟩ (.bool false)).heap[gb116]? = some (.cells #[.int .i64 ji6, .int .i64 0, .int .i64 0, .int .i64 0, .int .i64 0, .int .i64 15, .bool false, .bool false] 26 (0, 0))) := ⟨bk_ BK116⟩
              have n3_ : Aside0 (Below w.heap.size w ((((((((w31.setCell ⟨gb116, 0, none⟩ (.int .i64 ji6)).setCell ⟨gb116, 1, none⟩ (.int .i64 0)).setCell ⟨gb116, 2, none⟩ (.int .i64 0)).setCell ⟨gb116, 3, none⟩ (.int .i64 0)).setCell ⟨gb116, 4, none⟩ (.int .i64 0)).setCell ⟨gb116, 5, none⟩ (.int .i64 15)).setCell ⟨gb116, 6, none⟩ (.bool false)).setCell ⟨gb116, 7, none⟩ (.bool false))) := ⟨bw_ HB⟩
              (try clear BK113)
              (try clear BK114)
              (try clear BK116)
              (try clear HB)
              generalize ((((((((w31.setCell ⟨gb116, 0, none⟩ (.int .i64 ji6)).setCell ⟨gb116, 1, none⟩ (.int .i64 0)).setCell ⟨gb116, 2, none⟩ (.int .i64 0)).setCell ⟨gb116, 3, none⟩ (.int .i64 0)).setCell ⟨gb116, 4, none⟩ (.int .i64 0)).setCell ⟨gb116, 5, none⟩ (.int .i64 15)).setCell ⟨gb116, 6, none⟩ (.bool false)).setCell ⟨gb116, 7, none⟩ (.bool false)) = w35 at n0_ n1_ n2_ n3_ ⊢
              have BK113 := n0_
              have BK114 := n1_
              have BK116 := n2_
              have HB := n3_
              clear n0_ n1_ n2_ n3_
              have n0_ := Aside0.mk (blk_drew BK113.out)
              have n1_ := Aside0.mk (blk_drew BK114.out)
              have n2_ := Aside0.mk (blk_drew BK116.out)
              have n3_ := Aside0.mk (below_drew1 HB.out)
              clear BK113
              clear BK114
              clear BK116
              clear HB
              have BK113 := n0_
              have BK114 := n1_
              have BK116 := n2_
              have HB := n3_
              clear n0_ n1_ n2_ n3_
              have p117 : 0 ≤ (1 : Int) := (by omega)
              have q117 : 1 < (l0_1.length : Int) := of_decide_eq_true (by first | (with_reducible assumption) | assumption)
              obtain ⟨ad117, e117, hx117_0⟩ := Kd.at_int HR0_1.out 1 p117 q117
              have hw117_0 := hx117_0
              (try rw [show ((1 : Int)).toNat = 1 from rfl] at hw117_0)
              (try rw [show 1 * 1 = 1 from rfl] at hw117_0)
              (try simp only [Nat.reduceMul, Nat.reduceEqDiff, Go.Addr.add, ↓reduceIte] at hw117_0)
              obtain rfl : ad115 = ad117 := (by injection e117)
              (try simp only [show (1 : Int).toNat = 1 from rfl, Nat.reduceMul, Nat.reduceEqDiff, Go.Addr.add, ↓reduceIte] at hx117_0)
              have qi117 : (1 < l0_1.length) = True := eq_true (by omega)
              (try rw [show ((1 : Int)).toNat = 1 from rfl] at hx117_0)
              replace hx117_0 := (HB.out.cell (World.block_lt_of_cell? w _ hx117_0)).trans hx117_0
              replace p117 := eq_true p117
              replace q117 := eq_true q117
              refine start_ (n := 10) (S := fun w' => w'.cell? ⟨gb116, 0, none⟩ = some (.int .i64 ji6) ∧ w'.cell? ⟨gb116, 1, none⟩ = some (.int .i64 0) ∧ w'.cell? ⟨gb116, 2, none⟩ = some (.int .i64 0) ∧ w'.cell? ⟨gb116, 3, none⟩ = some (.int .i64 0) ∧ w'.cell? ⟨gb116, 4, none⟩ = some (.int .i64 0) ∧ w'.cell? ⟨gb116, 5, none⟩ = some (.int .i64 15) ∧ w'.cell? ⟨gb116, 6, none⟩ = some (.bool false) ∧ w'.cell? ⟨gb116, 7, none⟩ = some (.bool false) ∧ w'.cell? ⟨gb113, 0, none⟩ = some (.int .i64 a0_0) ∧ w'.cell? ⟨gb113, 1, none⟩ = some (.slice (some ad115) l0_1.length c0_1) ∧ w'.cell? ⟨ad115.block, ad115.off + 1, none⟩ = some (.int .i64 (rd l0_1 1))) (ds := [9]) #[false, false, false, false, false, false, false, false, false, false] (by kernel_rfl) rfl rfl ⟨(blk_cell BK116.out 0).trans rfl, (blk_cell BK116.out 1).trans rfl, (blk_cell BK116.out 2).trans rfl, (blk_cell BK116.out 3).trans rfl, (blk_cell BK116.out 4).trans rfl, (blk_cell BK116.out 5).trans rfl, (blk_cell BK116.out 6).trans rfl, (blk_cell BK116.out 7).trans rfl, (blk_cell BK113.out 0).trans rfl, (blk_cell BK113.out 1).trans rfl, ((HB.out.cell (World.block_lt_of_cell? w _ hw117_0)).trans hw117_0)⟩ (fun hHeld => ?_); refine with_tabW effects_arithmetic.tab3 effects_arithmetic.bits3 (fun HT_ HW_ => ?_)
              generalize w35.drew = w36 at BK113 BK114 BK116 HB hx117_0 hHeld ⊢
              refine pure_ (i := 0) (N := some 15) (v := ?_) (a' := ?_) #[true, false, false, false, false, false, false, false, false, false] rfl rfl (any_of HT_.out (by kernel_rfl)) (fun _ _ _ h => h) (Or.inl ⟨by rfl, ?_⟩) ?_ ?_
              rotate_left
              · intro w'
                go_simp
                with_reducible rfl
              rotate_left
              · simp only [Act.put, List.setIfInBounds_toArray, List.set_cons_zero, List.set_cons_succ, i64_w, i32_w]
                rfl
              refine pure_ (i := 2) (N := some 17) (v := ?_) (a' := ?_) #[true, false, true, false, false, false, false, false, false, false] rfl rfl (any_of HT_.out (by kernel_rfl)) (fun _ _ _ h => h) (Or.inl ⟨by rfl, ?_⟩) ?_ ?_
              rotate_left
              · intro w'
                go_simp
                with_reducible rfl
              rotate_left
              · simp only [Act.put, List.setIfInBounds_toArray, List.set_cons_zero, List.set_cons_succ, i64_w, i32_w]
                rfl
              refine take_ (i := 1) (N := some 16) (v := ?_) (a' := ?_) #[true, true, true, false, false, false, false, false, false, false] rfl rfl (take_ofW HT_.out HW_.out (by kernel_rfl)) (fun _ _ _ h => h) (Or.inl ⟨by rfl, ?_⟩) hHeld ?_ ?_
              rotate_left
              · rintro w' ⟨s0, s1, s2, s3, s4, s5, s6, s7, s8, s9, s10⟩
                go_simp
                with_reducible rfl
              rotate_left
              · simp only [Act.put, List.setIfInBounds_toArray, List.set_cons_zero, List.set_cons_succ, i64_w, i32_w]
                rfl
              refine take_ (i := 3) (N := some 18) (v := ?_) (a' := ?_) #[true, true, true, true, false, false, false, false, false, false] rfl rfl (take_ofW HT_.out HW_.out (by kernel_rfl)) (fun _ _ _ h => h) (Or.inl ⟨by rfl, ?_⟩) hHeld ?_ ?_
              rotate_left
              · rintro w' ⟨s0, s1, s2, s3, s4, s5, s6, s7, s8, s9, s10⟩
                go_simp
                with_reducible rfl
              rotate_left
              · simp only [Act.put, List.setIfInBounds_toArray, List.set_cons_zero, List.set_cons_succ, i64_w, i32_w]
                rfl
              refine pure_ (i := 4) (N := some 19) (v := ?_) (a' := ?_) #[true, true, true, true, true, false, false, false, false, false] rfl rfl (any_of HT_.out (by kernel_rfl)) (fun _ _ _ h => h) (Or.inl ⟨by rfl, ?_⟩) ?_ ?_
              rotate_left
              · intro w'
                go_simp
                with_reducible rfl
              rotate_left
              · simp only [Act.put, List.setIfInBounds_toArray, List.set_cons_zero, List.set_cons_succ, i64_w, i32_w]
                rfl
              refine take_ (i := 5) (N := some 20) (v := ?_) (a' := ?_) #[true, true, true, true, true, true, false, false, false, false] rfl rfl (take_ofW HT_.out HW_.out (by kernel_rfl)) (fun _ _ _ h => h) (Or.inl ⟨by rfl, ?_⟩) hHeld ?_ ?_
              rotate_left
              · rintro w' ⟨s0, s1, s2, s3, s4, s5, s6, s7, s8, s9, s10⟩
                go_simp
                with_reducible rfl
              rotate_left
              · simp only [Act.put, List.setIfInBounds_toArray, List.set_cons_zero, List.set_cons_succ, i64_w, i32_w]
                rfl
              refine pure_ (i := 6) (N := some 21) (v := ?_) (a' := ?_) #[true, true, true, true, true, true, true, false, false, false] rfl rfl (any_of HT_.out (by kernel_rfl)) (fun _ _ _ h => h) (Or.inl ⟨by rfl, ?_⟩) ?_ ?_
              rotate_left
              · intro w'
                go_simp
                with_reducible rfl
              rotate_left
              · simp only [Act.put, List.setIfInBounds_toArray, List.set_cons_zero, List.set_cons_succ, i64_w, i32_w]
                rfl
              refine pure_ (i := 7) (N := some 22) (v := ?_) (a' := ?_) #[true, true, true, true, true, true, true, true, false, false] rfl rfl (any_of HT_.out (by kernel_rfl)) (fun _ _ _ h => h) (Or.inl ⟨by rfl, ?_⟩) ?_ ?_
              rotate_left
              · intro w'
                go_simp
                with_reducible rfl
              rotate_left
              · simp only [Act.put, List.setIfInBounds_toArray, List.set_cons_zero, List.set_cons_succ, i64_w, i32_w]
                rfl
              refine pure_ (i := 8) (N := some 23) (v := ?_) (a' := ?_) #[true, true, true, true, true, true, true, true, true, false] rfl rfl (any_of HT_.out (by kernel_rfl)) (fun _ _ _ h => h) (Or.inl ⟨by rfl, ?_⟩) ?_ ?_
              rotate_left
              · intro w'
                go_simp
                with_reducible rfl
              rotate_left
              · simp only [Act.put, List.setIfInBounds_toArray, List.set_cons_zero, List.set_cons_succ, i64_w, i32_w]
                rfl
              refine last_ (i := 9) (N := none) #[true, true, true, true, true, true, true, true, true, true] rfl rfl (one_of HT_.out (by kernel_rfl)) (by decide) (fun K hK => ?_)
              have hs37 : w36.cell? ⟨gb116, 0, none⟩ = some (.int .i64 ji6) := (blk_cell BK116.out 0).trans rfl
              have hfs37 := blk_frozen BK116.out 0
              have hns37_0 := NB113_116.out
              have hns37_1 := NB114_116.out
              have hms37_0 := NB116_113.out
              have hms37_1 := NB116_114.out
              refine skip_ (w1 := ?_) (by rfl) rfl ?_ ?_
              rotate_left
              · go_simp
                rfl
              refine hK.out _ _ ?_
              clear hK K
              refine done_ (done_of HT_.out (by kernel_rfl)) ?_
              obtain ⟨hcz38_0, hcz38_1, hcz38_2, hcz38_3, hcz38_4, hcz38_5, hcz38_6, hcz38_7, hfz38_0, hfz38_1, hfz38_2, hfz38_3, hfz38_4, hfz38_5, hfz38_6, hfz38_7⟩ := cz8_ BK116
              obtain ⟨hcz39_0, hcz39_1, hcz39_2, hcz39_3, hcz39_4, hcz39_5, hcz39_6, hcz39_7, hfz39_0, hfz39_1, hfz39_2, hfz39_3, hfz39_4, hfz39_5, hfz39_6, hfz39_7⟩ := cz8_ BK114
              try go_wp2
              refine bodyPost_ret (results_cell_row rfl _ _ gb114 26 #[.int .i64 (Go.bits .or .i64 (ji6) (ji10)), .int .i64 0, .int .i64 0, .int .i64 0, .int .i64 0, .int .i64 15, .bool false, .bool false] (0, 0) _ rfl (bk_ BK114) Try.underlying26 rfl (by kernel_rfl)) rfl ?_
              exact ⟨by first | rfl | (simp [errW_none, errW_some] <;> rfl) | (simp only [← hji6, ← hji10]; first | rfl | (simp [errW_none, errW_some] <;> rfl)) | (simp [*, errW_none, errW_some] <;> rfl), bw_ HB⟩
          · rw [if_neg c9] at H
            exact absurd H (by simp)
        · rw [if_neg c8] at H
          exact absurd H (by simp)
      · replace c7 := Bool.eq_false_iff.mpr c7
        subst c7
        have H1 : (if a1 = true then (some (ji6, ji6, 0, 0, 0, 15, false, false)) else (some (ji6, 0, 0, 0, 0, 15, false, false))) = some (r1, r2, r3, r4, r5, r6, r7, r8) := by rw [if_neg (show ¬ (false = true) by decide)] at H; exact H
        clear H
        have H := H1
        clear H1
        by_cases c40 : a1 = true
        · subst c40
          have H1 : (some (ji6, ji6, 0, 0, 0, 15, false, false)) = some (r1, r2, r3, r4, r5, r6, r7, r8) := by rw [if_pos rfl] at H; exact H
          clear H
          have H := H1
          clear H1
          have c41b0 := eq_true (of_decide_eq_true (by first | (with_reducible assumption) | assumption) : 0 ≤ (rd l0_1 0))
          simp only [Option.some.injEq, Prod.mk.injEq] at H
          obtain ⟨rfl, rfl, rfl, rfl, rfl, rfl, rfl, rfl⟩ := H
          go_enter Try.func55, Try.ntmps55
          go_upto_region 5 with (first | ((with_reducible refine gate_dst (N := 3) rfl ?_); refine bx_ (N := 3) (cs := #[.int .i64 a0_0, .slice A0_1 l0_1.length c0_1]) (t := 24) ?_; intro gb113 hg w42 hbox hb; have BK113 := Aside0.mk hbox; have GW113 := bs_ HB hg; have GE113 := bs_ HB hg; replace HB := hs_ HB hb; clear hb hbox hg) | ((with_reducible refine gate_dst (N := 6) rfl ?_); refine bx_ (N := 6) (cs := #[.int .i64 0, .int .i64 0, .int .i64 0, .int .i64 0, .int .i64 0, .int .i64 0, .bool false, .bool false]) (t := 26) ?_; intro gb114 hg w43 hbox hb; have BK114 := Aside0.mk hbox; have GW114 := bs_ HB hg; have GE114 := bs_ HB hg; have NB113_114 := nl_ BK113 hg; have NB114_113 := ng_ BK113 hg; replace BK113 := bb_ BK113 hb; replace HB := hs_ HB hb; clear hb hbox hg; have hnb44 := NB113_114.out; have hnc44 := NB114_113.out; obtain ⟨hcz45_0, hcz45_1, hfz45_0, hfz45_1⟩ := cz2_ BK113; have p115 : 0 ≤ (0 : Int) := (by omega); have q115 : 0 < (l0_1.length : Int) := of_decide_eq_true (by first | (with_reducible assumption) | assumption); obtain ⟨ad115, e115, hx115_0⟩ := Kd.at_int HR0_1.out 0 p115 q115; cases e115; have qi115 : (0 < l0_1.length) = True := eq_true (by omega); (try rw [show ((0 : Int)).toNat = 0 from rfl] at hx115_0); (try rw [Addr.add_zero'] at hx115_0); replace hx115_0 := (HB.out.cell (World.block_lt_of_cell? w _ hx115_0)).trans hx115_0; replace p115 := eq_true p115; replace q115 := eq_true q115) | ((with_reducible refine gate_dst (N := 7) rfl ?_); refine bx_ (N := 7) (cs := #[.int .i64 0, .int .i64 0, .int .i64 0, .int .i64 0, .int .i64 0, .int .i64 0, .bool false, .bool false]) (t := 26) ?_; intro gb116 hg w46 hbox hb; have BK116 := Aside0.mk hbox; have GW116 := bs_ HB hg; have GE116 := bs_ HB hg; have NB113_116 := nl_ BK113 hg; have NB116_113 := ng_ BK113 hg; have NB114_116 := nl_ BK114 hg; have NB116_114 := ng_ BK114 hg; replace BK113 := bb_ BK113 hb; replace BK114 := bb_ BK114 hb; replace HB := hs_ HB hb; clear hb hbox hg; have hnb47 := NB116_113.out; have hnc47 := NB113_116.out; have hnb48 := NB116_114.out; have hnc48 := NB114_116.out; obtain ⟨hcz49_0, hcz49_1, hcz49_2, hcz49_3, hcz49_4, hcz49_5, hcz49_6, hcz49_7, hfz49_0, hfz49_1, hfz49_2, hfz49_3, hfz49_4, hfz49_5, hfz49_6, hfz49_7⟩ := cz8_ BK116; obtain ⟨hcz50_0, hcz50_1, hfz50_0, hfz50_1⟩ := cz2_ BK113; have p119 : 0 ≤ (0 : Int) := (by omega); have q119 : 0 < (l0_1.length : Int) := of_decide_eq_true (by first | (with_reducible assumption) | assumption); obtain ⟨ad119, e119, hx119_0⟩ := Kd.at_int HR0_1.out 0 p119 q119; obtain rfl : ad115 = ad119 := (by injection e119); have qi119 : (0 < l0_1.length) = True := eq_true (by omega); (try rw [show ((0 : Int)).toNat = 0 from rfl] at hx119_0); (try rw [Addr.add_zero'] at hx119_0); have hn119_0 : ad115.block ≠ gb116 := Nat.ne_of_lt (Nat.lt_of_lt_of_le (by have := World.block_lt_of_cell? _ _ hx119_0; first | rwa [add_block] at this | exact this) GW116.out); have hn119_1 : ad115.block ≠ gb116 := Nat.ne_of_lt (Nat.lt_of_lt_of_le (by have := World.block_lt_of_cell? _ _ hx119_0; first | rwa [add_block] at this | exact this) GW116.out); have hn119_2 : ad115.block ≠ gb116 := Nat.ne_of_lt (Nat.lt_of_lt_of_le (by have := World.block_lt_of_cell? _ _ hx119_0; first | rwa [add_block] at this | exact this) GW116.out); have hn119_3 : ad115.block ≠ gb116 := Nat.ne_of_lt (Nat.lt_of_lt_of_le (by have := World.block_lt_of_cell? _ _ hx119_0; first | rwa [add_block] at this | exact this) GW116.out); have hn119_4 : ad115.block ≠ gb116 := Nat.ne_of_lt (Nat.lt_of_lt_of_le (by have := World.block_lt_of_cell? _ _ hx119_0; first | rwa [add_block] at this | exact this) GW116.out); have hn119_5 : ad115.block ≠ gb116 := Nat.ne_of_lt (Nat.lt_of_lt_of_le (by have := World.block_lt_of_cell? _ _ hx119_0; first | rwa [add_block] at this | exact this) GW116.out); have hn119_6 : ad115.block ≠ gb116 := Nat.ne_of_lt (Nat.lt_of_lt_of_le (by have := World.block_lt_of_cell? _ _ hx119_0; first | rwa [add_block] at this | exact this) GW116.out); have hn119_7 : ad115.block ≠ gb116 := Nat.ne_of_lt (Nat.lt_of_lt_of_le (by have := World.block_lt_of_cell? _ _ hx119_0; first | rwa [add_block] at this | exact this) GW116.out); replace hx119_0 := (HB.out.cell (World.block_lt_of_cell? w _ hx119_0)).trans hx119_0; replace hx119_0 := (cell_far (p := ⟨gb116, 0, none⟩) (by first | (rw [add_block]; exact hn119_0) | (show (Addr.add _ _).block ≠ _; rw [add_block]; exact hn119_0) | exact hn119_0) (.int .i64 ji6)).trans hx119_0; replace hx119_0 := (cell_far (p := ⟨gb116, 1, none⟩) (by first | (rw [add_block]; exact hn119_1) | (show (Addr.add _ _).block ≠ _; rw [add_block]; exact hn119_1) | exact hn119_1) (.int .i64 0)).trans hx119_0; replace hx119_0 := (cell_far (p := ⟨gb116, 2, none⟩) (by first | (rw [add_block]; exact hn119_2) | (show (Addr.add _ _).block ≠ _; rw [add_block]; exact hn119_2) | exact hn119_2) (.int .i64 0)).trans hx119_0; replace hx119_0 := (cell_far (p := ⟨gb116, 3, none⟩) (by first | (rw [add_block]; exact hn119_3) | (show (Addr.add _ _).block ≠ _; rw [add_block]; exact hn119_3) | exact hn119_3) (.int .i64 0)).trans hx119_0; replace hx119_0 := (cell_far (p := ⟨gb116, 4, none⟩) (by first | (rw [add_block]; exact hn119_4) | (show (Addr.add _ _).block ≠ _; rw [add_block]; exact hn119_4) | exact hn119_4) (.int .i64 0)).trans hx119_0; replace hx119_0 := (cell_far (p := ⟨gb116, 5, none⟩) (by first | (rw [add_block]; exact hn119_5) | (show (Addr.add _ _).block ≠ _; rw [add_block]; exact hn119_5) | exact hn119_5) (.int .i64 15)).trans hx119_0; replace hx119_0 := (cell_far (p := ⟨gb116, 6, none⟩) (by first | (rw [add_block]; exact hn119_6) | (show (Addr.add _ _).block ≠ _; rw [add_block]; exact hn119_6) | exact hn119_6) (.bool false)).trans hx119_0; replace hx119_0 := (cell_far (p := ⟨gb116, 7, none⟩) (by first | (rw [add_block]; exact hn119_7) | (show (Addr.add _ _).block ≠ _; rw [add_block]; exact hn119_7) | exact hn119_7) (.bool false)).trans hx119_0; clear hn119_0; clear hn119_1; clear hn119_2; clear hn119_3; clear hn119_4; clear hn119_5; clear hn119_6; clear hn119_7; replace p119 := eq_true p119; replace q119 := eq_true q119; obtain ⟨hcz51_0, hcz51_1, hcz51_2, hcz51_3, hcz51_4, hcz51_5, hcz51_6, hcz51_7, hfz51_0, hfz51_1, hfz51_2, hfz51_3, hfz51_4, hfz51_5, hfz51_6, hfz51_7⟩ := cz8_ BK114))
          have n0_ : Aside0 (((((((((w46.setCell ⟨gb116, 0, none⟩ (.int .i64 ji6)).setCell ⟨gb116, 1, none⟩ (.int .i64 0)).setCell ⟨gb116, 2, none⟩ (.int .i64 0)).setCell ⟨gb116, 3, none⟩ (.int .i64 0)).setCell ⟨gb116, 4, none⟩ (.int .i64 0)).setCell ⟨gb116, 5, none⟩ (.int .i64 15)).setCell ⟨gb116, 6, none⟩ (.bool false)).setCell ⟨gb116, 7, none⟩ (.bool false)).heap[gb113]? = some (.cells #[.int .i64 a0_0, .slice (some ad115) l0_1.length c0_1] 24 (0, 0))) := ⟨by refine blk_far ?_ NB113_116.out _; refine blk_far ?_ NB113_116.out _; refine blk_far ?_ NB113_116.out _; refine blk_far ?_ NB113_116.out _; refine blk_far ?_ NB113_116.out _; refine blk_far ?_ NB113_116.out _; refine blk_far ?_ NB113_116.out _; refine blk_far ?_ NB113_116.out _; exact BK113.out⟩
          have n1_ : Aside0 (((((((((w46.setCell ⟨gb116, 0, none⟩ (.int .i64 ji6)).setCell ⟨gb116, 1, none⟩ (.int .i64 0)).setCell ⟨gb116, 2, none⟩ (.int .i64 0)).setCell ⟨gb116, 3, none⟩ (.int .i64 0)).setCell ⟨gb116, 4, none⟩ (.int .i64 0)).setCell ⟨gb116, 5, none⟩ (.int .i64 15)).setCell ⟨gb116, 6, none⟩ (.bool false)).setCell ⟨gb116, 7, none⟩ (.bool false)).heap[gb114]? = some (.cells #[.int .i64 0, .int .i64 0, .int .i64 0, .int .i64 0, .int .i64 0, .int .i64 0, .bool false, .bool false] 26 (0, 0))) := ⟨by refine blk_far ?_ NB114_116.out _; refine blk_far ?_ NB114_116.out _; refine blk_far ?_ NB114_116.out _; refine blk_far ?_ NB114_116.out _; refine blk_far ?_ NB114_116.out _; refine blk_far ?_ NB114_116.out _; refine blk_far ?_ NB114_116.out _; refine blk_far ?_ NB114_116.out _; exact BK114.out⟩
          have n2_ : Aside0 (((((((((w46.setCell ⟨gb116, 0, none⟩ (.int .i64 ji6)).setCell ⟨gb116, 1, none⟩ (.int .i64 0)).setCell ⟨gb116, 2, none⟩ (.int .i64 0)).setCell ⟨gb116, 3, none⟩ (.int .i64 0)).setCell ⟨gb116, 4, none⟩ (.int .i64 0)).setCell ⟨gb116, 5, none⟩ (.int .i64 15)).setCell ⟨gb116, 6, none⟩ (.bool false)).setCell ⟨gb116, 7, none⟩ (.bool false)).heap[gb116]? = some (.cells #[.int .i64 ji6, .int .i64 0, .int .i64 0, .int .i64 0, .int .i64 0, .int .i64 15, .bool false, .bool false] 26 (0, 0))) := ⟨Mine.blk_all8 (.int .i64 0) (.int .i64 0) (.int .i64 0) (.int .i64 0) (.int .i64 0) (.int .i64 0) (.bool false) (.bool false) BK116.out _ _ _ _ _ _ _ _⟩
          have n3_ : Aside0 (Below w.heap.size w ((((((((w46.setCell ⟨gb116, 0, none⟩ (.int .i64 ji6)).setCell ⟨gb116, 1, none⟩ (.int .i64 0)).setCell ⟨gb116, 2, none⟩ (.int .i64 0)).setCell ⟨gb116, 3, none⟩ (.int .i64 0)).setCell ⟨gb116, 4, none⟩ (.int .i64 0)).setCell ⟨gb116, 5, none⟩ (.int .i64 15)).setCell ⟨gb116, 6, none⟩ (.bool false)).setCell ⟨gb116, 7, none⟩ (.bool false))) := ⟨below_set (below_set (below_set (below_set (below_set (below_set (below_set (below_set (HB.out) GE116.out) GE116.out) GE116.out) GE116.out) GE116.out) GE116.out) GE116.out) GE116.out⟩
          clear BK113 BK114 BK116 HB
          generalize ((((((((w46.setCell ⟨gb116, 0, none⟩ (.int .i64 ji6)).setCell ⟨gb116, 1, none⟩ (.int .i64 0)).setCell ⟨gb116, 2, none⟩ (.int .i64 0)).setCell ⟨gb116, 3, none⟩ (.int .i64 0)).setCell ⟨gb116, 4, none⟩ (.int .i64 0)).setCell ⟨gb116, 5, none⟩ (.int .i64 15)).setCell ⟨gb116, 6, none⟩ (.bool false)).setCell ⟨gb116, 7, none⟩ (.bool false)) = w99 at n0_ n1_ n2_ n3_ hx119_0 ⊢
          have BK113 := n0_
          have BK114 := n1_
          have BK116 := n2_
          have HB := n3_
          clear n0_ n1_ n2_ n3_
          have hy113_0 : w99.cell? ⟨gb113, 0, none⟩ = some (.int .i64 a0_0) := (blk_cell BK113.out 0).trans rfl
          have hz113_0 := blk_frozen BK113.out 0
          have hy113_1 : w99.cell? ⟨gb113, 1, none⟩ = some (.slice (some ad115) l0_1.length c0_1) := (blk_cell BK113.out 1).trans rfl
          have hz113_1 := blk_frozen BK113.out 1
          have hy114_0 : w99.cell? ⟨gb114, 0, none⟩ = some (.int .i64 0) := (blk_cell BK114.out 0).trans rfl
          have hz114_0 := blk_frozen BK114.out 0
          have hy114_1 : w99.cell? ⟨gb114, 1, none⟩ = some (.int .i64 0) := (blk_cell BK114.out 1).trans rfl
          have hz114_1 := blk_frozen BK114.out 1
          have hy114_2 : w99.cell? ⟨gb114, 2, none⟩ = some (.int .i64 0) := (blk_cell BK114.out 2).trans rfl
          have hz114_2 := blk_frozen BK114.out 2
          have hy114_3 : w99.cell? ⟨gb114, 3, none⟩ = some (.int .i64 0) := (blk_cell BK114.out 3).trans rfl
          have hz114_3 := blk_frozen BK114.out 3
          have hy114_4 : w99.cell? ⟨gb114, 4, none⟩ = some (.int .i64 0) := (blk_cell BK114.out 4).trans rfl
          have hz114_4 := blk_frozen BK114.out 4
          have hy114_5 : w99.cell? ⟨gb114, 5, none⟩ = some (.int .i64 0) := (blk_cell BK114.out 5).trans rfl
          have hz114_5 := blk_frozen BK114.out 5
          have hy114_6 : w99.cell? ⟨gb114, 6, none⟩ = some (.bool false) := (blk_cell BK114.out 6).trans rfl
          have hz114_6 := blk_frozen BK114.out 6
          have hy114_7 : w99.cell? ⟨gb114, 7, none⟩ = some (.bool false) := (blk_cell BK114.out 7).trans rfl
          have hz114_7 := blk_frozen BK114.out 7
          have hy116_0 : w99.cell? ⟨gb116, 0, none⟩ = some (.int .i64 ji6) := (blk_cell BK116.out 0).trans rfl
          have hz116_0 := blk_frozen BK116.out 0
          have hy116_1 : w99.cell? ⟨gb116, 1, none⟩ = some (.int .i64 0) := (blk_cell BK116.out 1).trans rfl
          have hz116_1 := blk_frozen BK116.out 1
          have hy116_2 : w99.cell? ⟨gb116, 2, none⟩ = some (.int .i64 0) := (blk_cell BK116.out 2).trans rfl
          have hz116_2 := blk_frozen BK116.out 2
          have hy116_3 : w99.cell? ⟨gb116, 3, none⟩ = some (.int .i64 0) := (blk_cell BK116.out 3).trans rfl
          have hz116_3 := blk_frozen BK116.out 3
          have hy116_4 : w99.cell? ⟨gb116, 4, none⟩ = some (.int .i64 0) := (blk_cell BK116.out 4).trans rfl
          have hz116_4 := blk_frozen BK116.out 4
          have hy116_5 : w99.cell? ⟨gb116, 5, none⟩ = some (.int .i64 15) := (blk_cell BK116.out 5).trans rfl
          have hz116_5 := blk_frozen BK116.out 5
          have hy116_6 : w99.cell? ⟨gb116, 6, none⟩ = some (.bool false) := (blk_cell BK116.out 6).trans rfl
          have hz116_6 := blk_frozen BK116.out 6
          have hy116_7 : w99.cell? ⟨gb116, 7, none⟩ = some (.bool false) := (blk_cell BK116.out 7).trans rfl
          have hz116_7 := blk_frozen BK116.out 7
          go_wp2
          refine bodyPost_ret (results_cell_row rfl _ _ gb114 26 #[.int .i64 ji6, .int .i64 ji6, .int .i64 0, .int .i64 0, .int .i64 0, .int .i64 15, .bool false, .bool false] (0, 0) _ rfl (by refine Mine.blk_all8 (.int .i64 0) (.int .i64 0) (.int .i64 0) (.int .i64 0) (.int .i64 0) (.int .i64 0) (.bool false) (.bool false) ?_ _ _ _ _ _ _ _ _; refine blk_far ?_ NB114_116.out _; exact BK114.out) Try.underlying26 rfl (by kernel_rfl)) rfl ?_
          exact ⟨by first | rfl | (simp [errW_none, errW_some] <;> rfl) | (simp only [← hji6]; first | rfl | (simp [errW_none, errW_some] <;> rfl)) | (simp [*, errW_none, errW_some] <;> rfl), bw_ HB⟩
        · replace c40 := Bool.eq_false_iff.mpr c40
          subst c40
          have H1 : (some (ji6, 0, 0, 0, 0, 15, false, false)) = some (r1, r2, r3, r4, r5, r6, r7, r8) := by rw [if_neg (show ¬ (false = true) by decide)] at H; exact H
          clear H
          have H := H1
          clear H1
          simp only [Option.some.injEq, Prod.mk.injEq] at H
          obtain ⟨rfl, rfl, rfl, rfl, rfl, rfl, rfl, rfl⟩ := H
          go_enter Try.func55, Try.ntmps55
          go_wp2_with (first | ((with_reducible refine gate_dst (N := 3) rfl ?_); refine bx_ (N := 3) (cs := #[.int .i64 a0_0, .slice A0_1 l0_1.length c0_1]) (t := 24) ?_; intro gb113 hg w52 hbox hb; have BK113 := Aside0.mk hbox; have GW113 := bs_ HB hg; have GE113 := bs_ HB hg; replace HB := hs_ HB hb; clear hb hbox hg) | ((with_reducible refine gate_dst (N := 6) rfl ?_); refine bx_ (N := 6) (cs := #[.int .i64 0, .int .i64 0, .int .i64 0, .int .i64 0, .int .i64 0, .int .i64 0, .bool false, .bool false]) (t := 26) ?_; intro gb114 hg w53 hbox hb; have BK114 := Aside0.mk hbox; have GW114 := bs_ HB hg; have GE114 := bs_ HB hg; have NB113_114 := nl_ BK113 hg; have NB114_113 := ng_ BK113 hg; replace BK113 := bb_ BK113 hb; replace HB := hs_ HB hb; clear hb hbox hg; have hnb54 := NB113_114.out; have hnc54 := NB114_113.out; obtain ⟨hcz55_0, hcz55_1, hfz55_0, hfz55_1⟩ := cz2_ BK113; have p115 : 0 ≤ (0 : Int) := (by omega); have q115 : 0 < (l0_1.length : Int) := of_decide_eq_true (by first | (with_reducible assumption) | assumption); obtain ⟨ad115, e115, hx115_0⟩ := Kd.at_int HR0_1.out 0 p115 q115; cases e115; have qi115 : (0 < l0_1.length) = True := eq_true (by omega); (try rw [show ((0 : Int)).toNat = 0 from rfl] at hx115_0); (try rw [Addr.add_zero'] at hx115_0); replace hx115_0 := (HB.out.cell (World.block_lt_of_cell? w _ hx115_0)).trans hx115_0; replace p115 := eq_true p115; replace q115 := eq_true q115) | ((with_reducible refine gate_dst (N := 7) rfl ?_); refine bx_ (N := 7) (cs := #[.int .i64 0, .int .i64 0, .int .i64 0, .int .i64 0, .int .i64 0, .int .i64 0, .bool false, .bool false]) (t := 26) ?_; intro gb116 hg w56 hbox hb; have BK116 := Aside0.mk hbox; have GW116 := bs_ HB hg; have GE116 := bs_ HB hg; have NB113_116 := nl_ BK113 hg; have NB116_113 := ng_ BK113 hg; have NB114_116 := nl_ BK114 hg; have NB116_114 := ng_ BK114 hg; replace BK113 := bb_ BK113 hb; replace BK114 := bb_ BK114 hb; replace HB := hs_ HB hb; clear hb hbox hg; have hnb57 := NB116_113.out; have hnc57 := NB113_116.out; have hnb58 := NB116_114.out; have hnc58 := NB114_116.out; obtain ⟨hcz59_0, hcz59_1, hcz59_2, hcz59_3, hcz59_4, hcz59_5, hcz59_6, hcz59_7, hfz59_0, hfz59_1, hfz59_2, hfz59_3, hfz59_4, hfz59_5, hfz59_6, hfz59_7⟩ := cz8_ BK116; obtain ⟨hcz60_0, hcz60_1, hcz60_2, hcz60_3, hcz60_4, hcz60_5, hcz60_6, hcz60_7, hfz60_0, hfz60_1, hfz60_2, hfz60_3, hfz60_4, hfz60_5, hfz60_6, hfz60_7⟩ := cz8_ BK114))
          refine bodyPost_ret (results_cell_row rfl _ _ gb114 26 #[.int .i64 ji6, .int .i64 0, .int .i64 0, .int .i64 0, .int .i64 0, .int .i64 15, .bool false, .bool false] (0, 0) _ rfl (bk_ BK114) Try.underlying26 rfl (by kernel_rfl)) rfl ?_
          exact ⟨by first | rfl | (simp [errW_none, errW_some] <;> rfl) | (simp only [← hji6]; first | rfl | (simp [errW_none, errW_some] <;> rfl)) | (simp [*, errW_none, errW_some] <;> rfl), bw_ HB⟩
    · rw [if_neg c5] at H
      exact absurd H (by simp)
  · rw [if_neg c4] at H
    exact absurd H (by simp)

/-! ### effects_flags: function 56 -/
set_option maxRecDepth 100000 in
mutual
def effects_flags.j0 : Nat → Int → Bool → Option (Int)
  | 0, _, _ => none
  | k + 1, x3, x4 => if x4 = true then (some 1) else (if x3 = 33 then (effects_flags.j1 k x3 (x3 == 33)) else (effects_flags.j1 k x3 (x3 == 34)))
def effects_flags.j1 : Nat → Int → Bool → Option (Int)
  | 0, _, _ => none
  | k + 1, x3, x9 => if x9 = true then (some 10) else (if x3 = 35 then (some 4) else (if x3 = 36 then (some 4) else (some 0)))
end
set_option maxRecDepth 100000 in
def effects_flags.f (k : Nat) (a0 : Int) : Option (Int) := if a0 = 29 then (effects_flags.j0 k a0 (a0 == 29)) else (if a0 = 30 then (effects_flags.j0 k a0 (a0 == 30)) else (if a0 = 31 then (effects_flags.j0 k a0 (a0 == 31)) else (effects_flags.j0 k a0 (a0 == 32))))
set_option maxRecDepth 100000 in
theorem effects_flags.mono_l : ∀ k, (∀ y0 y1, LeO (effects_flags.j0 k y0 y1) (effects_flags.j0 (k + 1) y0 y1)) ∧ (∀ y0 y1, LeO (effects_flags.j1 k y0 y1) (effects_flags.j1 (k + 1) y0 y1))
  | 0 => ⟨fun _ _ r h => by simp [effects_flags.j0] at h, fun _ _ r h => by simp [effects_flags.j1] at h⟩
  | k + 1 => by
    obtain ⟨ih0, ih1⟩ := effects_flags.mono_l k
    refine ⟨?_, ?_⟩
    · intro y0 y1
      unfold effects_flags.j0
      repeat' first
      | (with_reducible exact ih0 _ _)
      | (with_reducible exact ih1 _ _)
      | (with_reducible exact LeO.refl _)
      | (with_reducible exact LeO.none _)
      | (with_reducible refine LeO.ite ?_ ?_)
      | (with_reducible refine LeO.bind ?_ (fun _ => ?_))
      | exact ih0 _ _
      | exact ih1 _ _
      | exact LeO.none _
      | refine LeO.ite ?_ ?_
      | refine LeO.bind ?_ (fun _ => ?_)
    · intro y0 y1
      unfold effects_flags.j1
      repeat' first
      | (with_reducible exact ih0 _ _)
      | (with_reducible exact ih1 _ _)
      | (with_reducible exact LeO.refl _)
      | (with_reducible exact LeO.none _)
      | (with_reducible refine LeO.ite ?_ ?_)
      | (with_reducible refine LeO.bind ?_ (fun _ => ?_))
      | exact ih0 _ _
      | exact ih1 _ _
      | exact LeO.none _
      | refine LeO.ite ?_ ?_
      | refine LeO.bind ?_ (fun _ => ?_)
set_option maxRecDepth 100000 in
theorem effects_flags.mono : ∀ a0 k, LeO (effects_flags.f k a0) (effects_flags.f (k + 1) a0) := by
  intro a0 k
  obtain ⟨ih0, ih1⟩ := effects_flags.mono_l k
  unfold effects_flags.f
  repeat' first
      | (with_reducible exact ih0 _ _)
      | (with_reducible exact ih1 _ _)
      | (with_reducible exact LeO.refl _)
      | (with_reducible exact LeO.none _)
      | (with_reducible refine LeO.ite ?_ ?_)
      | (with_reducible refine LeO.bind ?_ (fun _ => ?_))
      | exact ih0 _ _
      | exact ih1 _ _
      | exact LeO.none _
      | refine LeO.ite ?_ ?_
      | refine LeO.bind ?_ (fun _ => ?_)
set_option maxHeartbeats 8000000 in
set_option maxRecDepth 100000 in
theorem effects_flags.calls (k : Nat) (a0 : Int) (r : Int) (w : World) (h : effects_flags.f k a0 = some r) :
    Calls Try.prog 56 #[.int .i64 a0] w fun e w' => e = .returned (.int .i64 r) ∧ Drawn0 w w' := by
  have H : (if a0 = 29 then (effects_flags.j0 k a0 (a0 == 29)) else (if a0 = 30 then (effects_flags.j0 k a0 (a0 == 30)) else (if a0 = 31 then (effects_flags.j0 k a0 (a0 == 31)) else (effects_flags.j0 k a0 (a0 == 32))))) = some r := h
  clear h
  have HC2 := Aside0.mk H
  clear H
  go_enter Try.func56, Try.ntmps56
  go_upto_if 4 with (fail)
  go_cut [4] (fun v4 wc => ∃ (kq : Nat) (x4_1 : Bool), v4 = .bool x4_1 ∧ Aside0 (effects_flags.j0 kq a0 x4_1 = some r) ∧ Aside0 (kq ≤ k) ∧ Drawn0 w wc)
  case first =>
    have H := HC2.out
    clear HC2
    by_cases c3 : a0 = 29
    · rw [if_pos c3] at H
      have c3b0 : (a0 == 29) = true := beq_iff_eq.mpr c3
      have c3b1 : (a0 != 29) = false := bne_eq_false_iff_eq.mpr c3
      clear c3
      (first | rw [c3b0] | (simp only [i64_w, i32_w]; rw [c3b0]) | skip)
      have H' := Aside0.mk H
      clear H
      go_wp2
      go_meet
      case rel => exact ⟨_, ((a0 == 29)), rs_, H', le_, by repeat (first | exact Drawn0.refl _ | apply Drawn0.step)⟩
    · rw [if_neg c3] at H
      have c3b0 : (a0 == 29) = false := beq_eq_false_iff_ne.mpr c3
      have c3b1 : (a0 != 29) = true := bne_iff_ne.mpr c3
      (first | rw [c3b0] | (simp only [i64_w, i32_w]; rw [c3b0]) | skip)
      by_cases c4 : a0 = 30
      · rw [if_pos c4] at H
        have c4b0 : (a0 == 30) = true := beq_iff_eq.mpr c4
        have c4b1 : (a0 != 30) = false := bne_eq_false_iff_eq.mpr c4
        clear c4
        have H' := Aside0.mk H
        clear H
        go_wp2
        go_meet
        case rel => exact ⟨_, ((a0 == 30)), rs_, H', le_, by repeat (first | exact Drawn0.refl _ | apply Drawn0.step)⟩
      · rw [if_neg c4] at H
        have c4b0 : (a0 == 30) = false := beq_eq_false_iff_ne.mpr c4
        have c4b1 : (a0 != 30) = true := bne_iff_ne.mpr c4
        by_cases c5 : a0 = 31
        · rw [if_pos c5] at H
          have c5b0 : (a0 == 31) = true := beq_iff_eq.mpr c5
          have c5b1 : (a0 != 31) = false := bne_eq_false_iff_eq.mpr c5
          clear c5
          have H' := Aside0.mk H
          clear H
          go_wp2
          go_meet
          case rel => exact ⟨_, ((a0 == 31)), rs_, H', le_, by repeat (first | exact Drawn0.refl _ | apply Drawn0.step)⟩
        · rw [if_neg c5] at H
          have c5b0 : (a0 == 31) = false := beq_eq_false_iff_ne.mpr c5
          have c5b1 : (a0 != 31) = true := bne_iff_ne.mpr c5
          have H' := Aside0.mk H
          clear H
          go_wp2
          go_meet
          case rel => exact ⟨_, ((a0 == 32)), rs_, H', le_, by repeat (first | exact Drawn0.refl _ | apply Drawn0.step)⟩
  case rest =>
    clear HC2
    (try clear p2); (try clear c3); (try clear c3b0); (try clear c3b1); (try clear c4); (try clear c4b0); (try clear c4b1); (try clear c5); (try clear c5b0); (try clear c5b1)
    obtain ⟨kq, x4_1, rfl, HA, HJ1, ⟨mc1, rfl⟩⟩ := hcut
    cases kq with
    | zero => exact absurd HA.out (by simp [effects_flags.j0])
    | succ kj1 =>
      have H := HA.out
      clear HA
      simp only [effects_flags.j0] at H
      by_cases c6 : x4_1 = true
      · subst c6
        have H1 : (some 1) = some r := by rw [if_pos rfl] at H; exact H
        clear H
        have H := H1
        clear H1
        obtain rfl := Option.some.inj H
        go_wp2
        go_ret
        exact ⟨by first | rfl | (simp; done) | (simp [*]; done), by repeat (first | exact Drawn0.refl _ | apply Drawn0.step)⟩
      · replace c6 := Bool.eq_false_iff.mpr c6
        subst c6
        have H1 : (if a0 = 33 then (effects_flags.j1 kj1 a0 (a0 == 33)) else (effects_flags.j1 kj1 a0 (a0 == 34))) = some r := by rw [if_neg (show ¬ (false = true) by decide)] at H; exact H
        clear H
        have H := H1
        clear H1
        have HC7 := Aside0.mk H
        clear H
        go_upto_if 9 with (fail)
        go_cut [9] (fun v9 wc => ∃ (kq : Nat) (x9_6 : Bool), v9 = .bool x9_6 ∧ Aside0 (effects_flags.j1 kq a0 x9_6 = some r) ∧ Aside0 (kq ≤ kj1) ∧ Drawn0 w wc)
        case first =>
          have H := HC7.out
          clear HC7
          by_cases c8 : a0 = 33
          · rw [if_pos c8] at H
            have c8b0 : (a0 == 33) = true := beq_iff_eq.mpr c8
            have c8b1 : (a0 != 33) = false := bne_eq_false_iff_eq.mpr c8
            clear c8
            (first | rw [c8b0] | (simp only [i64_w, i32_w]; rw [c8b0]) | skip)
            have H' := Aside0.mk H
            clear H
            go_wp2
            go_meet
            case rel => exact ⟨_, ((a0 == 33)), rs_, H', ⟨by have := HJ1.out; first | omega | exact Nat.le_refl _⟩, by repeat (first | exact Drawn0.refl _ | apply Drawn0.step)⟩
          · rw [if_neg c8] at H
            have c8b0 : (a0 == 33) = false := beq_eq_false_iff_ne.mpr c8
            have c8b1 : (a0 != 33) = true := bne_iff_ne.mpr c8
            (first | rw [c8b0] | (simp only [i64_w, i32_w]; rw [c8b0]) | skip)
            have H' := Aside0.mk H
            clear H
            go_wp2
            go_meet
            case rel => exact ⟨_, ((a0 == 34)), rs_, H', ⟨by have := HJ1.out; first | omega | exact Nat.le_refl _⟩, by repeat (first | exact Drawn0.refl _ | apply Drawn0.step)⟩
        case rest =>
          clear HC7
          (try clear c1); (try clear p2); (try clear c3); (try clear c3b0); (try clear c3b1); (try clear c4); (try clear c4b0); (try clear c4b1); (try clear c5); (try clear c5b0); (try clear c5b1); (try clear c6); (try clear c8); (try clear c8b0); (try clear c8b1); (try clear p2)
          obtain ⟨kq, x9_6, rfl, HA, HJ6, ⟨mc6, rfl⟩⟩ := hcut
          cases kq with
          | zero => exact absurd HA.out (by simp [effects_flags.j1])
          | succ kj6 =>
            have H := HA.out
            clear HA
            simp only [effects_flags.j1] at H
            by_cases c9 : x9_6 = true
            · subst c9
              have H1 : (some 10) = some r := by rw [if_pos rfl] at H; exact H
              clear H
              have H := H1
              clear H1
              obtain rfl := Option.some.inj H
              go_wp2
              go_ret
              exact ⟨by first | rfl | (simp; done) | (simp [*]; done), by repeat (first | exact Drawn0.refl _ | apply Drawn0.step)⟩
            · replace c9 := Bool.eq_false_iff.mpr c9
              subst c9
              have H1 : (if a0 = 35 then (some 4) else (if a0 = 36 then (some 4) else (some 0))) = some r := by rw [if_neg (show ¬ (false = true) by decide)] at H; exact H
              clear H
              have H := H1
              clear H1
              by_cases c10 : a0 = 35
              · rw [if_pos c10] at H
                have c10b0 : (a0 == 35) = true := beq_iff_eq.mpr c10
                have c10b1 : (a0 != 35) = false := bne_eq_false_iff_eq.mpr c10
                clear c10
                obtain rfl := Option.some.inj H
                go_wp2
                go_ret
                exact ⟨by first | rfl | (simp; done) | (simp [*]; done), by repeat (first | exact Drawn0.refl _ | apply Drawn0.step)⟩
              · rw [if_neg c10] at H
                have c10b0 : (a0 == 35) = false := beq_eq_false_iff_ne.mpr c10
                have c10b1 : (a0 != 35) = true := bne_iff_ne.mpr c10
                by_cases c11 : a0 = 36
                · rw [if_pos c11] at H
                  have c11b0 : (a0 == 36) = true := beq_iff_eq.mpr c11
                  have c11b1 : (a0 != 36) = false := bne_eq_false_iff_eq.mpr c11
                  clear c11
                  obtain rfl := Option.some.inj H
                  go_wp2
                  go_ret
                  exact ⟨by first | rfl | (simp; done) | (simp [*]; done), by repeat (first | exact Drawn0.refl _ | apply Drawn0.step)⟩
                · rw [if_neg c11] at H
                  have c11b0 : (a0 == 36) = false := beq_eq_false_iff_ne.mpr c11
                  have c11b1 : (a0 != 36) = true := bne_iff_ne.mpr c11
                  obtain rfl := Option.some.inj H
                  go_wp2
                  go_ret
                  exact ⟨by first | rfl | (simp; done) | (simp [*]; done), by repeat (first | exact Drawn0.refl _ | apply Drawn0.step)⟩

end Go.Proofs.Ytaellapacoikaaa.PA
