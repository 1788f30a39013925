import Derived.Test.YtaellapacoikaaaV0
import Derived.Test.YtaellapacoikaaaVSAx0
namespace Go.Proofs.Ytaellapacoikaaa.PA
open Go.RowKit Go.Proofs.YtaellapacoikaaaW.PrintWords Go.Proofs.YtaellapacoikaaaW.PrintLast Go.Proofs.YtaellapacoikaaaW.PrintMore
attribute [local go_sem] max2_int min2_int max_two min_two max_three min_three max_four min_four   -- for this text's walks alone
set_option linter.unusedVariables false
set_option linter.unusedSimpArgs false

/-! ### linkhouseref7_In: function 16 -/
set_option maxRecDepth 100000 in
def linkhouseref7_In.f (a0 : Int) (a1 : Int) (a2 : Int) : Option (Bool) := if a1 ≤ a0 then (some (decide (a0 ≤ a2))) else (some false)
set_option maxHeartbeats 8000000 in
set_option maxRecDepth 100000 in
theorem linkhouseref7_In.calls (a0 : Int) (a1 : Int) (a2 : Int) (r : Bool) (w : World) (h : linkhouseref7_In.f a0 a1 a2 = some r) :
    Calls Try.prog 16 #[.int .i64 a0, .int .i64 a1, .int .i64 a2] w fun e w' => e = .returned (.bool r) ∧ Drawn0 w w' := by
  have H : (if a1 ≤ a0 then (some (decide (a0 ≤ a2))) else (some false)) = some r := h
  clear h
  by_cases c4 : a1 ≤ a0
  · rw [if_pos c4] at H
    have c4b0 : decide (a1 ≤ a0) = true := decide_eq_true c4
    clear c4
    obtain rfl := Option.some.inj H
    go_enter Try.func16, Try.ntmps16
    go_wp2
    go_ret
    exact ⟨by first | rfl | (simp; done) | (simp [*]; done), by repeat (first | exact Drawn0.refl _ | apply Drawn0.step)⟩
  · rw [if_neg c4] at H
    have c4b0 : decide (a1 ≤ a0) = false := decide_eq_false c4
    clear c4
    obtain rfl := Option.some.inj H
    go_enter Try.func16, Try.ntmps16
    go_wp2
    go_ret
    exact ⟨by first | rfl | (simp; done) | (simp [*]; done), by repeat (first | exact Drawn0.refl _ | apply Drawn0.step)⟩

/-! ### linkhouseref7_At: function 17 -/
set_option maxRecDepth 100000 in
def linkhouseref7_At.f (a0 : Int) (a1 : Int) : Option (Int × Int) := some (a0, a1)
set_option maxHeartbeats 8000000 in
set_option maxRecDepth 100000 in
theorem linkhouseref7_At.calls (a0 : Int) (a1 : Int) (r1 : Int) (r2 : Int) (w : World) (h : linkhouseref7_At.f a0 a1 = some (r1, r2)) :
    Calls Try.prog 17 #[.int .i64 a0, .int .i64 a1] w fun e w' => e = .returned (.agg #[.int .i64 r1, .int .i64 r2]) ∧ Below w.heap.size w w' := by
  have hu28 := Try.underlying28
  have HB := Aside0.mk (Below.refl w.heap.size w)
  have H : (some (a0, a1)) = some (r1, r2) := h
  clear h
  simp only [Option.some.injEq, Prod.mk.injEq] at H
  obtain ⟨rfl, rfl⟩ := H
  go_enter Try.func17, Try.ntmps17
  go_wp2_with (first | ((with_reducible refine gate_dst (N := 4) rfl ?_); refine bx_ (N := 4) (cs := #[.int .i64 0, .int .i64 0]) (t := 28) ?_; intro gb201 hg w3 hbox hb; have BK201 := Aside0.mk hbox; have GW201 := bs_ HB hg; have GE201 := bs_ HB hg; replace HB := hs_ HB hb; clear hb hbox hg; obtain ⟨hcz4_0, hcz4_1, hfz4_0, hfz4_1⟩ := cz2_ BK201))
  refine bodyPost_ret (results_cell_row rfl _ _ gb201 28 #[.int .i64 a0, .int .i64 a1] (0, 0) _ rfl (bk_ BK201) Try.underlying28 rfl (by kernel_rfl)) rfl ?_
  exact ⟨id_, bw_ HB⟩

/-! ### linkhouseref7_Kinds: function 36 -/
set_option maxRecDepth 100000 in
def linkhouseref7_Kinds.l0 : Nat → Int → Int → Int → Int → Option (ByteArray)
  | 0, _, _, _, _ => none
  | k + 1, x0, x3, x4, x5 => if x5 < 152 then (if 0 ≤ x5 then (if (bt (⟨#[45, 124, 45, 124, 45, 124, 98, 124, 45, 124, 45, 124, 114, 114, 124, 114, 119, 124, 114, 98, 124, 114, 114, 124, 114, 98, 124, 114, 114, 124, 114, 114, 124, 114, 114, 124, 114, 114, 124, 114, 114, 124, 114, 114, 124, 114, 114, 124, 114, 114, 124, 114, 114, 124, 114, 98, 124, 114, 114, 98, 124, 114, 114, 98, 124, 114, 114, 98, 124, 114, 114, 98, 124, 114, 124, 114, 124, 115, 124, 110, 124, 115, 124, 110, 124, 115, 124, 110, 124, 115, 124, 110, 124, 115, 124, 110, 124, 114, 124, 119, 124, 119, 124, 110, 124, 114, 124, 45, 124, 114, 110, 124, 118, 114, 124, 118, 114, 124, 118, 118, 124, 118, 118, 124, 114, 118, 124, 118, 114, 124, 114, 114, 124, 114, 114, 124, 114, 114, 114, 124, 114, 124, 114, 124, 114, 124, 114, 124, 114, 124, 119, 124]⟩ : ByteArray) x5) = 124 then (if x4 = x0 then (if 0 ≤ x3 then (if x3 ≤ x5 then (if x5 ≤ 152 then (if ((⟨#[45, 124, 45, 124, 45, 124, 98, 124, 45, 124, 45, 124, 114, 114, 124, 114, 119, 124, 114, 98, 124, 114, 114, 124, 114, 98, 124, 114, 114, 124, 114, 114, 124, 114, 114, 124, 114, 114, 124, 114, 114, 124, 114, 114, 124, 114, 114, 124, 114, 114, 124, 114, 114, 124, 114, 98, 124, 114, 114, 98, 124, 114, 114, 98, 124, 114, 114, 98, 124, 114, 114, 98, 124, 114, 124, 114, 124, 115, 124, 110, 124, 115, 124, 110, 124, 115, 124, 110, 124, 115, 124, 110, 124, 115, 124, 110, 124, 114, 124, 119, 124, 119, 124, 110, 124, 114, 124, 45, 124, 114, 110, 124, 118, 114, 124, 118, 114, 124, 118, 118, 124, 118, 118, 124, 114, 118, 124, 118, 114, 124, 114, 114, 124, 114, 114, 124, 114, 114, 114, 124, 114, 124, 114, 124, 114, 124, 114, 124, 114, 124, 119, 124]⟩ : ByteArray).extract (x3 : Int).toNat (x5 : Int).toNat).toList = ([45] : List UInt8) then (some (⟨#[]⟩ : ByteArray)) else (some ((⟨#[45, 124, 45, 124, 45, 124, 98, 124, 45, 124, 45, 124, 114, 114, 124, 114, 119, 124, 114, 98, 124, 114, 114, 124, 114, 98, 124, 114, 114, 124, 114, 114, 124, 114, 114, 124, 114, 114, 124, 114, 114, 124, 114, 114, 124, 114, 114, 124, 114, 114, 124, 114, 114, 124, 114, 98, 124, 114, 114, 98, 124, 114, 114, 98, 124, 114, 114, 98, 124, 114, 114, 98, 124, 114, 124, 114, 124, 115, 124, 110, 124, 115, 124, 110, 124, 115, 124, 110, 124, 115, 124, 110, 124, 115, 124, 110, 124, 114, 124, 119, 124, 119, 124, 110, 124, 114, 124, 45, 124, 114, 110, 124, 118, 114, 124, 118, 114, 124, 118, 118, 124, 118, 118, 124, 114, 118, 124, 118, 114, 124, 114, 114, 124, 114, 114, 124, 114, 114, 114, 124, 114, 124, 114, 124, 114, 124, 114, 124, 114, 124, 119, 124]⟩ : ByteArray).extract (x3 : Int).toNat (x5 : Int).toNat))) else (none)) else (none)) else (none)) else (linkhouseref7_Kinds.l0 k x0 (wrap64 (x5 + 1)) (wrap64 (x4 + 1)) (wrap64 (x5 + 1)))) else (linkhouseref7_Kinds.l0 k x0 x3 x4 (wrap64 (x5 + 1)))) else (none)) else (some (⟨#[]⟩ : ByteArray))
set_option maxRecDepth 100000 in
def linkhouseref7_Kinds.f (k : Nat) (a0 : Int) : Option (ByteArray) := linkhouseref7_Kinds.l0 k a0 0 0 0
set_option maxRecDepth 100000 in
theorem linkhouseref7_Kinds.mono_l : ∀ k, (∀ y0 y1 y2 y3, LeO (linkhouseref7_Kinds.l0 k y0 y1 y2 y3) (linkhouseref7_Kinds.l0 (k + 1) y0 y1 y2 y3))
  | 0 => fun _ _ _ _ r h => by simp [linkhouseref7_Kinds.l0] at h
  | k + 1 => by
    have ih0 := linkhouseref7_Kinds.mono_l k
    · intro y0 y1 y2 y3
      unfold linkhouseref7_Kinds.l0
      repeat' first
      | (with_reducible exact ih0 _ _ _ _)
      | (with_reducible exact LeO.refl _)
      | (with_reducible exact LeO.none _)
      | (with_reducible refine LeO.ite ?_ ?_)
      | (with_reducible refine LeO.bind ?_ (fun _ => ?_))
      | exact ih0 _ _ _ _
      | exact LeO.none _
      | refine LeO.ite ?_ ?_
      | refine LeO.bind ?_ (fun _ => ?_)
set_option maxRecDepth 100000 in
theorem linkhouseref7_Kinds.mono : ∀ a0 k, LeO (linkhouseref7_Kinds.f k a0) (linkhouseref7_Kinds.f (k + 1) a0) := by
  intro a0 k
  have ih0 := linkhouseref7_Kinds.mono_l k
  unfold linkhouseref7_Kinds.f
  repeat' first
      | (with_reducible exact ih0 _ _ _ _)
      | (with_reducible exact LeO.refl _)
      | (with_reducible exact LeO.none _)
      | (with_reducible refine LeO.ite ?_ ?_)
      | (with_reducible refine LeO.bind ?_ (fun _ => ?_))
      | exact ih0 _ _ _ _
      | exact LeO.none _
      | refine LeO.ite ?_ ?_
      | refine LeO.bind ?_ (fun _ => ?_)
set_option maxHeartbeats 8000000 in
set_option maxRecDepth 100000 in
theorem linkhouseref7_Kinds.calls (k : Nat) (a0 : Int) (r : ByteArray) (w : World) (h : linkhouseref7_Kinds.f k a0 = some r) :
    Calls Try.prog 36 #[.int .i64 a0] w fun e w' => e = .returned (.string r) ∧ Drawn0 w w' := by
  have H : (linkhouseref7_Kinds.l0 k a0 0 0 0) = some r := h
  clear h
  have H' := Aside0.mk H
  clear H
  go_enter Try.func36, Try.ntmps36
  go_wp2
  go_loopg [3, 4, 5] k (fun kq v3 v4 v5 w' => ∃ (x3_1 : Int) (x4_1 : Int) (x5_1 : Int), v3 = .int .i64 x3_1 ∧ v4 = .int .i64 x4_1 ∧ v5 = .int .i64 x5_1 ∧ Aside0 (linkhouseref7_Kinds.l0 kq a0 x3_1 x4_1 x5_1 = some r) ∧ Aside0 (kq ≤ k) ∧ Drawn0 w w')
  case atStart => exact ⟨(0), (0), (0), rs_, rs_, rs_, H', ⟨Nat.le_refl _⟩, by repeat (first | exact Drawn0.refl _ | apply Drawn0.step)⟩
  case round =>
    clear H'
    obtain ⟨x3_1, x4_1, x5_1, rfl, rfl, rfl, HA, HK1, ⟨m1, rfl⟩⟩ := hrel
    cases gk with
    | zero => exact absurd HA.out (by simp [linkhouseref7_Kinds.l0])
    | succ k1 =>
      have H := HA.out
      clear HA
      simp only [linkhouseref7_Kinds.l0] at H
      by_cases c2 : x5_1 < 152
      · rw [if_pos c2] at H
        have c2b0 : decide (x5_1 < 152) = true := decide_eq_true c2
        clear c2
        by_cases c3 : 0 ≤ x5_1
        · rw [if_pos c3] at H
          have c3b0 : decide (0 ≤ x5_1) = true := decide_eq_true c3
          clear c3
          by_cases c5 : (bt (⟨#[45, 124, 45, 124, 45, 124, 98, 124, 45, 124, 45, 124, 114, 114, 124, 114, 119, 124, 114, 98, 124, 114, 114, 124, 114, 98, 124, 114, 114, 124, 114, 114, 124, 114, 114, 124, 114, 114, 124, 114, 114, 124, 114, 114, 124, 114, 114, 124, 114, 114, 124, 114, 114, 124, 114, 98, 124, 114, 114, 98, 124, 114, 114, 98, 124, 114, 114, 98, 124, 114, 114, 98, 124, 114, 124, 114, 124, 115, 124, 110, 124, 115, 124, 110, 124, 115, 124, 110, 124, 115, 124, 110, 124, 115, 124, 110, 124, 114, 124, 119, 124, 119, 124, 110, 124, 114, 124, 45, 124, 114, 110, 124, 118, 114, 124, 118, 114, 124, 118, 118, 124, 118, 118, 124, 114, 118, 124, 118, 114, 124, 114, 114, 124, 114, 114, 124, 114, 114, 114, 124, 114, 124, 114, 124, 114, 124, 114, 124, 114, 124, 119, 124]⟩ : ByteArray) x5_1) = 124
          · rw [if_pos c5] at H
            have c5b0 : ((bt (⟨#[45, 124, 45, 124, 45, 124, 98, 124, 45, 124, 45, 124, 114, 114, 124, 114, 119, 124, 114, 98, 124, 114, 114, 124, 114, 98, 124, 114, 114, 124, 114, 114, 124, 114, 114, 124, 114, 114, 124, 114, 114, 124, 114, 114, 124, 114, 114, 124, 114, 114, 124, 114, 114, 124, 114, 98, 124, 114, 114, 98, 124, 114, 114, 98, 124, 114, 114, 98, 124, 114, 114, 98, 124, 114, 124, 114, 124, 115, 124, 110, 124, 115, 124, 110, 124, 115, 124, 110, 124, 115, 124, 110, 124, 115, 124, 110, 124, 114, 124, 119, 124, 119, 124, 110, 124, 114, 124, 45, 124, 114, 110, 124, 118, 114, 124, 118, 114, 124, 118, 118, 124, 118, 118, 124, 114, 118, 124, 118, 114, 124, 114, 114, 124, 114, 114, 124, 114, 114, 114, 124, 114, 124, 114, 124, 114, 124, 114, 124, 114, 124, 119, 124]⟩ : ByteArray) x5_1) == 124) = true := beq_iff_eq.mpr c5
            have c5b1 : ((bt (⟨#[45, 124, 45, 124, 45, 124, 98, 124, 45, 124, 45, 124, 114, 114, 124, 114, 119, 124, 114, 98, 124, 114, 114, 124, 114, 98, 124, 114, 114, 124, 114, 114, 124, 114, 114, 124, 114, 114, 124, 114, 114, 124, 114, 114, 124, 114, 114, 124, 114, 114, 124, 114, 114, 124, 114, 98, 124, 114, 114, 98, 124, 114, 114, 98, 124, 114, 114, 98, 124, 114, 114, 98, 124, 114, 124, 114, 124, 115, 124, 110, 124, 115, 124, 110, 124, 115, 124, 110, 124, 115, 124, 110, 124, 115, 124, 110, 124, 114, 124, 119, 124, 119, 124, 110, 124, 114, 124, 45, 124, 114, 110, 124, 118, 114, 124, 118, 114, 124, 118, 118, 124, 118, 118, 124, 114, 118, 124, 118, 114, 124, 114, 114, 124, 114, 114, 124, 114, 114, 114, 124, 114, 124, 114, 124, 114, 124, 114, 124, 114, 124, 119, 124]⟩ : ByteArray) x5_1) != 124) = false := bne_eq_false_iff_eq.mpr c5
            clear c5
            by_cases c6 : x4_1 = a0
            · rw [if_pos c6] at H
              have c6b0 : (x4_1 == a0) = true := beq_iff_eq.mpr c6
              have c6b1 : (x4_1 != a0) = false := bne_eq_false_iff_eq.mpr c6
              clear c6
              by_cases c7 : 0 ≤ x3_1
              · rw [if_pos c7] at H
                have c7b0 := eq_true c7
                have c7b1 : decide (0 ≤ x3_1) = true := decide_eq_true c7
                clear c7
                by_cases c8 : x3_1 ≤ x5_1
                · rw [if_pos c8] at H
                  have c8b0 := eq_true c8
                  have c8b1 : decide (x3_1 ≤ x5_1) = true := decide_eq_true c8
                  clear c8
                  by_cases c9 : x5_1 ≤ 152
                  · rw [if_pos c9] at H
                    have c9b0 := eq_true c9
                    have c9b1 : decide (x5_1 ≤ 152) = true := decide_eq_true c9
                    clear c9
                    by_cases c10 : ((⟨#[45, 124, 45, 124, 45, 124, 98, 124, 45, 124, 45, 124, 114, 114, 124, 114, 119, 124, 114, 98, 124, 114, 114, 124, 114, 98, 124, 114, 114, 124, 114, 114, 124, 114, 114, 124, 114, 114, 124, 114, 114, 124, 114, 114, 124, 114, 114, 124, 114, 114, 124, 114, 114, 124, 114, 98, 124, 114, 114, 98, 124, 114, 114, 98, 124, 114, 114, 98, 124, 114, 114, 98, 124, 114, 124, 114, 124, 115, 124, 110, 124, 115, 124, 110, 124, 115, 124, 110, 124, 115, 124, 110, 124, 115, 124, 110, 124, 114, 124, 119, 124, 119, 124, 110, 124, 114, 124, 45, 124, 114, 110, 124, 118, 114, 124, 118, 114, 124, 118, 118, 124, 118, 118, 124, 114, 118, 124, 118, 114, 124, 114, 114, 124, 114, 114, 124, 114, 114, 114, 124, 114, 124, 114, 124, 114, 124, 114, 124, 114, 124, 119, 124]⟩ : ByteArray).extract (x3_1 : Int).toNat (x5_1 : Int).toNat).toList = ([45] : List UInt8)
                    · rw [if_pos c10] at H
                      have c10b0 : (((⟨#[45, 124, 45, 124, 45, 124, 98, 124, 45, 124, 45, 124, 114, 114, 124, 114, 119, 124, 114, 98, 124, 114, 114, 124, 114, 98, 124, 114, 114, 124, 114, 114, 124, 114, 114, 124, 114, 114, 124, 114, 114, 124, 114, 114, 124, 114, 114, 124, 114, 114, 124, 114, 114, 124, 114, 98, 124, 114, 114, 98, 124, 114, 114, 98, 124, 114, 114, 98, 124, 114, 114, 98, 124, 114, 124, 114, 124, 115, 124, 110, 124, 115, 124, 110, 124, 115, 124, 110, 124, 115, 124, 110, 124, 115, 124, 110, 124, 114, 124, 119, 124, 119, 124, 110, 124, 114, 124, 45, 124, 114, 110, 124, 118, 114, 124, 118, 114, 124, 118, 118, 124, 118, 118, 124, 114, 118, 124, 118, 114, 124, 114, 114, 124, 114, 114, 124, 114, 114, 114, 124, 114, 124, 114, 124, 114, 124, 114, 124, 114, 124, 119, 124]⟩ : ByteArray).extract (x3_1 : Int).toNat (x5_1 : Int).toNat).toList == ([45] : List UInt8)) = true := beq_iff_eq.mpr c10
                      have c10b1 : (((⟨#[45, 124, 45, 124, 45, 124, 98, 124, 45, 124, 45, 124, 114, 114, 124, 114, 119, 124, 114, 98, 124, 114, 114, 124, 114, 98, 124, 114, 114, 124, 114, 114, 124, 114, 114, 124, 114, 114, 124, 114, 114, 124, 114, 114, 124, 114, 114, 124, 114, 114, 124, 114, 114, 124, 114, 98, 124, 114, 114, 98, 124, 114, 114, 98, 124, 114, 114, 98, 124, 114, 114, 98, 124, 114, 124, 114, 124, 115, 124, 110, 124, 115, 124, 110, 124, 115, 124, 110, 124, 115, 124, 110, 124, 115, 124, 110, 124, 114, 124, 119, 124, 119, 124, 110, 124, 114, 124, 45, 124, 114, 110, 124, 118, 114, 124, 118, 114, 124, 118, 118, 124, 118, 118, 124, 114, 118, 124, 118, 114, 124, 114, 114, 124, 114, 114, 124, 114, 114, 114, 124, 114, 124, 114, 124, 114, 124, 114, 124, 114, 124, 119, 124]⟩ : ByteArray).extract (x3_1 : Int).toNat (x5_1 : Int).toNat).toList != ([45] : List UInt8)) = false := bne_eq_false_iff_eq.mpr c10
                      clear c10
                      obtain rfl := Option.some.inj H
                      have p4 : 0 ≤ (x5_1 : Int) := of_decide_eq_true (by first | (with_reducible assumption) | assumption)
                      have q4 : x5_1 < (152 : Int) := of_decide_eq_true (by first | (with_reducible assumption) | assumption)
                      have hx4 := bt_at (⟨#[45, 124, 45, 124, 45, 124, 98, 124, 45, 124, 45, 124, 114, 114, 124, 114, 119, 124, 114, 98, 124, 114, 114, 124, 114, 98, 124, 114, 114, 124, 114, 114, 124, 114, 114, 124, 114, 114, 124, 114, 114, 124, 114, 114, 124, 114, 114, 124, 114, 114, 124, 114, 114, 124, 114, 98, 124, 114, 114, 98, 124, 114, 114, 98, 124, 114, 114, 98, 124, 114, 114, 98, 124, 114, 124, 114, 124, 115, 124, 110, 124, 115, 124, 110, 124, 115, 124, 110, 124, 115, 124, 110, 124, 115, 124, 110, 124, 114, 124, 119, 124, 119, 124, 110, 124, 114, 124, 45, 124, 114, 110, 124, 118, 114, 124, 118, 114, 124, 118, 118, 124, 118, 118, 124, 114, 118, 124, 118, 114, 124, 114, 114, 124, 114, 114, 124, 114, 114, 114, 124, 114, 124, 114, 124, 114, 124, 114, 124, 114, 124, 119, 124]⟩ : ByteArray) x5_1
                      replace p4 := eq_true p4
                      replace q4 := eq_true q4
                      go_wp2
                      go_ret
                      exact ⟨by first | rfl | (simp; done) | (simp [*]; done), by repeat (first | exact Drawn0.refl _ | apply Drawn0.step)⟩
                    · rw [if_neg c10] at H
                      have c10b0 : (((⟨#[45, 124, 45, 124, 45, 124, 98, 124, 45, 124, 45, 124, 114, 114, 124, 114, 119, 124, 114, 98, 124, 114, 114, 124, 114, 98, 124, 114, 114, 124, 114, 114, 124, 114, 114, 124, 114, 114, 124, 114, 114, 124, 114, 114, 124, 114, 114, 124, 114, 114, 124, 114, 114, 124, 114, 98, 124, 114, 114, 98, 124, 114, 114, 98, 124, 114, 114, 98, 124, 114, 114, 98, 124, 114, 124, 114, 124, 115, 124, 110, 124, 115, 124, 110, 124, 115, 124, 110, 124, 115, 124, 110, 124, 115, 124, 110, 124, 114, 124, 119, 124, 119, 124, 110, 124, 114, 124, 45, 124, 114, 110, 124, 118, 114, 124, 118, 114, 124, 118, 118, 124, 118, 118, 124, 114, 118, 124, 118, 114, 124, 114, 114, 124, 114, 114, 124, 114, 114, 114, 124, 114, 124, 114, 124, 114, 124, 114, 124, 114, 124, 119, 124]⟩ : ByteArray).extract (x3_1 : Int).toNat (x5_1 : Int).toNat).toList == ([45] : List UInt8)) = false := beq_eq_false_iff_ne.mpr c10
                      have c10b1 : (((⟨#[45, 124, 45, 124, 45, 124, 98, 124, 45, 124, 45, 124, 114, 114, 124, 114, 119, 124, 114, 98, 124, 114, 114, 124, 114, 98, 124, 114, 114, 124, 114, 114, 124, 114, 114, 124, 114, 114, 124, 114, 114, 124, 114, 114, 124, 114, 114, 124, 114, 114, 124, 114, 114, 124, 114, 98, 124, 114, 114, 98, 124, 114, 114, 98, 124, 114, 114, 98, 124, 114, 114, 98, 124, 114, 124, 114, 124, 115, 124, 110, 124, 115, 124, 110, 124, 115, 124, 110, 124, 115, 124, 110, 124, 115, 124, 110, 124, 114, 124, 119, 124, 119, 124, 110, 124, 114, 124, 45, 124, 114, 110, 124, 118, 114, 124, 118, 114, 124, 118, 118, 124, 118, 118, 124, 114, 118, 124, 118, 114, 124, 114, 114, 124, 114, 114, 124, 114, 114, 114, 124, 114, 124, 114, 124, 114, 124, 114, 124, 114, 124, 119, 124]⟩ : ByteArray).extract (x3_1 : Int).toNat (x5_1 : Int).toNat).toList != ([45] : List UInt8)) = true := bne_iff_ne.mpr c10
                      have c11b0 := eq_true (of_decide_eq_true (by first | (with_reducible assumption) | assumption) : 0 ≤ x3_1)
                      have c12b0 := eq_true (of_decide_eq_true (by first | (with_reducible assumption) | assumption) : x3_1 ≤ x5_1)
                      have c13b0 := eq_true (of_decide_eq_true (by first | (with_reducible assumption) | assumption) : x5_1 ≤ 152)
                      obtain rfl := Option.some.inj H
                      have p4 : 0 ≤ (x5_1 : Int) := of_decide_eq_true (by first | (with_reducible assumption) | assumption)
                      have q4 : x5_1 < (152 : Int) := of_decide_eq_true (by first | (with_reducible assumption) | assumption)
                      have hx4 := bt_at (⟨#[45, 124, 45, 124, 45, 124, 98, 124, 45, 124, 45, 124, 114, 114, 124, 114, 119, 124, 114, 98, 124, 114, 114, 124, 114, 98, 124, 114, 114, 124, 114, 114, 124, 114, 114, 124, 114, 114, 124, 114, 114, 124, 114, 114, 124, 114, 114, 124, 114, 114, 124, 114, 114, 124, 114, 98, 124, 114, 114, 98, 124, 114, 114, 98, 124, 114, 114, 98, 124, 114, 114, 98, 124, 114, 124, 114, 124, 115, 124, 110, 124, 115, 124, 110, 124, 115, 124, 110, 124, 115, 124, 110, 124, 115, 124, 110, 124, 114, 124, 119, 124, 119, 124, 110, 124, 114, 124, 45, 124, 114, 110, 124, 118, 114, 124, 118, 114, 124, 118, 118, 124, 118, 118, 124, 114, 118, 124, 118, 114, 124, 114, 114, 124, 114, 114, 124, 114, 114, 114, 124, 114, 124, 114, 124, 114, 124, 114, 124, 114, 124, 119, 124]⟩ : ByteArray) x5_1
                      replace p4 := eq_true p4
                      replace q4 := eq_true q4
                      go_wp2
                      go_ret
                      exact ⟨by first | rfl | (simp; done) | (simp [*]; done), by repeat (first | exact Drawn0.refl _ | apply Drawn0.step)⟩
                  · rw [if_neg c9] at H
                    exact absurd H (by simp)
                · rw [if_neg c8] at H
                  exact absurd H (by simp)
              · rw [if_neg c7] at H
                exact absurd H (by simp)
            · rw [if_neg c6] at H
              have c6b0 : (x4_1 == a0) = false := beq_eq_false_iff_ne.mpr c6
              have c6b1 : (x4_1 != a0) = true := bne_iff_ne.mpr c6
              have H' := Aside0.mk H
              clear H
              have p4 : 0 ≤ (x5_1 : Int) := of_decide_eq_true (by first | (with_reducible assumption) | assumption)
              have q4 : x5_1 < (152 : Int) := of_decide_eq_true (by first | (with_reducible assumption) | assumption)
              have hx4 := bt_at (⟨#[45, 124, 45, 124, 45, 124, 98, 124, 45, 124, 45, 124, 114, 114, 124, 114, 119, 124, 114, 98, 124, 114, 114, 124, 114, 98, 124, 114, 114, 124, 114, 114, 124, 114, 114, 124, 114, 114, 124, 114, 114, 124, 114, 114, 124, 114, 114, 124, 114, 114, 124, 114, 114, 124, 114, 98, 124, 114, 114, 98, 124, 114, 114, 98, 124, 114, 114, 98, 124, 114, 114, 98, 124, 114, 124, 114, 124, 115, 124, 110, 124, 115, 124, 110, 124, 115, 124, 110, 124, 115, 124, 110, 124, 115, 124, 110, 124, 114, 124, 119, 124, 119, 124, 110, 124, 114, 124, 45, 124, 114, 110, 124, 118, 114, 124, 118, 114, 124, 118, 118, 124, 118, 118, 124, 114, 118, 124, 118, 114, 124, 114, 114, 124, 114, 114, 124, 114, 114, 114, 124, 114, 124, 114, 124, 114, 124, 114, 124, 114, 124, 119, 124]⟩ : ByteArray) x5_1
              replace p4 := eq_true p4
              replace q4 := eq_true q4
              go_wp2
              go_roundg k1
              case measure => have := HK1.out; omega
              case rel => exact ⟨(wrap64 (x5_1 + 1)), (wrap64 (x4_1 + 1)), (wrap64 (x5_1 + 1)), rs_, rs_, rs_, H', ⟨by have := HK1.out; omega⟩, by repeat (first | exact Drawn0.refl _ | apply Drawn0.step)⟩
          · rw [if_neg c5] at H
            have c5b0 : ((bt (⟨#[45, 124, 45, 124, 45, 124, 98, 124, 45, 124, 45, 124, 114, 114, 124, 114, 119, 124, 114, 98, 124, 114, 114, 124, 114, 98, 124, 114, 114, 124, 114, 114, 124, 114, 114, 124, 114, 114, 124, 114, 114, 124, 114, 114, 124, 114, 114, 124, 114, 114, 124, 114, 114, 124, 114, 98, 124, 114, 114, 98, 124, 114, 114, 98, 124, 114, 114, 98, 124, 114, 114, 98, 124, 114, 124, 114, 124, 115, 124, 110, 124, 115, 124, 110, 124, 115, 124, 110, 124, 115, 124, 110, 124, 115, 124, 110, 124, 114, 124, 119, 124, 119, 124, 110, 124, 114, 124, 45, 124, 114, 110, 124, 118, 114, 124, 118, 114, 124, 118, 118, 124, 118, 118, 124, 114, 118, 124, 118, 114, 124, 114, 114, 124, 114, 114, 124, 114, 114, 114, 124, 114, 124, 114, 124, 114, 124, 114, 124, 114, 124, 119, 124]⟩ : ByteArray) x5_1) == 124) = false := beq_eq_false_iff_ne.mpr c5
            have c5b1 : ((bt (⟨#[45, 124, 45, 124, 45, 124, 98, 124, 45, 124, 45, 124, 114, 114, 124, 114, 119, 124, 114, 98, 124, 114, 114, 124, 114, 98, 124, 114, 114, 124, 114, 114, 124, 114, 114, 124, 114, 114, 124, 114, 114, 124, 114, 114, 124, 114, 114, 124, 114, 114, 124, 114, 114, 124, 114, 98, 124, 114, 114, 98, 124, 114, 114, 98, 124, 114, 114, 98, 124, 114, 114, 98, 124, 114, 124, 114, 124, 115, 124, 110, 124, 115, 124, 110, 124, 115, 124, 110, 124, 115, 124, 110, 124, 115, 124, 110, 124, 114, 124, 119, 124, 119, 124, 110, 124, 114, 124, 45, 124, 114, 110, 124, 118, 114, 124, 118, 114, 124, 118, 118, 124, 118, 118, 124, 114, 118, 124, 118, 114, 124, 114, 114, 124, 114, 114, 124, 114, 114, 114, 124, 114, 124, 114, 124, 114, 124, 114, 124, 114, 124, 119, 124]⟩ : ByteArray) x5_1) != 124) = true := bne_iff_ne.mpr c5
            have H' := Aside0.mk H
            clear H
            have p4 : 0 ≤ (x5_1 : Int) := of_decide_eq_true (by first | (with_reducible assumption) | assumption)
            have q4 : x5_1 < (152 : Int) := of_decide_eq_true (by first | (with_reducible assumption) | assumption)
            have hx4 := bt_at (⟨#[45, 124, 45, 124, 45, 124, 98, 124, 45, 124, 45, 124, 114, 114, 124, 114, 119, 124, 114, 98, 124, 114, 114, 124, 114, 98, 124, 114, 114, 124, 114, 114, 124, 114, 114, 124, 114, 114, 124, 114, 114, 124, 114, 114, 124, 114, 114, 124, 114, 114, 124, 114, 114, 124, 114, 98, 124, 114, 114, 98, 124, 114, 114, 98, 124, 114, 114, 98, 124, 114, 114, 98, 124, 114, 124, 114, 124, 115, 124, 110, 124, 115, 124, 110, 124, 115, 124, 110, 124, 115, 124, 110, 124, 115, 124, 110, 124, 114, 124, 119, 124, 119, 124, 110, 124, 114, 124, 45, 124, 114, 110, 124, 118, 114, 124, 118, 114, 124, 118, 118, 124, 118, 118, 124, 114, 118, 124, 118, 114, 124, 114, 114, 124, 114, 114, 124, 114, 114, 114, 124, 114, 124, 114, 124, 114, 124, 114, 124, 114, 124, 119, 124]⟩ : ByteArray) x5_1
            replace p4 := eq_true p4
            replace q4 := eq_true q4
            go_wp2
            go_roundg k1
            case measure => have := HK1.out; omega
            case rel => exact ⟨(x3_1), (x4_1), (wrap64 (x5_1 + 1)), rs_, rs_, rs_, H', ⟨by have := HK1.out; omega⟩, by repeat (first | exact Drawn0.refl _ | apply Drawn0.step)⟩
        · rw [if_neg c3] at H
          exact absurd H (by simp)
      · rw [if_neg c2] at H
        have c2b0 : decide (x5_1 < 152) = false := decide_eq_false c2
        clear c2
        obtain rfl := Option.some.inj H
        go_wp2
        go_ret
        exact ⟨by first | rfl | (simp; done) | (simp [*]; done), by repeat (first | exact Drawn0.refl _ | apply Drawn0.step)⟩

/-! ### linkhouseref7_KindRange: function 37 -/
set_option maxRecDepth 100000 in
def linkhouseref7_KindRange.f (a0 : Int) : Option (Int × Int) := if a0 = 114 then (some (0, 7)) else (if a0 = 118 then (some (0, 3)) else (if a0 = 119 then (some (0, 4294967295)) else (if a0 = 110 then (some ((-32768), 32767)) else (some ((-128), 127)))))
set_option maxHeartbeats 8000000 in
set_option maxRecDepth 100000 in
theorem linkhouseref7_KindRange.calls (a0 : Int) (r1 : Int) (r2 : Int) (w : World) (h : linkhouseref7_KindRange.f a0 = some (r1, r2)) :
    Calls Try.prog 37 #[.int .u8 a0] w fun e w' => e = .returned (.tuple #[.int .i64 r1, .int .i64 r2]) ∧ Drawn0 w w' := by
  have H : (if a0 = 114 then (some (0, 7)) else (if a0 = 118 then (some (0, 3)) else (if a0 = 119 then (some (0, 4294967295)) else (if a0 = 110 then (some ((-32768), 32767)) else (some ((-128), 127)))))) = some (r1, r2) := h
  clear h
  by_cases c2 : a0 = 114
  · rw [if_pos c2] at H
    have c2b0 : (a0 == 114) = true := beq_iff_eq.mpr c2
    have c2b1 : (a0 != 114) = false := bne_eq_false_iff_eq.mpr c2
    clear c2
    simp only [Option.some.injEq, Prod.mk.injEq] at H
    obtain ⟨rfl, rfl⟩ := H
    go_enter Try.func37, Try.ntmps37
    go_wp2
    go_ret2
    exact ⟨by first | rfl | (simp; done) | (simp [*]; done), by repeat (first | exact Drawn0.refl _ | apply Drawn0.step)⟩
  · rw [if_neg c2] at H
    have c2b0 : (a0 == 114) = false := beq_eq_false_iff_ne.mpr c2
    have c2b1 : (a0 != 114) = true := bne_iff_ne.mpr c2
    by_cases c3 : a0 = 118
    · rw [if_pos c3] at H
      have c3b0 : (a0 == 118) = true := beq_iff_eq.mpr c3
      have c3b1 : (a0 != 118) = false := bne_eq_false_iff_eq.mpr c3
      clear c3
      simp only [Option.some.injEq, Prod.mk.injEq] at H
      obtain ⟨rfl, rfl⟩ := H
      go_enter Try.func37, Try.ntmps37
      go_wp2
      go_ret2
      exact ⟨by first | rfl | (simp; done) | (simp [*]; done), by repeat (first | exact Drawn0.refl _ | apply Drawn0.step)⟩
    · rw [if_neg c3] at H
      have c3b0 : (a0 == 118) = false := beq_eq_false_iff_ne.mpr c3
      have c3b1 : (a0 != 118) = true := bne_iff_ne.mpr c3
      by_cases c4 : a0 = 119
      · rw [if_pos c4] at H
        have c4b0 : (a0 == 119) = true := beq_iff_eq.mpr c4
        have c4b1 : (a0 != 119) = false := bne_eq_false_iff_eq.mpr c4
        clear c4
        simp only [Option.some.injEq, Prod.mk.injEq] at H
        obtain ⟨rfl, rfl⟩ := H
        go_enter Try.func37, Try.ntmps37
        go_wp2
        go_ret2
        exact ⟨by first | rfl | (simp; done) | (simp [*]; done), by repeat (first | exact Drawn0.refl _ | apply Drawn0.step)⟩
      · rw [if_neg c4] at H
        have c4b0 : (a0 == 119) = false := beq_eq_false_iff_ne.mpr c4
        have c4b1 : (a0 != 119) = true := bne_iff_ne.mpr c4
        by_cases c5 : a0 = 110
        · rw [if_pos c5] at H
          have c5b0 : (a0 == 110) = true := beq_iff_eq.mpr c5
          have c5b1 : (a0 != 110) = false := bne_eq_false_iff_eq.mpr c5
          clear c5
          simp only [Option.some.injEq, Prod.mk.injEq] at H
          obtain ⟨rfl, rfl⟩ := H
          go_enter Try.func37, Try.ntmps37
          go_wp2
          go_ret2
          exact ⟨by first | rfl | (simp; done) | (simp [*]; done), by repeat (first | exact Drawn0.refl _ | apply Drawn0.step)⟩
        · rw [if_neg c5] at H
          have c5b0 : (a0 == 110) = false := beq_eq_false_iff_ne.mpr c5
          have c5b1 : (a0 != 110) = true := bne_iff_ne.mpr c5
          simp only [Option.some.injEq, Prod.mk.injEq] at H
          obtain ⟨rfl, rfl⟩ := H
          go_enter Try.func37, Try.ntmps37
          go_wp2
          go_ret2
          exact ⟨by first | rfl | (simp; done) | (simp [*]; done), by repeat (first | exact Drawn0.refl _ | apply Drawn0.step)⟩

/-! ### linkhouseref7_InsFault: function 12 -/
set_option maxRecDepth 100000 in
def linkhouseref7_InsFault.l0 : Nat → ByteArray → Int → Int → List Int → Option (Int × Int)
  | 0, _, _, _, _ => none
  | k + 1, x3, x4, x203000, x203001 => if x4 < (x3.size : Int) then (if 0 ≤ x4 then ((linkhouseref7_KindRange.f (bt x3 x4)).bind fun bt210 => (if x4 < (x203001.length : Int) then ((linkhouseref7_In.f (rd x203001 x4) bt210.1 bt210.2).bind fun t213 => (if t213 = true then (linkhouseref7_InsFault.l0 k x3 (wrap64 (x4 + 1)) x203000 x203001) else ((linkhouseref7_At.f 3 x4).bind fun bt214 => (some (bt214.1, bt214.2))))) else (none))) else (none)) else (some (0, 0))
set_option maxRecDepth 100000 in
def linkhouseref7_InsFault.f (k : Nat) (a0_0 : Int) (l0_1 : List Int) : Option (Int × Int) := (linkhouseref7_In.f a0_0 0 58).bind fun t204 => (if t204 = true then ((linkhouseref7_Kinds.f k a0_0).bind fun t207 => (if (l0_1.length : Int) = (t207.size : Int) then (linkhouseref7_InsFault.l0 k t207 0 a0_0 l0_1) else ((linkhouseref7_At.f 9 (-3)).bind fun bt208 => (some (bt208.1, bt208.2))))) else ((linkhouseref7_At.f 3 (-2)).bind fun bt205 => (some (bt205.1, bt205.2))))
set_option maxRecDepth 100000 in
theorem linkhouseref7_InsFault.mono_l : ∀ k, (∀ y0 y1 y2 y3, LeO (linkhouseref7_InsFault.l0 k y0 y1 y2 y3) (linkhouseref7_InsFault.l0 (k + 1) y0 y1 y2 y3))
  | 0 => fun _ _ _ _ r h => by simp [linkhouseref7_InsFault.l0] at h
  | k + 1 => by
    have ih0 := linkhouseref7_InsFault.mono_l k
    · intro y0 y1 y2 y3
      unfold linkhouseref7_InsFault.l0
      repeat' first
      | (with_reducible exact ih0 _ _ _ _)
      | (with_reducible exact linkhouseref7_Kinds.mono _ _)
      | (with_reducible exact LeO.refl _)
      | (with_reducible exact LeO.none _)
      | (with_reducible refine LeO.ite ?_ ?_)
      | (with_reducible refine LeO.bind ?_ (fun _ => ?_))
      | exact ih0 _ _ _ _
      | exact linkhouseref7_Kinds.mono _ _
      | exact LeO.none _
      | refine LeO.ite ?_ ?_
      | refine LeO.bind ?_ (fun _ => ?_)
set_option maxRecDepth 100000 in
theorem linkhouseref7_InsFault.mono : ∀ a0 a1 k, LeO (linkhouseref7_InsFault.f k a0 a1) (linkhouseref7_InsFault.f (k + 1) a0 a1) := by
  intro a0 a1 k
  have ih0 := linkhouseref7_InsFault.mono_l k
  unfold linkhouseref7_InsFault.f
  repeat' first
      | (with_reducible exact ih0 _ _ _ _)
      | (with_reducible exact linkhouseref7_Kinds.mono _ _)
      | (with_reducible exact LeO.refl _)
      | (with_reducible exact LeO.none _)
      | (with_reducible refine LeO.ite ?_ ?_)
      | (with_reducible refine LeO.bind ?_ (fun _ => ?_))
      | exact ih0 _ _ _ _
      | exact linkhouseref7_Kinds.mono _ _
      | exact LeO.none _
      | refine LeO.ite ?_ ?_
      | refine LeO.bind ?_ (fun _ => ?_)
set_option maxHeartbeats 8000000 in
set_option maxRecDepth 100000 in
theorem linkhouseref7_InsFault.calls (k : Nat) (a0_0 : Int) (A0_1 : Option Addr) (c0_1 : Nat) (l0_1 : List Int) (r1 : Int) (r2 : Int) (w : World) (hr0_1 : Kd.C (Kd.int .i64) w A0_1 l0_1.length l0_1) (hc0_1 : l0_1.length ≤ c0_1) (h : linkhouseref7_InsFault.f k a0_0 l0_1 = some (r1, r2)) :
    Calls Try.prog 12 #[.agg #[.int .i64 a0_0, .slice A0_1 l0_1.length c0_1]] w fun e w' => e = .returned (.agg #[.int .i64 r1, .int .i64 r2]) ∧ Below w.heap.size w w' := by
  have hu24 := Try.underlying24
  have hu28 := Try.underlying28
  have HR0_1 := Aside0.mk hr0_1
  have HC0_1 := Aside0.mk hc0_1
  clear hr0_1 hc0_1
  have HB := Aside0.mk (Below.refl w.heap.size w)
  have H : ((linkhouseref7_In.f a0_0 0 58).bind fun t204 => (if t204 = true then ((linkhouseref7_Kinds.f k a0_0).bind fun t207 => (if (l0_1.length : Int) = (t207.size : Int) then (linkhouseref7_InsFault.l0 k t207 0 a0_0 l0_1) else ((linkhouseref7_At.f 9 (-3)).bind fun bt208 => (some (bt208.1, bt208.2))))) else ((linkhouseref7_At.f 3 (-2)).bind fun bt205 => (some (bt205.1, bt205.2))))) = some (r1, r2) := h
  clear h
  replace H := Option.bind_eq_some_iff.mp H
  obtain ⟨t204, A20, H⟩ := H
  replace H : (if t204 = true then ((linkhouseref7_Kinds.f k a0_0).bind fun t207 => (if (l0_1.length : Int) = (t207.size : Int) then (linkhouseref7_InsFault.l0 k t207 0 a0_0 l0_1) else ((linkhouseref7_At.f 9 (-3)).bind fun bt208 => (some (bt208.1, bt208.2))))) else ((linkhouseref7_At.f 3 (-2)).bind fun bt205 => (some (bt205.1, bt205.2)))) = some (r1, r2) := H
  have A2 := Aside0.mk A20
  clear A20
  by_cases c3 : t204 = true
  · subst c3
    have H1 : ((linkhouseref7_Kinds.f k a0_0).bind fun t207 => (if (l0_1.length : Int) = (t207.size : Int) then (linkhouseref7_InsFault.l0 k t207 0 a0_0 l0_1) else ((linkhouseref7_At.f 9 (-3)).bind fun bt208 => (some (bt208.1, bt208.2))))) = some (r1, r2) := by rw [if_pos rfl] at H; exact H
    clear H
    have H := H1
    clear H1
    replace H := Option.bind_eq_some_iff.mp H
    obtain ⟨t207, A40, H⟩ := H
    replace H : (if (l0_1.length : Int) = (t207.size : Int) then (linkhouseref7_InsFault.l0 k t207 0 a0_0 l0_1) else ((linkhouseref7_At.f 9 (-3)).bind fun bt208 => (some (bt208.1, bt208.2)))) = some (r1, r2) := H
    have A4 := Aside0.mk A40
    clear A40
    by_cases c5 : (l0_1.length : Int) = (t207.size : Int)
    · rw [if_pos c5] at H
      have c5b0 : ((l0_1.length : Int) == (t207.size : Int)) = true := beq_iff_eq.mpr c5
      have c5b1 : ((l0_1.length : Int) != (t207.size : Int)) = false := bne_eq_false_iff_eq.mpr c5
      have c5b2 : (l0_1.length == t207.size) = true := by first | simpa using c5 | (simp at c5 ⊢; omega)
      clear c5
      have H' := Aside0.mk H
      clear H
      go_enter Try.func12, Try.ntmps12
      go_wp2_with (first | ((with_reducible refine gate_dst (N := 1) rfl ?_); refine bx_ (N := 1) (cs := #[.int .i64 a0_0, .slice A0_1 l0_1.length c0_1]) (t := 24) ?_; intro gb202 hg w6 hbox hb; have BK202 := Aside0.mk hbox; have GW202 := bs_ HB hg; have GE202 := bs_ HB hg; replace HB := hs_ HB hb; clear hb hbox hg) | ((with_reducible refine gate_dst (N := 2) rfl ?_); refine bx_ (N := 2) (cs := #[.int .i64 0, .int .i64 0]) (t := 28) ?_; intro gb203 hg w7 hbox hb; have BK203 := Aside0.mk hbox; have GW203 := bs_ HB hg; have GE203 := bs_ HB hg; have NB202_203 := nl_ BK202 hg; have NB203_202 := ng_ BK202 hg; replace BK202 := bb_ BK202 hb; replace HB := hs_ HB hb; clear hb hbox hg; have hnb8 := NB202_203.out; have hnc8 := NB203_202.out; obtain ⟨hcz9_0, hcz9_1, hfz9_0, hfz9_1⟩ := cz2_ BK202) | ((with_reducible refine gate_callee (f := 16) rfl ?_); refine goesL_ (some 9) rfl rfl Try.func16 (by kernel_rfl) rfl #[.int .i64 a0_0, .int .i64 0, .int .i64 58] rfl ar_ ?_; (with_reducible refine (linkhouseref7_In.calls a0_0 0 58 true _ A2.out).mono ?_); rintro e w' ⟨rfl, ⟨nd, rfl⟩⟩; refine ⟨_, rfl, ?_⟩) | ((with_reducible refine gate_callee (f := 36) rfl ?_); refine goesL_ (some 14) rfl rfl Try.func36 (by kernel_rfl) rfl #[.int .i64 a0_0] rfl ar_ ?_; (with_reducible refine (linkhouseref7_Kinds.calls k a0_0 t207 _ A4.out).mono ?_); rintro e w' ⟨rfl, ⟨nd, rfl⟩⟩; refine ⟨_, rfl, ?_⟩))
      go_loopg [4] k (fun kq v4 w' => ∃ (x4_1 : Int) (x204000_1 : Int) (x204001_1 : Int), v4 = .int .i64 x4_1 ∧ Aside0 (linkhouseref7_InsFault.l0 kq t207 x4_1 a0_0 l0_1 = some (r1, r2)) ∧ Aside0 (kq ≤ k) ∧ Aside0 (w'.heap[gb202]? = some (.cells #[.int .i64 a0_0, (.slice A0_1 l0_1.length c0_1)] 24 (0, 0))) ∧ Aside0 (w'.heap[gb203]? = some (.cells #[.int .i64 x204000_1, .int .i64 x204001_1] 28 (0, 0))) ∧ Aside0 (Below w.heap.size w w'))
      case atStart => exact ⟨(0), (0), (0), rs_, H', ⟨Nat.le_refl _⟩, ⟨bk_ BK202⟩, ⟨bk_ BK203⟩, ⟨bw_ HB⟩⟩
      case round =>
        clear H'
        (try clear c1); (try clear p2); (try clear c3); (try clear c5); (try clear c5b0); (try clear c5b1); (try clear c5b2); (try clear c8); (try clear hcz9_0); (try clear hcz9_1); (try clear hfz9_0); (try clear hfz9_1)
        obtain ⟨x4_1, x204000_1, x204001_1, rfl, HA, HK1, BK202, BK203, HB⟩ := hrel
        cases gk with
        | zero => exact absurd HA.out (by simp [linkhouseref7_InsFault.l0])
        | succ k1 =>
          have H := HA.out
          clear HA
          simp only [linkhouseref7_InsFault.l0] at H
          by_cases c10 : x4_1 < (t207.size : Int)
          · rw [if_pos c10] at H
            have c10b0 : decide (x4_1 < (t207.size : Int)) = true := decide_eq_true c10
            clear c10
            by_cases c11 : 0 ≤ x4_1
            · rw [if_pos c11] at H
              have c11b0 : decide (0 ≤ x4_1) = true := decide_eq_true c11
              clear c11
              replace H := Option.bind_eq_some_iff.mp H
              obtain ⟨⟨t210, t211⟩, A130, H⟩ := H
              replace H : (if x4_1 < (l0_1.length : Int) then ((linkhouseref7_In.f (rd l0_1 x4_1) t210 t211).bind fun t213 => (if t213 = true then (linkhouseref7_InsFault.l0 k1 t207 (wrap64 (x4_1 + 1)) a0_0 l0_1) else ((linkhouseref7_At.f 3 x4_1).bind fun bt214 => (some (bt214.1, bt214.2))))) else (none)) = some (r1, r2) := H
              have A13 := Aside0.mk A130
              clear A130
              by_cases c14 : x4_1 < (l0_1.length : Int)
              · rw [if_pos c14] at H
                have c14b0 : decide (x4_1 < (l0_1.length : Int)) = true := decide_eq_true c14
                clear c14
                replace H := Option.bind_eq_some_iff.mp H
                obtain ⟨t213, A150, H⟩ := H
                replace H : (if t213 = true then (linkhouseref7_InsFault.l0 k1 t207 (wrap64 (x4_1 + 1)) a0_0 l0_1) else ((linkhouseref7_At.f 3 x4_1).bind fun bt214 => (some (bt214.1, bt214.2)))) = some (r1, r2) := H
                have A15 := Aside0.mk A150
                clear A150
                by_cases c16 : t213 = true
                · subst c16
                  have H1 : (linkhouseref7_InsFault.l0 k1 t207 (wrap64 (x4_1 + 1)) a0_0 l0_1) = some (r1, r2) := by rw [if_pos rfl] at H; exact H
                  clear H
                  have H := H1
                  clear H1
                  have H' := Aside0.mk H
                  clear H
                  have p12 : 0 ≤ (x4_1 : Int) := of_decide_eq_true (by first | (with_reducible assumption) | assumption)
                  have q12 : x4_1 < (t207.size : Int) := of_decide_eq_true (by first | (with_reducible assumption) | assumption)
                  have hx12 := bt_at t207 x4_1
                  replace p12 := eq_true p12
                  replace q12 := eq_true q12
                  go_wp2_with (first | ((with_reducible refine gate_callee (f := 37) rfl ?_); refine goesL_ (some 32) rfl rfl Try.func37 (by kernel_rfl) rfl #[.int .u8 (bt t207 x4_1)] rfl ar_ ?_; (with_reducible refine (linkhouseref7_KindRange.calls (bt t207 x4_1) t210 t211 _ A13.out).mono ?_); rintro e w' ⟨rfl, ⟨nd, rfl⟩⟩; refine ⟨_, rfl, ?_⟩; have hnb17 := NB202_203.out; have hnc17 := NB203_202.out; obtain ⟨hcz18_0, hcz18_1, hfz18_0, hfz18_1⟩ := cz2_ BK202; have p212 : 0 ≤ (x4_1 : Int) := of_decide_eq_true (by first | (with_reducible assumption) | assumption); have q212 : x4_1 < (l0_1.length : Int) := of_decide_eq_true (by first | (with_reducible assumption) | assumption); obtain ⟨ad212, e212, hx212_0⟩ := Kd.at_int HR0_1.out x4_1 p212 q212; cases e212; replace hx212_0 := (HB.out.cell (World.block_lt_of_cell? w _ hx212_0)).trans hx212_0; replace p212 := eq_true p212; replace q212 := eq_true q212) | ((with_reducible refine gate_callee (f := 16) rfl ?_); refine goesL_ (some 42) rfl rfl Try.func16 (by kernel_rfl) rfl #[.int .i64 (rd l0_1 x4_1), .int .i64 t210, .int .i64 t211] rfl ar_ ?_; (with_reducible refine (linkhouseref7_In.calls (rd l0_1 x4_1) t210 t211 true _ A15.out).mono ?_); rintro e w' ⟨rfl, ⟨nd, rfl⟩⟩; refine ⟨_, rfl, ?_⟩))
                  go_roundg k1
                  case measure => have := HK1.out; omega
                  case rel => exact ⟨(wrap64 (x4_1 + 1)), (x204000_1), (x204001_1), rs_, H', ⟨by have := HK1.out; omega⟩, ⟨bk_ BK202⟩, ⟨bk_ BK203⟩, ⟨bw_ HB⟩⟩
                · replace c16 := Bool.eq_false_iff.mpr c16
                  subst c16
                  have H1 : ((linkhouseref7_At.f 3 x4_1).bind fun bt214 => (some (bt214.1, bt214.2))) = some (r1, r2) := by rw [if_neg (show ¬ (false = true) by decide)] at H; exact H
                  clear H
                  have H := H1
                  clear H1
                  replace H := Option.bind_eq_some_iff.mp H
                  obtain ⟨⟨t214, t215⟩, A190, H⟩ := H
                  replace H : (some (t214, t215)) = some (r1, r2) := H
                  have A19 := Aside0.mk A190
                  clear A190
                  simp only [Option.some.injEq, Prod.mk.injEq] at H
                  obtain ⟨rfl, rfl⟩ := H
                  have p12 : 0 ≤ (x4_1 : Int) := of_decide_eq_true (by first | (with_reducible assumption) | assumption)
                  have q12 : x4_1 < (t207.size : Int) := of_decide_eq_true (by first | (with_reducible assumption) | assumption)
                  have hx12 := bt_at t207 x4_1
                  replace p12 := eq_true p12
                  replace q12 := eq_true q12
                  go_wp2_with (first | ((with_reducible refine gate_callee (f := 37) rfl ?_); refine goesL_ (some 32) rfl rfl Try.func37 (by kernel_rfl) rfl #[.int .u8 (bt t207 x4_1)] rfl ar_ ?_; (with_reducible refine (linkhouseref7_KindRange.calls (bt t207 x4_1) t210 t211 _ A13.out).mono ?_); rintro e w' ⟨rfl, ⟨nd, rfl⟩⟩; refine ⟨_, rfl, ?_⟩; (try (rw [drewN_self wr]; generalize hq_ : World.drewN wr _ = wr; have n0_ : Aside0 (wr.heap[gb202]? = some (.cells #[.int .i64 a0_0, .slice A0_1 l0_1.length c0_1] 24 (0, 0))) := ⟨by rw [← hq_]; exact (bk_ BK202)⟩; have n1_ : Aside0 (wr.heap[gb203]? = some (.cells #[.int .i64 x204000_1, .int .i64 x204001_1] 28 (0, 0))) := ⟨by rw [← hq_]; exact (bk_ BK203)⟩; have n2_ : Aside0 (Below w.heap.size w wr) := ⟨by rw [← hq_]; exact (bw_ HB)⟩; clear BK202 BK203 HB hq_; have BK202 := n0_; have BK203 := n1_; have HB := n2_; clear n0_ n1_ n2_)); have hnb20 := NB202_203.out; have hnc20 := NB203_202.out; obtain ⟨hcz21_0, hcz21_1, hfz21_0, hfz21_1⟩ := cz2_ BK202; have p212 : 0 ≤ (x4_1 : Int) := of_decide_eq_true (by first | (with_reducible assumption) | assumption); have q212 : x4_1 < (l0_1.length : Int) := of_decide_eq_true (by first | (with_reducible assumption) | assumption); obtain ⟨ad212, e212, hx212_0⟩ := Kd.at_int HR0_1.out x4_1 p212 q212; cases e212; replace hx212_0 := (HB.out.cell (World.block_lt_of_cell? w _ hx212_0)).trans hx212_0; replace p212 := eq_true p212; replace q212 := eq_true q212) | ((with_reducible refine gate_callee (f := 16) rfl ?_); refine goesL_ (some 42) rfl rfl Try.func16 (by kernel_rfl) rfl #[.int .i64 (rd l0_1 x4_1), .int .i64 t210, .int .i64 t211] rfl ar_ ?_; (with_reducible refine (linkhouseref7_In.calls (rd l0_1 x4_1) t210 t211 false _ A15.out).mono ?_); rintro e w' ⟨rfl, ⟨nd, rfl⟩⟩; refine ⟨_, rfl, ?_⟩; (try (rw [drewN_self wr]; generalize hq_ : World.drewN wr _ = wr; have n0_ : Aside0 (wr.heap[gb202]? = some (.cells #[.int .i64 a0_0, .slice (some ad212) l0_1.length c0_1] 24 (0, 0))) := ⟨by rw [← hq_]; exact (bk_ BK202)⟩; have n1_ : Aside0 (wr.heap[gb203]? = some (.cells #[.int .i64 x204000_1, .int .i64 x204001_1] 28 (0, 0))) := ⟨by rw [← hq_]; exact (bk_ BK203)⟩; have n2_ : Aside0 (Below w.heap.size w wr) := ⟨by rw [← hq_]; exact (bw_ HB)⟩; clear BK202 BK203 HB hq_; have BK202 := n0_; have BK203 := n1_; have HB := n2_; clear n0_ n1_ n2_))) | ((with_reducible refine gate_callee (f := 17) rfl ?_); refine goesL_ (some 45) rfl rfl Try.func17 (by kernel_rfl) rfl #[.int .i64 3, .int .i64 x4_1] rfl ar_ ?_; (with_reducible refine (linkhouseref7_At.calls 3 x4_1 t214 t215 _ A19.out).mono ?_); rintro e w22 ⟨rfl, hb⟩; refine ⟨_, rfl, ?_⟩; replace BK202 := bb_ BK202 hb; replace BK203 := bb_ BK203 hb; replace HB := hs_ HB hb; (try clear hb); (try clear hb2); (try clear hk); (try clear hi); obtain ⟨hcz23_0, hcz23_1, hfz23_0, hfz23_1⟩ := cz2_ BK203))
                  refine bodyPost_ret (results_cell_row rfl _ _ gb203 28 #[.int .i64 t214, .int .i64 t215] (0, 0) _ rfl (bk_ BK203) Try.underlying28 rfl (by kernel_rfl)) rfl ?_
                  exact ⟨id_, bw_ HB⟩
              · rw [if_neg c14] at H
                exact absurd H (by simp)
            · rw [if_neg c11] at H
              exact absurd H (by simp)
          · rw [if_neg c10] at H
            have c10b0 : decide (x4_1 < (t207.size : Int)) = false := decide_eq_false c10
            clear c10
            simp only [Option.some.injEq, Prod.mk.injEq] at H
            obtain ⟨rfl, rfl⟩ := H
            have hnb24 := NB203_202.out
            have hnc24 := NB202_203.out
            obtain ⟨hcz25_0, hcz25_1, hfz25_0, hfz25_1⟩ := cz2_ BK203
            go_wp2
            refine bodyPost_ret (results_cell_row rfl _ _ gb203 28 #[.int .i64 0, .int .i64 0] (0, 0) _ rfl (bk_ BK203) Try.underlying28 rfl (by kernel_rfl)) rfl ?_
            exact ⟨id_, bw_ HB⟩
    · rw [if_neg c5] at H
      have c5b0 : ((l0_1.length : Int) == (t207.size : Int)) = false := beq_eq_false_iff_ne.mpr c5
      have c5b1 : ((l0_1.length : Int) != (t207.size : Int)) = true := bne_iff_ne.mpr c5
      have c5b2 : (l0_1.length == t207.size) = false := by first | simpa using c5 | (simp at c5 ⊢; omega)
      replace H := Option.bind_eq_some_iff.mp H
      obtain ⟨⟨t208, t209⟩, A260, H⟩ := H
      replace H : (some (t208, t209)) = some (r1, r2) := H
      have A26 := Aside0.mk A260
      clear A260
      simp only [Option.some.injEq, Prod.mk.injEq] at H
      obtain ⟨rfl, rfl⟩ := H
      go_enter Try.func12, Try.ntmps12
      go_wp2_with (first | ((with_reducible refine gate_dst (N := 1) rfl ?_); refine bx_ (N := 1) (cs := #[.int .i64 a0_0, .slice A0_1 l0_1.length c0_1]) (t := 24) ?_; intro gb202 hg w27 hbox hb; have BK202 := Aside0.mk hbox; have GW202 := bs_ HB hg; have GE202 := bs_ HB hg; replace HB := hs_ HB hb; clear hb hbox hg) | ((with_reducible refine gate_dst (N := 2) rfl ?_); refine bx_ (N := 2) (cs := #[.int .i64 0, .int .i64 0]) (t := 28) ?_; intro gb203 hg w28 hbox hb; have BK203 := Aside0.mk hbox; have GW203 := bs_ HB hg; have GE203 := bs_ HB hg; have NB202_203 := nl_ BK202 hg; have NB203_202 := ng_ BK202 hg; replace BK202 := bb_ BK202 hb; replace HB := hs_ HB hb; clear hb hbox hg; have hnb29 := NB202_203.out; have hnc29 := NB203_202.out; obtain ⟨hcz30_0, hcz30_1, hfz30_0, hfz30_1⟩ := cz2_ BK202) | ((with_reducible refine gate_callee (f := 16) rfl ?_); refine goesL_ (some 9) rfl rfl Try.func16 (by kernel_rfl) rfl #[.int .i64 a0_0, .int .i64 0, .int .i64 58] rfl ar_ ?_; (with_reducible refine (linkhouseref7_In.calls a0_0 0 58 true _ A2.out).mono ?_); rintro e w' ⟨rfl, ⟨nd, rfl⟩⟩; refine ⟨_, rfl, ?_⟩; (try (rw [drewN_self w28]; generalize hq_ : World.drewN w28 _ = w28; have n0_ : Aside0 (w28.heap[gb202]? = some (.cells #[.int .i64 a0_0, .slice A0_1 l0_1.length c0_1] 24 (0, 0))) := ⟨by rw [← hq_]; exact (bk_ BK202)⟩; have n1_ : Aside0 (w28.heap[gb203]? = some (.cells #[.int .i64 0, .int .i64 0] 28 (0, 0))) := ⟨by rw [← hq_]; exact (bk_ BK203)⟩; have n2_ : Aside0 (Below w.heap.size w w28) := ⟨by rw [← hq_]; exact (bw_ HB)⟩; clear BK202 BK203 HB hq_; have BK202 := n0_; have BK203 := n1_; have HB := n2_; clear n0_ n1_ n2_)); obtain ⟨hcz31_0, hcz31_1, hfz31_0, hfz31_1⟩ := cz2_ BK202) | ((with_reducible refine gate_callee (f := 36) rfl ?_); refine goesL_ (some 14) rfl rfl Try.func36 (by kernel_rfl) rfl #[.int .i64 a0_0] rfl ar_ ?_; (with_reducible refine (linkhouseref7_Kinds.calls k a0_0 t207 _ A4.out).mono ?_); rintro e w' ⟨rfl, ⟨nd, rfl⟩⟩; refine ⟨_, rfl, ?_⟩; (try (rw [drewN_self w28]; generalize hq_ : World.drewN w28 _ = w28; have n0_ : Aside0 (w28.heap[gb202]? = some (.cells #[.int .i64 a0_0, .slice A0_1 l0_1.length c0_1] 24 (0, 0))) := ⟨by rw [← hq_]; exact (bk_ BK202)⟩; have n1_ : Aside0 (w28.heap[gb203]? = some (.cells #[.int .i64 0, .int .i64 0] 28 (0, 0))) := ⟨by rw [← hq_]; exact (bk_ BK203)⟩; have n2_ : Aside0 (Below w.heap.size w w28) := ⟨by rw [← hq_]; exact (bw_ HB)⟩; clear BK202 BK203 HB hq_; have BK202 := n0_; have BK203 := n1_; have HB := n2_; clear n0_ n1_ n2_)); obtain ⟨hcz32_0, hcz32_1, hfz32_0, hfz32_1⟩ := cz2_ BK202) | ((with_reducible refine gate_callee (f := 17) rfl ?_); refine goesL_ (some 21) rfl rfl Try.func17 (by kernel_rfl) rfl #[.int .i64 9, .int .i64 (-3)] rfl ar_ ?_; (with_reducible refine (linkhouseref7_At.calls 9 (-3) t208 t209 _ A26.out).mono ?_); rintro e w33 ⟨rfl, hb⟩; refine ⟨_, rfl, ?_⟩; replace BK202 := bb_ BK202 hb; replace BK203 := bb_ BK203 hb; replace HB := hs_ HB hb; (try clear hb); (try clear hb2); (try clear hk); (try clear hi); obtain ⟨hcz34_0, hcz34_1, hfz34_0, hfz34_1⟩ := cz2_ BK203))
      refine bodyPost_ret (results_cell_row rfl _ _ gb203 28 #[.int .i64 t208, .int .i64 t209] (0, 0) _ rfl (bk_ BK203) Try.underlying28 rfl (by kernel_rfl)) rfl ?_
      exact ⟨id_, bw_ HB⟩
  · replace c3 := Bool.eq_false_iff.mpr c3
    subst c3
    have H1 : ((linkhouseref7_At.f 3 (-2)).bind fun bt205 => (some (bt205.1, bt205.2))) = some (r1, r2) := by rw [if_neg (show ¬ (false = true) by decide)] at H; exact H
    clear H
    have H := H1
    clear H1
    replace H := Option.bind_eq_some_iff.mp H
    obtain ⟨⟨t205, t206⟩, A350, H⟩ := H
    replace H : (some (t205, t206)) = some (r1, r2) := H
    have A35 := Aside0.mk A350
    clear A350
    simp only [Option.some.injEq, Prod.mk.injEq] at H
    obtain ⟨rfl, rfl⟩ := H
    go_enter Try.func12, Try.ntmps12
    go_wp2_with (first | ((with_reducible refine gate_dst (N := 1) rfl ?_); refine bx_ (N := 1) (cs := #[.int .i64 a0_0, .slice A0_1 l0_1.length c0_1]) (t := 24) ?_; intro gb202 hg w36 hbox hb; have BK202 := Aside0.mk hbox; have GW202 := bs_ HB hg; have GE202 := bs_ HB hg; replace HB := hs_ HB hb; clear hb hbox hg) | ((with_reducible refine gate_dst (N := 2) rfl ?_); refine bx_ (N := 2) (cs := #[.int .i64 0, .int .i64 0]) (t := 28) ?_; intro gb203 hg w37 hbox hb; have BK203 := Aside0.mk hbox; have GW203 := bs_ HB hg; have GE203 := bs_ HB hg; have NB202_203 := nl_ BK202 hg; have NB203_202 := ng_ BK202 hg; replace BK202 := bb_ BK202 hb; replace HB := hs_ HB hb; clear hb hbox hg; have hnb38 := NB202_203.out; have hnc38 := NB203_202.out; obtain ⟨hcz39_0, hcz39_1, hfz39_0, hfz39_1⟩ := cz2_ BK202) | ((with_reducible refine gate_callee (f := 16) rfl ?_); refine goesL_ (some 9) rfl rfl Try.func16 (by kernel_rfl) rfl #[.int .i64 a0_0, .int .i64 0, .int .i64 58] rfl ar_ ?_; (with_reducible refine (linkhouseref7_In.calls a0_0 0 58 false _ A2.out).mono ?_); rintro e w' ⟨rfl, ⟨nd, rfl⟩⟩; refine ⟨_, rfl, ?_⟩; (try (rw [drewN_self w37]; generalize hq_ : World.drewN w37 _ = w37; have n0_ : Aside0 (w37.heap[gb202]? = some (.cells #[.int .i64 a0_0, .slice A0_1 l0_1.length c0_1] 24 (0, 0))) := ⟨by rw [← hq_]; exact (bk_ BK202)⟩; have n1_ : Aside0 (w37.heap[gb203]? = some (.cells #[.int .i64 0, .int .i64 0] 28 (0, 0))) := ⟨by rw [← hq_]; exact (bk_ BK203)⟩; have n2_ : Aside0 (Below w.heap.size w w37) := ⟨by rw [← hq_]; exact (bw_ HB)⟩; clear BK202 BK203 HB hq_; have BK202 := n0_; have BK203 := n1_; have HB := n2_; clear n0_ n1_ n2_))) | ((with_reducible refine gate_callee (f := 17) rfl ?_); refine goesL_ (some 11) rfl rfl Try.func17 (by kernel_rfl) rfl #[.int .i64 3, .int .i64 (-2)] rfl ar_ ?_; (with_reducible refine (linkhouseref7_At.calls 3 (-2) t205 t206 _ A35.out).mono ?_); rintro e w40 ⟨rfl, hb⟩; refine ⟨_, rfl, ?_⟩; replace BK202 := bb_ BK202 hb; replace BK203 := bb_ BK203 hb; replace HB := hs_ HB hb; (try clear hb); (try clear hb2); (try clear hk); (try clear hi); obtain ⟨hcz41_0, hcz41_1, hfz41_0, hfz41_1⟩ := cz2_ BK203))
    refine bodyPost_ret (results_cell_row rfl _ _ gb203 28 #[.int .i64 t205, .int .i64 t206] (0, 0) _ rfl (bk_ BK203) Try.underlying28 rfl (by kernel_rfl)) rfl ?_
    exact ⟨id_, bw_ HB⟩

end Go.Proofs.Ytaellapacoikaaa.PA
