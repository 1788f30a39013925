import Derived.Test.YtaellapacoikaaaN0
import Derived.Test.YtaellapacoikaaaNSBx0
import Derived.Test.YtaellapacoikaaaNSBx4
import Derived.Test.YtaellapacoikaaaNSBx6
namespace Go.Proofs.Ytaellapacoikaaa.PB
open Go.RowKit Go.Proofs.YtaellapacoikaaaW.PrintWords Go.Proofs.YtaellapacoikaaaW.PrintLast Go.Proofs.YtaellapacoikaaaW.PrintMore
attribute [local go_sem] max2_int min2_int max_two min_two max_three min_three max_four min_four   -- for this text's walks alone
set_option linter.unusedVariables false
set_option linter.unusedSimpArgs false

/-! ### linkhouseref7_SameLoops: function 25 -/
set_option maxRecDepth 100000 in
def linkhouseref7_SameLoops.l0 : Nat → List (S68) → List (S68) → Int → Option (Bool)
 | 0, _, _, _ => none
 | k + 1, x0, x1, x5 => if x5 < (x0.length : Int) then (if 0 ≤ x5 then (if x5 < (x1.length : Int) then (if ((rd_T68 x0 x5).f0) = ((rd_T68 x1 x5).f0) then ((linkhouseref7_SameInts.f k ((rd_T68 x0 x5).f1) ((rd_T68 x1 x5).f1)).bind fun t219 => (if t219 = true then (linkhouseref7_SameLoops.l0 k x0 x1 (wrap64 (x5 + 1))) else (some false))) else (some false)) else (none)) else (none)) else (some true)
set_option maxRecDepth 100000 in
def linkhouseref7_SameLoops.f (k : Nat) (l0 : List (S68)) (l1 : List (S68)) : Option (Bool) := if (l0.length : Int) = (l1.length : Int) then (linkhouseref7_SameLoops.l0 k l0 l1 0) else (some false)
set_option maxRecDepth 100000 in
theorem linkhouseref7_SameLoops.mono_l : ∀ k, (∀ y0 y1 y2, LeO (linkhouseref7_SameLoops.l0 k y0 y1 y2) (linkhouseref7_SameLoops.l0 (k + 1) y0 y1 y2))
 | 0 => fun _ _ _ r h => by simp [linkhouseref7_SameLoops.l0] at h
 | k + 1 => by
  have ih0 := linkhouseref7_SameLoops.mono_l k
  ·
   intro y0 y1 y2
   unfold linkhouseref7_SameLoops.l0
   repeat' first
   | (with_reducible exact ih0 _ _ _)
   | (with_reducible exact linkhouseref7_SameInts.mono _ _ _)
   | (with_reducible exact LeO.refl _)
   | (with_reducible exact LeO.none _)
   | (with_reducible refine LeO.ite ?_ ?_)
   | (with_reducible refine LeO.bind ?_ (fun _ => ?_))
   | exact ih0 _ _ _
   | exact linkhouseref7_SameInts.mono _ _ _
   | exact LeO.none _
   | refine LeO.ite ?_ ?_
   | refine LeO.bind ?_ (fun _ => ?_)
set_option maxRecDepth 100000 in
theorem linkhouseref7_SameLoops.mono : ∀ a0 a1 k, LeO (linkhouseref7_SameLoops.f k a0 a1) (linkhouseref7_SameLoops.f (k + 1) a0 a1) := by
 intro a0 a1 k
 have ih0 := linkhouseref7_SameLoops.mono_l k
 unfold linkhouseref7_SameLoops.f
 repeat' first
   | (with_reducible exact ih0 _ _ _)
   | (with_reducible exact linkhouseref7_SameInts.mono _ _ _)
   | (with_reducible exact LeO.refl _)
   | (with_reducible exact LeO.none _)
   | (with_reducible refine LeO.ite ?_ ?_)
   | (with_reducible refine LeO.bind ?_ (fun _ => ?_))
   | exact ih0 _ _ _
   | exact linkhouseref7_SameInts.mono _ _ _
   | exact LeO.none _
   | refine LeO.ite ?_ ?_
   | refine LeO.bind ?_ (fun _ => ?_)
set_option maxHeartbeats 8000000 in
set_option maxRecDepth 100000 in
theorem linkhouseref7_SameLoops.calls (k : Nat) (A0 : Option Addr) (c0 : Nat) (l0 : List (S68)) (A1 : Option Addr) (c1 : Nat) (l1 : List (S68)) (r : Bool) (w : World) (hr0 : Kd.C k68 w A0 l0.length l0) (hc0 : l0.length ≤ c0) (hr1 : Kd.C k68 w A1 l1.length l1) (hc1 : l1.length ≤ c1) (h : linkhouseref7_SameLoops.f k l0 l1 = some r) :
  Calls Try.prog 25 #[.slice A0 l0.length c0, .slice A1 l1.length c1] w fun e w' => e = .returned (.bool r) ∧ Drawn0 w w' := by
 have HR0 := Aside0.mk hr0
 have HC0 := Aside0.mk hc0
 clear hr0 hc0
 have HR1 := Aside0.mk hr1
 have HC1 := Aside0.mk hc1
 clear hr1 hc1
 have H : (if (l0.length : Int) = (l1.length : Int) then (linkhouseref7_SameLoops.l0 k l0 l1 0) else (some false)) = some r := h
 clear h
 by_cases c3 : (l0.length : Int) = (l1.length : Int)
 ·
  rw [if_pos c3] at H
  have c3b0 : ((l0.length : Int) == (l1.length : Int)) = true := beq_iff_eq.mpr c3
  have c3b1 : ((l0.length : Int) != (l1.length : Int)) = false := bne_eq_false_iff_eq.mpr c3
  have c3b2 : (l0.length == l1.length) = true := by first | simpa using c3 | (simp at c3 ⊢; omega)
  clear c3
  have H' := Aside0.mk H
  clear H
  go_enter Try.func25, Try.ntmps25
  go_wp2
  repeat (go_quiet (fail); try go_wp2)
  go_loopg [5] k (fun kq v5 w' => ∃ (x5_1 : Int), v5 = .int .i64 x5_1 ∧ Aside0 (linkhouseref7_SameLoops.l0 kq l0 l1 x5_1 = some r) ∧ Aside0 (kq ≤ k) ∧ Drawn0 w w')
  case atStart => exact ⟨(0), rs_, H', ⟨Nat.le_refl _⟩, by repeat (first | exact Drawn0.refl _ | apply Drawn0.step)⟩
  case round =>
   clear H'
   (try clear c1); (try clear c2); (try clear p2); (try clear c3); (try clear c3b0); (try clear c3b1); (try clear c3b2)
   obtain ⟨x5_1, rfl, HA, HK1, ⟨m1, rfl⟩⟩ := hrel
   cases gk with
   | zero => exact absurd HA.out (by simp [linkhouseref7_SameLoops.l0])
   | succ k1 =>
    have H := HA.out
    clear HA
    simp only [linkhouseref7_SameLoops.l0] at H
    by_cases c4 : x5_1 < (l0.length : Int)
    ·
     rw [if_pos c4] at H
     have c4b0 : decide (x5_1 < (l0.length : Int)) = true := decide_eq_true c4
     clear c4
     by_cases c5 : 0 ≤ x5_1
     ·
      rw [if_pos c5] at H
      have c5b0 : decide (0 ≤ x5_1) = true := decide_eq_true c5
      clear c5
      by_cases c6 : x5_1 < (l1.length : Int)
      ·
       rw [if_pos c6] at H
       have c6b0 : decide (x5_1 < (l1.length : Int)) = true := decide_eq_true c6
       clear c6
       by_cases c7 : ((rd_T68 l0 x5_1).f0) = ((rd_T68 l1 x5_1).f0)
       ·
        rw [if_pos c7] at H
        have c7b0 : (((rd_T68 l0 x5_1).f0) == ((rd_T68 l1 x5_1).f0)) = true := beq_iff_eq.mpr c7
        have c7b1 : (((rd_T68 l0 x5_1).f0) != ((rd_T68 l1 x5_1).f0)) = false := bne_eq_false_iff_eq.mpr c7
        clear c7
        replace H := Option.bind_eq_some_iff.mp H
        obtain ⟨t219, A80, H⟩ := H
        replace H : (if t219 = true then (linkhouseref7_SameLoops.l0 k1 l0 l1 (wrap64 (x5_1 + 1))) else (some false)) = some r := H
        have A8 := Aside0.mk A80
        clear A80
        by_cases c9 : t219 = true
        ·
         subst c9
         have H1 : (linkhouseref7_SameLoops.l0 k1 l0 l1 (wrap64 (x5_1 + 1))) = some r := by rw [if_pos rfl] at H; exact H
         clear H
         have H := H1
         clear H1
         have H' := Aside0.mk H
         clear H
         have p215 : 0 ≤ (x5_1 : Int) := of_decide_eq_true (by first | (with_reducible assumption) | assumption)
         have q215 : x5_1 < (l0.length : Int) := of_decide_eq_true (by first | (with_reducible assumption) | assumption)
         obtain ⟨ad215, A215_1, c215_1, e215, hx215_0, hx215_1, hl215_1, hi215_1⟩ := at_T68 HR0.out x5_1 p215 q215
         cases e215
         have HR215_1 := Aside0.mk hi215_1
         have HC215_1 := Aside0.mk hl215_1
         clear hi215_1 hl215_1
         replace p215 := eq_true p215
         replace q215 := eq_true q215
         have p216 : 0 ≤ (x5_1 : Int) := of_decide_eq_true (by first | (with_reducible assumption) | assumption)
         have q216 : x5_1 < (l1.length : Int) := of_decide_eq_true (by first | (with_reducible assumption) | assumption)
         obtain ⟨ad216, A216_1, c216_1, e216, hx216_0, hx216_1, hl216_1, hi216_1⟩ := at_T68 HR1.out x5_1 p216 q216
         cases e216
         have HR216_1 := Aside0.mk hi216_1
         have HC216_1 := Aside0.mk hl216_1
         clear hi216_1 hl216_1
         replace p216 := eq_true p216
         replace q216 := eq_true q216
         have p217 : 0 ≤ (x5_1 : Int) := of_decide_eq_true (by first | (with_reducible assumption) | assumption)
         have q217 : x5_1 < (l0.length : Int) := of_decide_eq_true (by first | (with_reducible assumption) | assumption)
         obtain ⟨ad217, A217_1, c217_1, e217, hx217_0, hx217_1, hl217_1, hi217_1⟩ := at_T68 HR0.out x5_1 p217 q217
         obtain rfl : ad215 = ad217 := (by injection e217)
         have HR217_1 := Aside0.mk hi217_1
         have HC217_1 := Aside0.mk hl217_1
         clear hi217_1 hl217_1
         replace p217 := eq_true p217
         replace q217 := eq_true q217
         have ea_ := Option.some.inj (hx215_1.symm.trans hx217_1)
         injection ea_ with ea_ en_ ec_
         subst ea_
         subst ec_
         clear en_
         have p218 : 0 ≤ (x5_1 : Int) := of_decide_eq_true (by first | (with_reducible assumption) | assumption)
         have q218 : x5_1 < (l1.length : Int) := of_decide_eq_true (by first | (with_reducible assumption) | assumption)
         obtain ⟨ad218, A218_1, c218_1, e218, hx218_0, hx218_1, hl218_1, hi218_1⟩ := at_T68 HR1.out x5_1 p218 q218
         obtain rfl : ad216 = ad218 := (by injection e218)
         have HR218_1 := Aside0.mk hi218_1
         have HC218_1 := Aside0.mk hl218_1
         clear hi218_1 hl218_1
         replace p218 := eq_true p218
         replace q218 := eq_true q218
         have ea_ := Option.some.inj (hx216_1.symm.trans hx218_1)
         injection ea_ with ea_ en_ ec_
         subst ea_
         subst ec_
         clear en_
         go_wp2_with (first | (go_at_call 23; (with_reducible refine (linkhouseref7_SameInts.calls k1 _ _ ((rd_T68 l0 x5_1).f1) _ _ ((rd_T68 l1 x5_1).f1) true _ ?side1 ?side2 ?side3 ?side4 A8.out).mono ?_); (case side1 => repeat (first | exact HR217_1.out | (with_reducible refine Kd.C_alloc ?_ _) | (with_reducible refine Kd.C_drewN ?_ _) | (with_reducible refine Kd.C_drew ?_))); (case side2 => exact HC217_1.out); (case side3 => repeat (first | exact HR218_1.out | (with_reducible refine Kd.C_alloc ?_ _) | (with_reducible refine Kd.C_drewN ?_ _) | (with_reducible refine Kd.C_drew ?_))); (case side4 => exact HC218_1.out); rintro e w' ⟨rfl, ⟨nd, rfl⟩⟩; (try first | exact ⟨rfl, _, World.drewN_drewN _ _ _⟩ | exact ⟨rfl, _, Eq.trans (World.drewN_drewN _ _ _) (congrArg (World.drewN _) (Nat.add_assoc _ _ _))⟩)))
         repeat (go_quiet (first | (go_at_call 23; (with_reducible refine (linkhouseref7_SameInts.calls k1 _ _ ((rd_T68 l0 x5_1).f1) _ _ ((rd_T68 l1 x5_1).f1) true _ ?side1 ?side2 ?side3 ?side4 A8.out).mono ?_); (case side1 => repeat (first | exact HR217_1.out | (with_reducible refine Kd.C_alloc ?_ _) | (with_reducible refine Kd.C_drewN ?_ _) | (with_reducible refine Kd.C_drew ?_))); (case side2 => exact HC217_1.out); (case side3 => repeat (first | exact HR218_1.out | (with_reducible refine Kd.C_alloc ?_ _) | (with_reducible refine Kd.C_drewN ?_ _) | (with_reducible refine Kd.C_drew ?_))); (case side4 => exact HC218_1.out); rintro e w' ⟨rfl, ⟨nd, rfl⟩⟩; (try first | exact ⟨rfl, _, World.drewN_drewN _ _ _⟩ | exact ⟨rfl, _, Eq.trans (World.drewN_drewN _ _ _) (congrArg (World.drewN _) (Nat.add_assoc _ _ _))⟩))); try go_wp2_with (first | (go_at_call 23; (with_reducible refine (linkhouseref7_SameInts.calls k1 _ _ ((rd_T68 l0 x5_1).f1) _ _ ((rd_T68 l1 x5_1).f1) true _ ?side1 ?side2 ?side3 ?side4 A8.out).mono ?_); (case side1 => repeat (first | exact HR217_1.out | (with_reducible refine Kd.C_alloc ?_ _) | (with_reducible refine Kd.C_drewN ?_ _) | (with_reducible refine Kd.C_drew ?_))); (case side2 => exact HC217_1.out); (case side3 => repeat (first | exact HR218_1.out | (with_reducible refine Kd.C_alloc ?_ _) | (with_reducible refine Kd.C_drewN ?_ _) | (with_reducible refine Kd.C_drew ?_))); (case side4 => exact HC218_1.out); rintro e w' ⟨rfl, ⟨nd, rfl⟩⟩; (try first | exact ⟨rfl, _, World.drewN_drewN _ _ _⟩ | exact ⟨rfl, _, Eq.trans (World.drewN_drewN _ _ _) (congrArg (World.drewN _) (Nat.add_assoc _ _ _))⟩))))
         go_roundg k1
         case measure => have := HK1.out; omega
         case rel => exact ⟨(wrap64 (x5_1 + 1)), rs_, H', ⟨by have := HK1.out; omega⟩, by repeat (first | exact Drawn0.refl _ | apply Drawn0.step)⟩
        ·
         replace c9 := Bool.eq_false_iff.mpr c9
         subst c9
         have H1 : (some false) = some r := by rw [if_neg (show ¬ (false = true) by decide)] at H; exact H
         clear H
         have H := H1
         clear H1
         obtain rfl := Option.some.inj H
         have p215 : 0 ≤ (x5_1 : Int) := of_decide_eq_true (by first | (with_reducible assumption) | assumption)
         have q215 : x5_1 < (l0.length : Int) := of_decide_eq_true (by first | (with_reducible assumption) | assumption)
         obtain ⟨ad215, A215_1, c215_1, e215, hx215_0, hx215_1, hl215_1, hi215_1⟩ := at_T68 HR0.out x5_1 p215 q215
         cases e215
         have HR215_1 := Aside0.mk hi215_1
         have HC215_1 := Aside0.mk hl215_1
         clear hi215_1 hl215_1
         replace p215 := eq_true p215
         replace q215 := eq_true q215
         have p216 : 0 ≤ (x5_1 : Int) := of_decide_eq_true (by first | (with_reducible assumption) | assumption)
         have q216 : x5_1 < (l1.length : Int) := of_decide_eq_true (by first | (with_reducible assumption) | assumption)
         obtain ⟨ad216, A216_1, c216_1, e216, hx216_0, hx216_1, hl216_1, hi216_1⟩ := at_T68 HR1.out x5_1 p216 q216
         cases e216
         have HR216_1 := Aside0.mk hi216_1
         have HC216_1 := Aside0.mk hl216_1
         clear hi216_1 hl216_1
         replace p216 := eq_true p216
         replace q216 := eq_true q216
         have p217 : 0 ≤ (x5_1 : Int) := of_decide_eq_true (by first | (with_reducible assumption) | assumption)
         have q217 : x5_1 < (l0.length : Int) := of_decide_eq_true (by first | (with_reducible assumption) | assumption)
         obtain ⟨ad217, A217_1, c217_1, e217, hx217_0, hx217_1, hl217_1, hi217_1⟩ := at_T68 HR0.out x5_1 p217 q217
         obtain rfl : ad215 = ad217 := (by injection e217)
         have HR217_1 := Aside0.mk hi217_1
         have HC217_1 := Aside0.mk hl217_1
         clear hi217_1 hl217_1
         replace p217 := eq_true p217
         replace q217 := eq_true q217
         have ea_ := Option.some.inj (hx215_1.symm.trans hx217_1)
         injection ea_ with ea_ en_ ec_
         subst ea_
         subst ec_
         clear en_
         have p218 : 0 ≤ (x5_1 : Int) := of_decide_eq_true (by first | (with_reducible assumption) | assumption)
         have q218 : x5_1 < (l1.length : Int) := of_decide_eq_true (by first | (with_reducible assumption) | assumption)
         obtain ⟨ad218, A218_1, c218_1, e218, hx218_0, hx218_1, hl218_1, hi218_1⟩ := at_T68 HR1.out x5_1 p218 q218
         obtain rfl : ad216 = ad218 := (by injection e218)
         have HR218_1 := Aside0.mk hi218_1
         have HC218_1 := Aside0.mk hl218_1
         clear hi218_1 hl218_1
         replace p218 := eq_true p218
         replace q218 := eq_true q218
         have ea_ := Option.some.inj (hx216_1.symm.trans hx218_1)
         injection ea_ with ea_ en_ ec_
         subst ea_
         subst ec_
         clear en_
         go_wp2_with (first | (go_at_call 23; (with_reducible refine (linkhouseref7_SameInts.calls k1 _ _ ((rd_T68 l0 x5_1).f1) _ _ ((rd_T68 l1 x5_1).f1) false _ ?side1 ?side2 ?side3 ?side4 A8.out).mono ?_); (case side1 => repeat (first | exact HR217_1.out | (with_reducible refine Kd.C_alloc ?_ _) | (with_reducible refine Kd.C_drewN ?_ _) | (with_reducible refine Kd.C_drew ?_))); (case side2 => exact HC217_1.out); (case side3 => repeat (first | exact HR218_1.out | (with_reducible refine Kd.C_alloc ?_ _) | (with_reducible refine Kd.C_drewN ?_ _) | (with_reducible refine Kd.C_drew ?_))); (case side4 => exact HC218_1.out); rintro e w' ⟨rfl, ⟨nd, rfl⟩⟩; (try first | exact ⟨rfl, _, World.drewN_drewN _ _ _⟩ | exact ⟨rfl, _, Eq.trans (World.drewN_drewN _ _ _) (congrArg (World.drewN _) (Nat.add_assoc _ _ _))⟩)))
         repeat (go_quiet (first | (go_at_call 23; (with_reducible refine (linkhouseref7_SameInts.calls k1 _ _ ((rd_T68 l0 x5_1).f1) _ _ ((rd_T68 l1 x5_1).f1) false _ ?side1 ?side2 ?side3 ?side4 A8.out).mono ?_); (case side1 => repeat (first | exact HR217_1.out | (with_reducible refine Kd.C_alloc ?_ _) | (with_reducible refine Kd.C_drewN ?_ _) | (with_reducible refine Kd.C_drew ?_))); (case side2 => exact HC217_1.out); (case side3 => repeat (first | exact HR218_1.out | (with_reducible refine Kd.C_alloc ?_ _) | (with_reducible refine Kd.C_drewN ?_ _) | (with_reducible refine Kd.C_drew ?_))); (case side4 => exact HC218_1.out); rintro e w' ⟨rfl, ⟨nd, rfl⟩⟩; (try first | exact ⟨rfl, _, World.drewN_drewN _ _ _⟩ | exact ⟨rfl, _, Eq.trans (World.drewN_drewN _ _ _) (congrArg (World.drewN _) (Nat.add_assoc _ _ _))⟩))); try go_wp2_with (first | (go_at_call 23; (with_reducible refine (linkhouseref7_SameInts.calls k1 _ _ ((rd_T68 l0 x5_1).f1) _ _ ((rd_T68 l1 x5_1).f1) false _ ?side1 ?side2 ?side3 ?side4 A8.out).mono ?_); (case side1 => repeat (first | exact HR217_1.out | (with_reducible refine Kd.C_alloc ?_ _) | (with_reducible refine Kd.C_drewN ?_ _) | (with_reducible refine Kd.C_drew ?_))); (case side2 => exact HC217_1.out); (case side3 => repeat (first | exact HR218_1.out | (with_reducible refine Kd.C_alloc ?_ _) | (with_reducible refine Kd.C_drewN ?_ _) | (with_reducible refine Kd.C_drew ?_))); (case side4 => exact HC218_1.out); rintro e w' ⟨rfl, ⟨nd, rfl⟩⟩; (try first | exact ⟨rfl, _, World.drewN_drewN _ _ _⟩ | exact ⟨rfl, _, Eq.trans (World.drewN_drewN _ _ _) (congrArg (World.drewN _) (Nat.add_assoc _ _ _))⟩))))
         go_ret
         exact ⟨by first | rfl | (simp; done) | (simp [*]; done), by repeat (first | exact Drawn0.refl _ | apply Drawn0.step)⟩
       ·
        rw [if_neg c7] at H
        have c7b0 : (((rd_T68 l0 x5_1).f0) == ((rd_T68 l1 x5_1).f0)) = false := beq_eq_false_iff_ne.mpr c7
        have c7b1 : (((rd_T68 l0 x5_1).f0) != ((rd_T68 l1 x5_1).f0)) = true := bne_iff_ne.mpr c7
        obtain rfl := Option.some.inj H
        have p215 : 0 ≤ (x5_1 : Int) := of_decide_eq_true (by first | (with_reducible assumption) | assumption)
        have q215 : x5_1 < (l0.length : Int) := of_decide_eq_true (by first | (with_reducible assumption) | assumption)
        obtain ⟨ad215, A215_1, c215_1, e215, hx215_0, hx215_1, hl215_1, hi215_1⟩ := at_T68 HR0.out x5_1 p215 q215
        cases e215
        have HR215_1 := Aside0.mk hi215_1
        have HC215_1 := Aside0.mk hl215_1
        clear hi215_1 hl215_1
        replace p215 := eq_true p215
        replace q215 := eq_true q215
        have p216 : 0 ≤ (x5_1 : Int) := of_decide_eq_true (by first | (with_reducible assumption) | assumption)
        have q216 : x5_1 < (l1.length : Int) := of_decide_eq_true (by first | (with_reducible assumption) | assumption)
        obtain ⟨ad216, A216_1, c216_1, e216, hx216_0, hx216_1, hl216_1, hi216_1⟩ := at_T68 HR1.out x5_1 p216 q216
        cases e216
        have HR216_1 := Aside0.mk hi216_1
        have HC216_1 := Aside0.mk hl216_1
        clear hi216_1 hl216_1
        replace p216 := eq_true p216
        replace q216 := eq_true q216
        go_wp2
        repeat (go_quiet (fail); try go_wp2)
        go_ret
        exact ⟨by first | rfl | (simp; done) | (simp [*]; done), by repeat (first | exact Drawn0.refl _ | apply Drawn0.step)⟩
      ·
       rw [if_neg c6] at H
       exact absurd H (by simp)
     ·
      rw [if_neg c5] at H
      exact absurd H (by simp)
    ·
     rw [if_neg c4] at H
     have c4b0 : decide (x5_1 < (l0.length : Int)) = false := decide_eq_false c4
     clear c4
     obtain rfl := Option.some.inj H
     go_wp2
     repeat (go_quiet (fail); try go_wp2)
     go_ret
     exact ⟨by first | rfl | (simp; done) | (simp [*]; done), by repeat (first | exact Drawn0.refl _ | apply Drawn0.step)⟩
 ·
  rw [if_neg c3] at H
  have c3b0 : ((l0.length : Int) == (l1.length : Int)) = false := beq_eq_false_iff_ne.mpr c3
  have c3b1 : ((l0.length : Int) != (l1.length : Int)) = true := bne_iff_ne.mpr c3
  have c3b2 : (l0.length == l1.length) = false := by first | simpa using c3 | (simp at c3 ⊢; omega)
  obtain rfl := Option.some.inj H
  go_enter Try.func25, Try.ntmps25
  go_wp2
  repeat (go_quiet (fail); try go_wp2)
  go_ret
  exact ⟨by first | rfl | (simp; done) | (simp [*]; done), by repeat (first | exact Drawn0.refl _ | apply Drawn0.step)⟩

/-! ### linkhouselaw7_diamond: function 44 -/
set_option maxRecDepth 100000 in
def linkhouselaw7_diamond.f  : Option ((List (S62))) := some (([(⟨0, 0, 0, (([(⟨1, 1⟩ : S64), (⟨2, 2⟩ : S64)] : List (S64)))⟩ : S62), (⟨0, 0, 0, (([(⟨2, 3⟩ : S64)] : List (S64)))⟩ : S62), (⟨0, 0, 0, (([(⟨1, 3⟩ : S64)] : List (S64)))⟩ : S62), (⟨0, 0, 0, (([(⟨2, 0⟩ : S64)] : List (S64)))⟩ : S62)] : List (S62)))
set_option maxHeartbeats 8000000 in
set_option maxRecDepth 100000 in
theorem linkhouselaw7_diamond.calls  (r : List (S62)) (w : World) (h : linkhouselaw7_diamond.f  = some r) :
  Calls Try.prog 44 #[] w fun e w' => ∃ v0_ : Value, e = .returned (v0_) ∧ Kd.N k62 62 w' w.heap.size (fun k_ => (w.heap.size ≤ k_)) v0_ r ∧ Below w.heap.size w w' := by
 have hu64 := Try.underlying64
 have hu62 := Try.underlying62
 have HB := Aside0.mk (Below.refl w.heap.size w)
 have H : (some (([(⟨0, 0, 0, (([(⟨1, 1⟩ : S64), (⟨2, 2⟩ : S64)] : List (S64)))⟩ : S62), (⟨0, 0, 0, (([(⟨2, 3⟩ : S64)] : List (S64)))⟩ : S62), (⟨0, 0, 0, (([(⟨1, 3⟩ : S64)] : List (S64)))⟩ : S62), (⟨0, 0, 0, (([(⟨2, 0⟩ : S64)] : List (S64)))⟩ : S62)] : List (S62)))) = some r := h
 clear h
 obtain ⟨y220, hy220⟩ : ∃ y_ : List (S64), y_ = (([(⟨1, 1⟩ : S64), (⟨2, 2⟩ : S64)] : List (S64))) := ⟨_, rfl⟩
 replace H : (some (([(⟨0, 0, 0, y220⟩ : S62), (⟨0, 0, 0, (([(⟨2, 3⟩ : S64)] : List (S64)))⟩ : S62), (⟨0, 0, 0, (([(⟨1, 3⟩ : S64)] : List (S64)))⟩ : S62), (⟨0, 0, 0, (([(⟨2, 0⟩ : S64)] : List (S64)))⟩ : S62)] : List (S62)))) = some r := by first | (rw [hy220]; with_reducible exact H) | (have H2_ := (Option.bind_some _ _).symm.trans H; rw [hy220]; with_reducible exact H2_) | (have H2_ := (Option.bind_some _ _).symm.trans H; with_reducible exact H2_) | with_reducible exact H | (rw [hy220]; exact H) | exact H
 have Ny220 := Aside0.mk hy220
 clear hy220
 obtain ⟨y223, hy223⟩ : ∃ y_ : List (S64), y_ = (([(⟨2, 3⟩ : S64)] : List (S64))) := ⟨_, rfl⟩
 replace H : (some (([(⟨0, 0, 0, y220⟩ : S62), (⟨0, 0, 0, y223⟩ : S62), (⟨0, 0, 0, (([(⟨1, 3⟩ : S64)] : List (S64)))⟩ : S62), (⟨0, 0, 0, (([(⟨2, 0⟩ : S64)] : List (S64)))⟩ : S62)] : List (S62)))) = some r := by first | (rw [hy223]; with_reducible exact H) | (have H2_ := (Option.bind_some _ _).symm.trans H; rw [hy223]; with_reducible exact H2_) | (have H2_ := (Option.bind_some _ _).symm.trans H; with_reducible exact H2_) | with_reducible exact H | (rw [hy223]; exact H) | exact H
 have Ny223 := Aside0.mk hy223
 clear hy223
 obtain ⟨y226, hy226⟩ : ∃ y_ : List (S64), y_ = (([(⟨1, 3⟩ : S64)] : List (S64))) := ⟨_, rfl⟩
 replace H : (some (([(⟨0, 0, 0, y220⟩ : S62), (⟨0, 0, 0, y223⟩ : S62), (⟨0, 0, 0, y226⟩ : S62), (⟨0, 0, 0, (([(⟨2, 0⟩ : S64)] : List (S64)))⟩ : S62)] : List (S62)))) = some r := by first | (rw [hy226]; with_reducible exact H) | (have H2_ := (Option.bind_some _ _).symm.trans H; rw [hy226]; with_reducible exact H2_) | (have H2_ := (Option.bind_some _ _).symm.trans H; with_reducible exact H2_) | with_reducible exact H | (rw [hy226]; exact H) | exact H
 have Ny226 := Aside0.mk hy226
 clear hy226
 obtain ⟨y229, hy229⟩ : ∃ y_ : List (S64), y_ = (([(⟨2, 0⟩ : S64)] : List (S64))) := ⟨_, rfl⟩
 replace H : (some (([(⟨0, 0, 0, y220⟩ : S62), (⟨0, 0, 0, y223⟩ : S62), (⟨0, 0, 0, y226⟩ : S62), (⟨0, 0, 0, y229⟩ : S62)] : List (S62)))) = some r := by first | (rw [hy229]; with_reducible exact H) | (have H2_ := (Option.bind_some _ _).symm.trans H; rw [hy229]; with_reducible exact H2_) | (have H2_ := (Option.bind_some _ _).symm.trans H; with_reducible exact H2_) | with_reducible exact H | (rw [hy229]; exact H) | exact H
 have Ny229 := Aside0.mk hy229
 clear hy229
 obtain ⟨y232, hy232⟩ : ∃ y_ : List (S62), y_ = (([(⟨0, 0, 0, y220⟩ : S62), (⟨0, 0, 0, y223⟩ : S62), (⟨0, 0, 0, y226⟩ : S62), (⟨0, 0, 0, y229⟩ : S62)] : List (S62))) := ⟨_, rfl⟩
 replace H : (some y232) = some r := by first | (rw [hy232]; with_reducible exact H) | (have H2_ := (Option.bind_some _ _).symm.trans H; rw [hy232]; with_reducible exact H2_) | (have H2_ := (Option.bind_some _ _).symm.trans H; with_reducible exact H2_) | with_reducible exact H | (rw [hy232]; exact H) | exact H
 have Ny232 := Aside0.mk hy232
 clear hy232
 obtain rfl := Option.some.inj H
 go_enter Try.func44, Try.ntmps44
 go_wp2_with (first | ((with_reducible refine gate_dst (N := 3) rfl ?_); refine Kd.R_lit k64 _ 64 ?hg (N := 3) ?hd (xs := ([(⟨1, 1⟩ : S64), (⟨2, 2⟩ : S64)] : List (S64))) (inner := [.int .i64 1, .int .i64 1, .int .i64 2, .int .i64 2]) (ok := fun _ => True) (okp := fun _ => True) ?hr ?hp (fun _ hk => hk) trivial (Below.refl _ _) (Nat.le_refl _) (by simp) ?_; (case hd => rfl); (case hg => rfl); (case hr => first | (go_simp; done) | (go_simp; rfl)); (case hp => exact (Reps.c2 (show Kd.M k64 _ _ _ (⟨1, 1⟩ : S64) [.int .i64 1, .int .i64 1] from (k64_mkM _ _ _ (⟨1, 1⟩ : S64) )) (Reps.c2 (show Kd.M k64 _ _ _ (⟨2, 2⟩ : S64) [.int .i64 2, .int .i64 2] from (k64_mkM _ _ _ (⟨2, 2⟩ : S64) )) (Reps.none _ _)))); intro v221 w1 ho2 hb hg_ hnew_; clear hg_ hnew_; (first | rw [← Ny220.out] at ho2 | (simp only [Int.reduceToNat] at ho2; rw [← Ny220.out] at ho2)); have n0_ := Aside0.mk (Kd.R_lower (Kd.R_newM (M := fun k_ => (w.heap.size ≤ k_)) ho2 (below_size (bw_ HB)) (fun k_ h_ => h_)) (below_size (bw_ HB))); have n1_ := Aside0.mk (below_step (bw_ HB) hb); clear HB; have HO222 := n0_; have HB := n1_; clear n0_ n1_; clear hb ho2; obtain ⟨Ao3, co3, eo3⟩ := Kd.R_slice HO222.out; subst eo3) | ((with_reducible refine gate_dst (N := 6) rfl ?_); refine Kd.R_lit k64 _ 64 ?hg (N := 6) ?hd (xs := ([(⟨2, 3⟩ : S64)] : List (S64))) (inner := [.int .i64 2, .int .i64 3]) (ok := fun _ => True) (okp := fun _ => True) ?hr ?hp (fun _ hk => hk) trivial (Below.refl _ _) (Nat.le_refl _) (by simp) ?_; (case hd => rfl); (case hg => rfl); (case hr => first | (go_simp; done) | (go_simp; rfl)); (case hp => exact (Reps.c2 (show Kd.M k64 _ _ _ (⟨2, 3⟩ : S64) [.int .i64 2, .int .i64 3] from (k64_mkM _ _ _ (⟨2, 3⟩ : S64) )) (Reps.none _ _))); intro v224 w4 ho5 hb hg_ hnew_; clear hg_ hnew_; (first | rw [← Ny223.out] at ho5 | (simp only [Int.reduceToNat] at ho5; rw [← Ny223.out] at ho5)); have n0_ := Aside0.mk (Kd.R_elder' (by (with_reducible repeat (first | apply Kd.R_alloc | apply Kd.R_drewN | apply Kd.R_drew)); exact HO222.out) (Kd.R_base ho5) hb); have n1_ := Aside0.mk (Kd.R_lower (Kd.R_new' (Kd.R_newM (M := fun k_ => (w.heap.size ≤ k_)) ho5 (below_size (bw_ HB)) (fun k_ h_ => h_)) (Kd.R_lt (by (with_reducible repeat (first | apply Kd.R_alloc | apply Kd.R_drewN | apply Kd.R_drew)); exact HO222.out))) (below_size (bw_ HB))); have n2_ := Aside0.mk (below_step (bw_ HB) hb); clear HO222; clear HB; have HO222 := n0_; have HO225 := n1_; have HB := n2_; clear n0_ n1_ n2_; clear hb ho5; obtain ⟨Ao6, co6, eo6⟩ := Kd.R_slice HO225.out; subst eo6) | ((with_reducible refine gate_dst (N := 9) rfl ?_); refine Kd.R_lit k64 _ 64 ?hg (N := 9) ?hd (xs := ([(⟨1, 3⟩ : S64)] : List (S64))) (inner := [.int .i64 1, .int .i64 3]) (ok := fun _ => True) (okp := fun _ => True) ?hr ?hp (fun _ hk => hk) trivial (Below.refl _ _) (Nat.le_refl _) (by simp) ?_; (case hd => rfl); (case hg => rfl); (case hr => first | (go_simp; done) | (go_simp; rfl)); (case hp => exact (Reps.c2 (show Kd.M k64 _ _ _ (⟨1, 3⟩ : S64) [.int .i64 1, .int .i64 3] from (k64_mkM _ _ _ (⟨1, 3⟩ : S64) )) (Reps.none _ _))); intro v227 w7 ho8 hb hg_ hnew_; clear hg_ hnew_; (first | rw [← Ny226.out] at ho8 | (simp only [Int.reduceToNat] at ho8; rw [← Ny226.out] at ho8)); have n0_ := Aside0.mk (Kd.R_elder' (by (with_reducible repeat (first | apply Kd.R_alloc | apply Kd.R_drewN | apply Kd.R_drew)); exact HO222.out) (Kd.R_base ho8) hb); have n1_ := Aside0.mk (Kd.R_elder' (by (with_reducible repeat (first | apply Kd.R_alloc | apply Kd.R_drewN | apply Kd.R_drew)); exact HO225.out) (Kd.R_base ho8) hb); have n2_ := Aside0.mk (Kd.R_lower (Kd.R_new' (Kd.R_new' (Kd.R_newM (M := fun k_ => (w.heap.size ≤ k_)) ho8 (below_size (bw_ HB)) (fun k_ h_ => h_)) (Kd.R_lt (by (with_reducible repeat (first | apply Kd.R_alloc | apply Kd.R_drewN | apply Kd.R_drew)); exact HO222.out))) (Kd.R_lt (by (with_reducible repeat (first | apply Kd.R_alloc | apply Kd.R_drewN | apply Kd.R_drew)); exact HO225.out))) (below_size (bw_ HB))); have n3_ := Aside0.mk (below_step (bw_ HB) hb); clear HO222; clear HO225; clear HB; have HO222 := n0_; have HO225 := n1_; have HO228 := n2_; have HB := n3_; clear n0_ n1_ n2_ n3_; clear hb ho8; obtain ⟨Ao9, co9, eo9⟩ := Kd.R_slice HO228.out; subst eo9) | ((with_reducible refine gate_dst (N := 12) rfl ?_); refine Kd.R_lit k64 _ 64 ?hg (N := 12) ?hd (xs := ([(⟨2, 0⟩ : S64)] : List (S64))) (inner := [.int .i64 2, .int .i64 0]) (ok := fun _ => True) (okp := fun _ => True) ?hr ?hp (fun _ hk => hk) trivial (Below.refl _ _) (Nat.le_refl _) (by simp) ?_; (case hd => rfl); (case hg => rfl); (case hr => first | (go_simp; done) | (go_simp; rfl)); (case hp => exact (Reps.c2 (show Kd.M k64 _ _ _ (⟨2, 0⟩ : S64) [.int .i64 2, .int .i64 0] from (k64_mkM _ _ _ (⟨2, 0⟩ : S64) )) (Reps.none _ _))); intro v230 w10 ho11 hb hg_ hnew_; clear hg_ hnew_; (first | rw [← Ny229.out] at ho11 | (simp only [Int.reduceToNat] at ho11; rw [← Ny229.out] at ho11)); have n0_ := Aside0.mk (Kd.R_elder' (by (with_reducible repeat (first | apply Kd.R_alloc | apply Kd.R_drewN | apply Kd.R_drew)); exact HO222.out) (Kd.R_base ho11) hb); have n1_ := Aside0.mk (Kd.R_elder' (by (with_reducible repeat (first | apply Kd.R_alloc | apply Kd.R_drewN | apply Kd.R_drew)); exact HO225.out) (Kd.R_base ho11) hb); have n2_ := Aside0.mk (Kd.R_elder' (by (with_reducible repeat (first | apply Kd.R_alloc | apply Kd.R_drewN | apply Kd.R_drew)); exact HO228.out) (Kd.R_base ho11) hb); have n3_ := Aside0.mk (Kd.R_lower (Kd.R_new' (Kd.R_new' (Kd.R_new' (Kd.R_newM (M := fun k_ => (w.heap.size ≤ k_)) ho11 (below_size (bw_ HB)) (fun k_ h_ => h_)) (Kd.R_lt (by (with_reducible repeat (first | apply Kd.R_alloc | apply Kd.R_drewN | apply Kd.R_drew)); exact HO222.out))) (Kd.R_lt (by (with_reducible repeat (first | apply Kd.R_alloc | apply Kd.R_drewN | apply Kd.R_drew)); exact HO225.out))) (Kd.R_lt (by (with_reducible repeat (first | apply Kd.R_alloc | apply Kd.R_drewN | apply Kd.R_drew)); exact HO228.out))) (below_size (bw_ HB))); have n4_ := Aside0.mk (below_step (bw_ HB) hb); clear HO222; clear HO225; clear HO228; clear HB; have HO222 := n0_; have HO225 := n1_; have HO228 := n2_; have HO231 := n3_; have HB := n4_; clear n0_ n1_ n2_ n3_ n4_; clear hb ho11; obtain ⟨Ao12, co12, eo12⟩ := Kd.R_slice HO231.out; subst eo12) | ((with_reducible refine gate_dst (N := 14) rfl ?_); refine Kd.N_lit k62 _ 62 ?hg (N' := 14) ?hd (xs := ([(⟨0, 0, 0, y220⟩ : S62), (⟨0, 0, 0, y223⟩ : S62), (⟨0, 0, 0, y226⟩ : S62), (⟨0, 0, 0, y229⟩ : S62)] : List (S62))) (inner := [.int .i64 0, .int .i64 0, .int .i64 0, .slice Ao3 y220.length co3, .int .i64 0, .int .i64 0, .int .i64 0, .slice Ao6 y223.length co6, .int .i64 0, .int .i64 0, .int .i64 0, .slice Ao9 y226.length co9, .int .i64 0, .int .i64 0, .int .i64 0, .slice Ao12 y229.length co12]) (ok := (fun k_ => (w.heap.size ≤ k_))) (okp := (fun k_ => (w.heap.size ≤ k_))) ?hr ?hp (fun _ hk => hk) ((show ∀ k_, w10.heap.size ≤ k_ → (fun k_ => (w.heap.size ≤ k_)) k_ from fun k_ hk => (Nat.le_trans (below_size (bw_ HB)) hk)) _ (Nat.le_refl _)) (Below.refl _ _) (Nat.le_refl _) (by simp) ?_; (case hd => rfl); (case hg => rfl); (case hr => first | (go_simp; done) | (go_simp; rfl)); (case hp => exact (Reps.c4 (show Kd.FK k62 _ _ (⟨0, 0, 0, y220⟩ : S62) [.int .i64 0, .int .i64 0, .int .i64 0, .slice Ao3 y220.length co3] from (k62_mkF _ _ (⟨0, 0, 0, y220⟩ : S62) (Kd.R_reads' (Kd.R_mono (ok' := (fun k_ => (w.heap.size ≤ k_))) (HO222.out) (fun k_ hk => hk.1.1.1.1))).2.1 (Kd.R_F (Kd.R_mono (ok' := (fun k_ => (w.heap.size ≤ k_))) (HO222.out) (fun k_ hk => hk.1.1.1.1))))) (Reps.c4 (show Kd.FK k62 _ _ (⟨0, 0, 0, y223⟩ : S62) [.int .i64 0, .int .i64 0, .int .i64 0, .slice Ao6 y223.length co6] from (k62_mkF _ _ (⟨0, 0, 0, y223⟩ : S62) (Kd.R_reads' (Kd.R_mono (ok' := (fun k_ => (w.heap.size ≤ k_))) (HO225.out) (fun k_ hk => hk.1.1.1.1))).2.1 (Kd.R_F (Kd.R_mono (ok' := (fun k_ => (w.heap.size ≤ k_))) (HO225.out) (fun k_ hk => hk.1.1.1.1))))) (Reps.c4 (show Kd.FK k62 _ _ (⟨0, 0, 0, y226⟩ : S62) [.int .i64 0, .int .i64 0, .int .i64 0, .slice Ao9 y226.length co9] from (k62_mkF _ _ (⟨0, 0, 0, y226⟩ : S62) (Kd.R_reads' (Kd.R_mono (ok' := (fun k_ => (w.heap.size ≤ k_))) (HO228.out) (fun k_ hk => hk.1.1.1.1))).2.1 (Kd.R_F (Kd.R_mono (ok' := (fun k_ => (w.heap.size ≤ k_))) (HO228.out) (fun k_ hk => hk.1.1.1.1))))) (Reps.c4 (show Kd.FK k62 _ _ (⟨0, 0, 0, y229⟩ : S62) [.int .i64 0, .int .i64 0, .int .i64 0, .slice Ao12 y229.length co12] from (k62_mkF _ _ (⟨0, 0, 0, y229⟩ : S62) (Kd.R_reads' (Kd.R_mono (ok' := (fun k_ => (w.heap.size ≤ k_))) (HO231.out) (fun k_ hk => hk.1.1.1.1))).2.1 (Kd.R_F (Kd.R_mono (ok' := (fun k_ => (w.heap.size ≤ k_))) (HO231.out) (fun k_ hk => hk.1.1.1.1))))) (Reps.none _ _)))))); intro v233 w13 ho14 hb hg_ hnew_; clear hg_ hnew_; (first | rw [← Ny232.out] at ho14 | (simp only [Int.reduceToNat] at ho14; rw [← Ny232.out] at ho14)); have n0_ := Aside0.mk (Kd.N_lower ho14 (below_size (bw_ HB))); have n1_ := Aside0.mk (below_step (bw_ HB) hb); clear HB; clear HO222; clear HO225; clear HO228; clear HO231; have HO234 := n0_; have HB := n1_; clear n0_ n1_; clear hb ho14))
 go_ret
 exact ⟨_, by first | rfl | (simp [errW_none, errW_some] <;> rfl) | (simp [*, errW_none, errW_some] <;> rfl), by (with_reducible repeat (first | apply Kd.N_alloc | apply Kd.N_drewN | apply Kd.N_drew)); exact HO234.out, bw_ HB⟩

/-! ### linkhouselaw7_crossed: function 21 -/
set_option maxRecDepth 100000 in
def linkhouselaw7_crossed.f (k : Nat)  : Option (Bool) := (linkhouselaw7_diamond.f).bind fun t235 => ((flow_Dominators.f k t235 0).bind fun bt238 => ((linkhouselaw7_diamond.f).bind fun t244 => ((flow_Loops.f k t244 0).bind fun bt247 => (if bt238.2.1 = 0 then (if bt247.2.1 = 0 then ((linkhouseref7_SameInts.f k bt238.1 (([0, 0, 0, 0] : List Int))).bind fun t256 => (if t256 = true then ((linkhouseref7_SameLoops.f k bt247.1 (([(⟨0, (([0, 1, 2, 3] : List Int))⟩ : S68)] : List (S68)))).bind fun t263 => (some t263)) else (some false))) else (some false)) else (some false)))))
set_option maxRecDepth 100000 in
theorem linkhouselaw7_crossed.mono : ∀ k, LeO (linkhouselaw7_crossed.f k ) (linkhouselaw7_crossed.f (k + 1) ) := by
 intro  k
 unfold linkhouselaw7_crossed.f
 repeat' first
   | (with_reducible exact flow_Dominators.mono _ _ _)
   | (with_reducible exact flow_Loops.mono _ _ _)
   | (with_reducible exact linkhouseref7_SameInts.mono _ _ _)
   | (with_reducible exact linkhouseref7_SameLoops.mono _ _ _)
   | (with_reducible exact LeO.refl _)
   | (with_reducible exact LeO.none _)
   | (with_reducible refine LeO.ite ?_ ?_)
   | (with_reducible refine LeO.bind ?_ (fun _ => ?_))
   | exact flow_Dominators.mono _ _ _
   | exact flow_Loops.mono _ _ _
   | exact linkhouseref7_SameInts.mono _ _ _
   | exact linkhouseref7_SameLoops.mono _ _ _
   | exact LeO.none _
   | refine LeO.ite ?_ ?_
   | refine LeO.bind ?_ (fun _ => ?_)
set_option maxHeartbeats 8000000 in
set_option maxRecDepth 100000 in
theorem linkhouselaw7_crossed.calls (k : Nat)  (r : Bool) (w : World) (h : linkhouselaw7_crossed.f k  = some r) :
  Calls Try.prog 21 #[] w fun e w' => e = .returned (.bool r) ∧ Below w.heap.size w w' := by
 have hu28 := Try.underlying28
 have hu68 := Try.underlying68
 have HB := Aside0.mk (Below.refl w.heap.size w)
 have H : ((linkhouselaw7_diamond.f).bind fun t235 => ((flow_Dominators.f k t235 0).bind fun bt238 => ((linkhouselaw7_diamond.f).bind fun t244 => ((flow_Loops.f k t244 0).bind fun bt247 => (if bt238.2.1 = 0 then (if bt247.2.1 = 0 then ((linkhouseref7_SameInts.f k bt238.1 (([0, 0, 0, 0] : List Int))).bind fun t256 => (if t256 = true then ((linkhouseref7_SameLoops.f k bt247.1 (([(⟨0, (([0, 1, 2, 3] : List Int))⟩ : S68)] : List (S68)))).bind fun t263 => (some t263)) else (some false))) else (some false)) else (some false)))))) = some r := h
 clear h
 replace H := Option.bind_eq_some_iff.mp H
 obtain ⟨t235, A10, H⟩ := H
 replace H : ((flow_Dominators.f k t235 0).bind fun bt238 => ((linkhouselaw7_diamond.f).bind fun t244 => ((flow_Loops.f k t244 0).bind fun bt247 => (if bt238.2.1 = 0 then (if bt247.2.1 = 0 then ((linkhouseref7_SameInts.f k bt238.1 (([0, 0, 0, 0] : List Int))).bind fun t256 => (if t256 = true then ((linkhouseref7_SameLoops.f k bt247.1 (([(⟨0, (([0, 1, 2, 3] : List Int))⟩ : S68)] : List (S68)))).bind fun t263 => (some t263)) else (some false))) else (some false)) else (some false))))) = some r := H
 have A1 := Aside0.mk A10
 clear A10
 replace H := Option.bind_eq_some_iff.mp H
 obtain ⟨⟨t238, t241, t242⟩, A20, H⟩ := H
 replace H : ((linkhouselaw7_diamond.f).bind fun t244 => ((flow_Loops.f k t244 0).bind fun bt247 => (if t241 = 0 then (if bt247.2.1 = 0 then ((linkhouseref7_SameInts.f k t238 (([0, 0, 0, 0] : List Int))).bind fun t256 => (if t256 = true then ((linkhouseref7_SameLoops.f k bt247.1 (([(⟨0, (([0, 1, 2, 3] : List Int))⟩ : S68)] : List (S68)))).bind fun t263 => (some t263)) else (some false))) else (some false)) else (some false)))) = some r := H
 have A2 := Aside0.mk A20
 clear A20
 replace H := Option.bind_eq_some_iff.mp H
 obtain ⟨t244, A30, H⟩ := H
 replace H : ((flow_Loops.f k t244 0).bind fun bt247 => (if t241 = 0 then (if bt247.2.1 = 0 then ((linkhouseref7_SameInts.f k t238 (([0, 0, 0, 0] : List Int))).bind fun t256 => (if t256 = true then ((linkhouseref7_SameLoops.f k bt247.1 (([(⟨0, (([0, 1, 2, 3] : List Int))⟩ : S68)] : List (S68)))).bind fun t263 => (some t263)) else (some false))) else (some false)) else (some false))) = some r := H
 have A3 := Aside0.mk A30
 clear A30
 replace H := Option.bind_eq_some_iff.mp H
 obtain ⟨⟨t247, t250, t251⟩, A40, H⟩ := H
 replace H : (if t241 = 0 then (if t250 = 0 then ((linkhouseref7_SameInts.f k t238 (([0, 0, 0, 0] : List Int))).bind fun t256 => (if t256 = true then ((linkhouseref7_SameLoops.f k t247 (([(⟨0, (([0, 1, 2, 3] : List Int))⟩ : S68)] : List (S68)))).bind fun t263 => (some t263)) else (some false))) else (some false)) else (some false)) = some r := H
 have A4 := Aside0.mk A40
 clear A40
 by_cases c5 : t241 = 0
 ·
  rw [if_pos c5] at H
  have c5b0 : (t241 == 0) = true := beq_iff_eq.mpr c5
  have c5b1 : (t241 != 0) = false := bne_eq_false_iff_eq.mpr c5
  clear c5
  by_cases c6 : t250 = 0
  ·
   rw [if_pos c6] at H
   have c6b0 : (t250 == 0) = true := beq_iff_eq.mpr c6
   have c6b1 : (t250 != 0) = false := bne_eq_false_iff_eq.mpr c6
   clear c6
   obtain ⟨y253, hy253⟩ : ∃ y_ : List Int, y_ = (([0, 0, 0, 0] : List Int)) := ⟨_, rfl⟩
   replace H : ((linkhouseref7_SameInts.f k t238 y253).bind fun t256 => (if t256 = true then ((linkhouseref7_SameLoops.f k t247 (([(⟨0, (([0, 1, 2, 3] : List Int))⟩ : S68)] : List (S68)))).bind fun t263 => (some t263)) else (some false))) = some r := by first | (rw [hy253]; with_reducible exact H) | (have H2_ := (Option.bind_some _ _).symm.trans H; rw [hy253]; with_reducible exact H2_) | (have H2_ := (Option.bind_some _ _).symm.trans H; with_reducible exact H2_) | with_reducible exact H | (rw [hy253]; exact H) | exact H
   have Ny253 := Aside0.mk hy253
   clear hy253
   replace H := Option.bind_eq_some_iff.mp H
   obtain ⟨t256, A70, H⟩ := H
   replace H : (if t256 = true then ((linkhouseref7_SameLoops.f k t247 (([(⟨0, (([0, 1, 2, 3] : List Int))⟩ : S68)] : List (S68)))).bind fun t263 => (some t263)) else (some false)) = some r := H
   have A7 := Aside0.mk A70
   clear A70
   by_cases c8 : t256 = true
   ·
    subst c8
    have H1 : ((linkhouseref7_SameLoops.f k t247 (([(⟨0, (([0, 1, 2, 3] : List Int))⟩ : S68)] : List (S68)))).bind fun t263 => (some t263)) = some r := by rw [if_pos rfl] at H; exact H
    clear H
    have H := H1
    clear H1
    obtain ⟨y257, hy257⟩ : ∃ y_ : List Int, y_ = (([0, 1, 2, 3] : List Int)) := ⟨_, rfl⟩
    replace H : ((linkhouseref7_SameLoops.f k t247 (([(⟨0, y257⟩ : S68)] : List (S68)))).bind fun t263 => (some t263)) = some r := by first | (rw [hy257]; with_reducible exact H) | (have H2_ := (Option.bind_some _ _).symm.trans H; rw [hy257]; with_reducible exact H2_) | (have H2_ := (Option.bind_some _ _).symm.trans H; with_reducible exact H2_) | with_reducible exact H | (rw [hy257]; exact H) | exact H
    have Ny257 := Aside0.mk hy257
    clear hy257
    obtain ⟨y260, hy260⟩ : ∃ y_ : List (S68), y_ = (([(⟨0, y257⟩ : S68)] : List (S68))) := ⟨_, rfl⟩
    replace H : ((linkhouseref7_SameLoops.f k t247 y260).bind fun t263 => (some t263)) = some r := by first | (rw [hy260]; with_reducible exact H) | (have H2_ := (Option.bind_some _ _).symm.trans H; rw [hy260]; with_reducible exact H2_) | (have H2_ := (Option.bind_some _ _).symm.trans H; with_reducible exact H2_) | with_reducible exact H | (rw [hy260]; exact H) | exact H
    have Ny260 := Aside0.mk hy260
    clear hy260
    replace H := Option.bind_eq_some_iff.mp H
    obtain ⟨t263, A90, H⟩ := H
    replace H : (some t263) = some r := H
    have A9 := Aside0.mk A90
    clear A90
    obtain rfl := Option.some.inj H
    go_enter Try.func21, Try.ntmps21
    go_wp2_with (first | ((with_reducible refine gate_callee (f := 44) rfl ?_); refine goesL_ (some 6) rfl rfl Try.func44 (by kernel_rfl) rfl #[] rfl ar_ ?_; (with_reducible refine (linkhouselaw7_diamond.calls  t235 _ A1.out).mono ?_); rintro e w10 ⟨v236, rfl, ho0, hb⟩; refine ⟨_, rfl, ?_⟩; have n0_ := Aside0.mk (Kd.N_lower (Kd.N_mono (ok' := fun k_ => True) ho0 (fun k_ hk_ => trivial)) (below_size (bw_ HB))); have n1_ := Aside0.mk (below_step (bw_ HB) hb); clear HB; have HO237 := n0_; have HB := n1_; clear n0_ n1_; (try clear hb); (try clear hb2); (try clear hk); (try clear hi); (try clear ho0); obtain ⟨Ao11, co11, eo11⟩ := Kd.N_slice HO237.out; subst eo11) | ((with_reducible refine gate_callee (f := 19) rfl ?_); refine goesL_ (some 7) rfl rfl Try.func19 (by kernel_rfl) rfl #[.slice Ao11 t235.length co11, .int .i64 0] rfl ar_ ?_; (with_reducible refine (flow_Dominators.calls k _ _ t235 0 t238 t241 t242 _ ?side1 ?side2 A2.out).mono ?_); (case side1 => repeat (first | exact (Kd.N_reads' HO237.out).2.2 | (with_reducible refine Kd.C_alloc ?_ _) | (with_reducible refine Kd.C_drewN ?_ _) | (with_reducible refine Kd.C_drew ?_))); (case side2 => exact (Kd.N_reads' HO237.out).2.1); rintro e w12 ⟨v239, rfl, ho0, hb⟩; refine ⟨_, rfl, ?_⟩; have n0_ := Aside0.mk (Kd.N_elder' (by (with_reducible repeat (first | apply Kd.N_alloc | apply Kd.N_drewN | apply Kd.N_drew)); exact HO237.out) (Kd.R_base ho0) hb); have n1_ := Aside0.mk (Kd.R_lower ho0 (below_size (bw_ HB))); have n2_ := Aside0.mk (below_step (bw_ HB) hb); clear HO237; clear HB; have HO237 := n0_; have HO240 := n1_; have HB := n2_; clear n0_ n1_ n2_; (try clear hb); (try clear hb2); (try clear hk); (try clear hi); (try clear ho0)) | ((with_reducible refine gate_dst (N := 2) rfl ?_); (try (refine gate_guard (by rfl) ?_; dsimp only)); refine bx_ (N := 2) (cs := #[.int .i64 0, .int .i64 0]) (t := 28) ?_; intro gb243 hg w13 hbox hb; have n0_ := Aside0.mk (Kd.N_below (Kd.N_elderB (by (with_reducible repeat (first | apply Kd.N_alloc | apply Kd.N_drewN | apply Kd.N_drew)); exact HO237.out) gb243 (Nat.le_of_eq hg.symm)) hb); have n1_ := Aside0.mk (Kd.R_below (by (with_reducible repeat (first | apply Kd.R_alloc | apply Kd.R_drewN | apply Kd.R_drew)); exact HO240.out) hb); have n2_ := Aside0.mk (below_step (bw_ HB) hb); have n3_ := Aside0.mk (hbox); have n4_ := Aside0.mk ((by rw [hg]; exact (below_size (bw_ HB)) : w.heap.size ≤ gb243)); have n5_ := Aside0.mk ((by rw [hg]; exact (below_size (bw_ HB)) : w.heap.size ≤ gb243)); clear HO237; clear HO240; clear HB; have HO237 := n0_; have HO240 := n1_; have HB := n2_; have BK243 := n3_; have GW243 := n4_; have GE243 := n5_; clear n0_ n1_ n2_ n3_ n4_ n5_; clear hb hbox hg; obtain ⟨hcz14_0, hcz14_1, hfz14_0, hfz14_1⟩ := cz2_ BK243) | ((with_reducible refine gate_callee (f := 44) rfl ?_); refine goesL_ (some 11) rfl rfl Try.func44 (by kernel_rfl) rfl #[] rfl ar_ ?_; (with_reducible refine (linkhouselaw7_diamond.calls  t244 _ A3.out).mono ?_); rintro e w15 ⟨v245, rfl, ho0, hb⟩; refine ⟨_, rfl, ?_⟩; have n0_ := Aside0.mk (Kd.N_elder' (by (with_reducible repeat (first | apply Kd.N_alloc | apply Kd.N_drewN | apply Kd.N_drew)); exact (Kd.N_mono (Kd.N_far (p := ⟨gb243, 1, none⟩) (Kd.N_far (p := ⟨gb243, 0, none⟩) (Kd.N_mono HO237.out (fun k_ hk => (⟨hk, hk.2⟩ : _ ∧ k_ ≠ gb243))) (fun _ hk => hk.2) (.int .i64 t241)) (fun _ hk => hk.2) (.int .i64 t242)) (fun _ h_ => h_.1))) (Kd.N_base ho0) hb); have n1_ := Aside0.mk (Kd.R_below (by (with_reducible repeat (first | apply Kd.R_alloc | apply Kd.R_drewN | apply Kd.R_drew)); exact (Kd.R_mono (Kd.R_far (p := ⟨gb243, 1, none⟩) (Kd.R_far (p := ⟨gb243, 0, none⟩) (Kd.R_types HO240.out BK243.out (by decide)) (fun _ hk => hk.2) (.int .i64 t241)) (fun _ hk => hk.2) (.int .i64 t242)) (fun _ h_ => h_.1))) hb); have n2_ := Aside0.mk (Kd.N_lower (Kd.N_mono (ok' := fun k_ => some k_ ≠ (.slice Ao11 t235.length co11 : Value).ownBlock ∧ some k_ ≠ (v239 : Value).ownBlock ∧ k_ ≠ gb243) ho0 (fun k_ hk_ => ⟨(Kd.fresh' (Kd.N_lt (by (with_reducible repeat (first | apply Kd.N_alloc | apply Kd.N_drewN | apply Kd.N_drew)); exact (Kd.N_mono (Kd.N_far (p := ⟨gb243, 1, none⟩) (Kd.N_far (p := ⟨gb243, 0, none⟩) (Kd.N_mono HO237.out (fun k_ hk => (⟨hk, hk.2⟩ : _ ∧ k_ ≠ gb243))) (fun _ hk => hk.2) (.int .i64 t241)) (fun _ hk => hk.2) (.int .i64 t242)) (fun _ h_ => h_.1)))) k_ hk_), (Kd.fresh' (Kd.R_lt (by (with_reducible repeat (first | apply Kd.R_alloc | apply Kd.R_drewN | apply Kd.R_drew)); exact (Kd.R_mono (Kd.R_far (p := ⟨gb243, 1, none⟩) (Kd.R_far (p := ⟨gb243, 0, none⟩) (Kd.R_types HO240.out BK243.out (by decide)) (fun _ hk => hk.2) (.int .i64 t241)) (fun _ hk => hk.2) (.int .i64 t242)) (fun _ h_ => h_.1)))) k_ hk_), (Kd.freshB (g := gb243) (o := .cells #[.int .i64 t241, .int .i64 t242] 28 (0, 0)) (bk_ BK243) k_ hk_)⟩)) (below_size (bw_ HB))); have n3_ := Aside0.mk (blk_below (g := gb243) (o := .cells #[.int .i64 t241, .int .i64 t242] 28 (0, 0)) (bk_ BK243) hb); have n4_ := Aside0.mk (below_step (bw_ HB) hb); clear HO237; clear HO240; clear BK243; clear HB; have HO237 := n0_; have HO240 := n1_; have HO246 := n2_; have BK243 := n3_; have HB := n4_; clear n0_ n1_ n2_ n3_ n4_; (try clear hb); (try clear hb2); (try clear hk); (try clear hi); (try clear ho0); obtain ⟨Ao16, co16, eo16⟩ := Kd.N_slice HO246.out; subst eo16) | ((with_reducible refine gate_callee (f := 24) rfl ?_); refine goesL_ (some 12) rfl rfl Try.func24 (by kernel_rfl) rfl #[.slice Ao16 t244.length co16, .int .i64 0] rfl ar_ ?_; (with_reducible refine (flow_Loops.calls k _ _ t244 0 t247 t250 t251 _ ?side1 ?side2 A4.out).mono ?_); (case side1 => repeat (first | exact (Kd.N_reads' HO246.out).2.2 | (with_reducible refine Kd.C_alloc ?_ _) | (with_reducible refine Kd.C_drewN ?_ _) | (with_reducible refine Kd.C_drew ?_))); (case side2 => exact (Kd.N_reads' HO246.out).2.1); rintro e w17 ⟨v248, rfl, ho0, hb⟩; refine ⟨_, rfl, ?_⟩; have n0_ := Aside0.mk (Kd.N_elder' (by (with_reducible repeat (first | apply Kd.N_alloc | apply Kd.N_drewN | apply Kd.N_drew)); exact HO237.out) (Kd.N_base (Kd.S_N (Kd.S_bound ho0))) hb); have n1_ := Aside0.mk (Kd.R_below (by (with_reducible repeat (first | apply Kd.R_alloc | apply Kd.R_drewN | apply Kd.R_drew)); exact HO240.out) hb); have n2_ := Aside0.mk (Kd.N_elder' (by (with_reducible repeat (first | apply Kd.N_alloc | apply Kd.N_drewN | apply Kd.N_drew)); exact HO246.out) (Kd.N_base (Kd.S_N (Kd.S_bound ho0))) hb); have n3_ := Aside0.mk (Kd.N_lower (Kd.N_mono (ok' := fun k_ => some k_ ≠ (.slice Ao11 t235.length co11 : Value).ownBlock ∧ some k_ ≠ (v239 : Value).ownBlock ∧ some k_ ≠ (.slice Ao16 t244.length co16 : Value).ownBlock ∧ k_ ≠ gb243) (Kd.S_N (Kd.S_bound ho0)) (fun k_ hk_ => ⟨(Kd.fresh' (Kd.N_lt (by (with_reducible repeat (first | apply Kd.N_alloc | apply Kd.N_drewN | apply Kd.N_drew)); exact HO237.out)) k_ hk_.2.1), (Kd.fresh' (Kd.R_lt (by (with_reducible repeat (first | apply Kd.R_alloc | apply Kd.R_drewN | apply Kd.R_drew)); exact HO240.out)) k_ hk_.2.1), (Kd.fresh' (Kd.N_lt (by (with_reducible repeat (first | apply Kd.N_alloc | apply Kd.N_drewN | apply Kd.N_drew)); exact HO246.out)) k_ hk_.2.1), (Kd.freshB (g := gb243) (o := .cells #[.int .i64 t241, .int .i64 t242] 28 (0, 0)) (bk_ BK243) k_ hk_.2.1)⟩)) (below_size (bw_ HB))); have n4_ := Aside0.mk (blk_below (g := gb243) (o := .cells #[.int .i64 t241, .int .i64 t242] 28 (0, 0)) (bk_ BK243) hb); have n5_ := Aside0.mk (below_step (bw_ HB) hb); clear HO237; clear HO240; clear HO246; clear BK243; clear HB; have HO237 := n0_; have HO240 := n1_; have HO246 := n2_; have HO249 := n3_; have BK243 := n4_; have HB := n5_; clear n0_ n1_ n2_ n3_ n4_ n5_; (try clear hb); (try clear hb2); (try clear hk); (try clear hi); (try clear ho0)) | ((with_reducible refine gate_dst (N := 4) rfl ?_); (try (refine gate_guard (by rfl) ?_; dsimp only)); refine bx_ (N := 4) (cs := #[.int .i64 0, .int .i64 0]) (t := 28) ?_; intro gb252 hg w18 hbox hb; have n0_ := Aside0.mk (Kd.N_below (Kd.N_elderB (by (with_reducible repeat (first | apply Kd.N_alloc | apply Kd.N_drewN | apply Kd.N_drew)); exact HO237.out) gb252 (Nat.le_of_eq hg.symm)) hb); have n1_ := Aside0.mk (Kd.R_below (by (with_reducible repeat (first | apply Kd.R_alloc | apply Kd.R_drewN | apply Kd.R_drew)); exact HO240.out) hb); have n2_ := Aside0.mk (Kd.N_below (Kd.N_elderB (by (with_reducible repeat (first | apply Kd.N_alloc | apply Kd.N_drewN | apply Kd.N_drew)); exact HO246.out) gb252 (Nat.le_of_eq hg.symm)) hb); have n3_ := Aside0.mk (Kd.N_below (Kd.N_elderB (by (with_reducible repeat (first | apply Kd.N_alloc | apply Kd.N_drewN | apply Kd.N_drew)); exact HO249.out) gb252 (Nat.le_of_eq hg.symm)) hb); have n4_ := Aside0.mk (blk_below (g := gb243) (o := .cells #[.int .i64 t241, .int .i64 t242] 28 (0, 0)) (bk_ BK243) hb); have n5_ := Aside0.mk (below_step (bw_ HB) hb); have n6_ := Aside0.mk (hbox); have n7_ := Aside0.mk ((by rw [hg]; exact (below_size (bw_ HB)) : w.heap.size ≤ gb252)); have n8_ := Aside0.mk ((by rw [hg]; exact (below_size (bw_ HB)) : w.heap.size ≤ gb252)); have n9_ := Aside0.mk ((by rw [hg]; exact Nat.ne_of_lt (blk_lt (g := gb243) (o := .cells #[.int .i64 t241, .int .i64 t242] 28 (0, 0)) (bk_ BK243)) : gb243 ≠ gb252)); have n10_ := Aside0.mk ((by rw [hg]; exact Nat.ne_of_gt (blk_lt (g := gb243) (o := .cells #[.int .i64 t241, .int .i64 t242] 28 (0, 0)) (bk_ BK243)) : gb252 ≠ gb243)); clear HO237; clear HO240; clear HO246; clear HO249; clear BK243; clear HB; have HO237 := n0_; have HO240 := n1_; have HO246 := n2_; have HO249 := n3_; have BK243 := n4_; have HB := n5_; have BK252 := n6_; have GW252 := n7_; have GE252 := n8_; have NB243_252 := n9_; have NB252_243 := n10_; clear n0_ n1_ n2_ n3_ n4_ n5_ n6_ n7_ n8_ n9_ n10_; clear hb hbox hg; have hnb19 := NB252_243.out; have hnc19 := NB243_252.out; obtain ⟨hcz20_0, hcz20_1, hfz20_0, hfz20_1⟩ := cz2_ BK252; obtain ⟨hcz21_0, hcz21_1, hfz21_0, hfz21_1⟩ := cz2_ BK243) | ((with_reducible refine gate_dst (N := 25) rfl ?_); (try (refine gate_guard (by rfl) ?_; dsimp only)); refine Kd.R_lit (Kd.int .i64) _ 3 ?hg (N := 25) ?hd (xs := ([0, 0, 0, 0] : List Int)) (inner := [.int .i64 0, .int .i64 0, .int .i64 0, .int .i64 0]) (ok := fun _ => True) (okp := fun _ => True) ?hr ?hp (fun _ hk => hk) trivial (Below.refl _ _) (Nat.le_refl _) (by simp) ?_; (case hd => rfl); (case hg => rfl); (case hr => first | (go_simp; done) | (go_simp; rfl)); (case hp => exact (Reps.one (show Kd.M (Kd.int .i64) _ _ _ 0 [.int .i64 0] from rfl) (Reps.one (show Kd.M (Kd.int .i64) _ _ _ 0 [.int .i64 0] from rfl) (Reps.one (show Kd.M (Kd.int .i64) _ _ _ 0 [.int .i64 0] from rfl) (Reps.one (show Kd.M (Kd.int .i64) _ _ _ 0 [.int .i64 0] from rfl) (Reps.none _ _)))))); intro v254 w22 ho23 hb hg_ hnew_; clear hg_ hnew_; (first | rw [← Ny253.out] at ho23 | (simp only [Int.reduceToNat] at ho23; rw [← Ny253.out] at ho23)); have n0_ := Aside0.mk (Kd.N_elder' (by (with_reducible repeat (first | apply Kd.N_alloc | apply Kd.N_drewN | apply Kd.N_drew)); exact (Kd.N_mono (Kd.N_far (p := ⟨gb252, 1, none⟩) (Kd.N_far (p := ⟨gb252, 0, none⟩) (Kd.N_mono HO237.out (fun k_ hk => (⟨hk, hk.2⟩ : _ ∧ k_ ≠ gb252))) (fun _ hk => hk.2) (.int .i64 t250)) (fun _ hk => hk.2) (.int .i64 t251)) (fun _ h_ => h_.1))) (Kd.R_base ho23) hb); have n1_ := Aside0.mk (Kd.R_elder' (by (with_reducible repeat (first | apply Kd.R_alloc | apply Kd.R_drewN | apply Kd.R_drew)); exact (Kd.R_mono (Kd.R_far (p := ⟨gb252, 1, none⟩) (Kd.R_far (p := ⟨gb252, 0, none⟩) (Kd.R_types HO240.out BK252.out (by decide)) (fun _ hk => hk.2) (.int .i64 t250)) (fun _ hk => hk.2) (.int .i64 t251)) (fun _ h_ => h_.1))) (Kd.R_base ho23) hb); have n2_ := Aside0.mk (Kd.N_elder' (by (with_reducible repeat (first | apply Kd.N_alloc | apply Kd.N_drewN | apply Kd.N_drew)); exact (Kd.N_mono (Kd.N_far (p := ⟨gb252, 1, none⟩) (Kd.N_far (p := ⟨gb252, 0, none⟩) (Kd.N_mono HO246.out (fun k_ hk => (⟨hk, hk.2⟩ : _ ∧ k_ ≠ gb252))) (fun _ hk => hk.2) (.int .i64 t250)) (fun _ hk => hk.2) (.int .i64 t251)) (fun _ h_ => h_.1))) (Kd.R_base ho23) hb); have n3_ := Aside0.mk (Kd.N_elder' (by (with_reducible repeat (first | apply Kd.N_alloc | apply Kd.N_drewN | apply Kd.N_drew)); exact (Kd.N_mono (Kd.N_far (p := ⟨gb252, 1, none⟩) (Kd.N_far (p := ⟨gb252, 0, none⟩) (Kd.N_mono HO249.out (fun k_ hk => (⟨hk, hk.2⟩ : _ ∧ k_ ≠ gb252))) (fun _ hk => hk.2) (.int .i64 t250)) (fun _ hk => hk.2) (.int .i64 t251)) (fun _ h_ => h_.1))) (Kd.R_base ho23) hb); have n4_ := Aside0.mk (Kd.R_lower (Kd.R_new' ho23 (Kd.R_lt (by (with_reducible repeat (first | apply Kd.R_alloc | apply Kd.R_drewN | apply Kd.R_drew)); exact (Kd.R_mono (Kd.R_far (p := ⟨gb252, 1, none⟩) (Kd.R_far (p := ⟨gb252, 0, none⟩) (Kd.R_types HO240.out BK252.out (by decide)) (fun _ hk => hk.2) (.int .i64 t250)) (fun _ hk => hk.2) (.int .i64 t251)) (fun _ h_ => h_.1))))) (below_size (bw_ HB))); have n5_ := Aside0.mk (blk_below (g := gb243) (o := .cells #[.int .i64 t241, .int .i64 t242] 28 (0, 0)) (bk_ BK243) hb); have n6_ := Aside0.mk (blk_below (g := gb252) (o := .cells #[.int .i64 t250, .int .i64 t251] 28 (0, 0)) (bk_ BK252) hb); have n7_ := Aside0.mk (below_step (bw_ HB) hb); clear HO237; clear HO240; clear HO246; clear HO249; clear BK243; clear BK252; clear HB; have HO237 := n0_; have HO240 := n1_; have HO246 := n2_; have HO249 := n3_; have HO255 := n4_; have BK243 := n5_; have BK252 := n6_; have HB := n7_; clear n0_ n1_ n2_ n3_ n4_ n5_ n6_ n7_; clear hb ho23; obtain ⟨Ao24, co24, eo24⟩ := Kd.R_slice HO240.out; subst eo24; obtain ⟨Ao25, co25, eo25⟩ := Kd.R_slice HO255.out; subst eo25) | (go_at_call 23; (with_reducible refine (linkhouseref7_SameInts.calls k _ _ t238 _ _ y253 true _ ?side1 ?side2 ?side3 ?side4 A7.out).mono ?_); (case side1 => repeat (first | exact (Kd.R_reads' HO240.out).2.2 | (with_reducible refine Kd.C_alloc ?_ _) | (with_reducible refine Kd.C_drewN ?_ _) | (with_reducible refine Kd.C_drew ?_))); (case side2 => exact (Kd.R_reads' HO240.out).2.1); (case side3 => repeat (first | exact (Kd.R_reads' HO255.out).2.2 | (with_reducible refine Kd.C_alloc ?_ _) | (with_reducible refine Kd.C_drewN ?_ _) | (with_reducible refine Kd.C_drew ?_))); (case side4 => exact (Kd.R_reads' HO255.out).2.1); rintro e w' ⟨rfl, ⟨nd, rfl⟩⟩) | ((with_reducible refine gate_dst (N := 30) rfl ?_); (try (refine gate_guard (by rfl) ?_; dsimp only)); refine Kd.R_lit (Kd.int .i64) _ 3 ?hg (N := 30) ?hd (xs := ([0, 1, 2, 3] : List Int)) (inner := [.int .i64 0, .int .i64 1, .int .i64 2, .int .i64 3]) (ok := fun _ => True) (okp := fun _ => True) ?hr ?hp (fun _ hk => hk) trivial (Below.refl _ _) (Nat.le_refl _) (by simp) ?_; (case hd => rfl); (case hg => rfl); (case hr => first | (go_simp; done) | (go_simp; rfl)); (case hp => exact (Reps.one (show Kd.M (Kd.int .i64) _ _ _ 0 [.int .i64 0] from rfl) (Reps.one (show Kd.M (Kd.int .i64) _ _ _ 1 [.int .i64 1] from rfl) (Reps.one (show Kd.M (Kd.int .i64) _ _ _ 2 [.int .i64 2] from rfl) (Reps.one (show Kd.M (Kd.int .i64) _ _ _ 3 [.int .i64 3] from rfl) (Reps.none _ _)))))); intro v258 w26 ho27 hb hg_ hnew_; clear hg_ hnew_; (first | rw [← Ny257.out] at ho27 | (simp only [Int.reduceToNat] at ho27; rw [← Ny257.out] at ho27)); have n0_ := Aside0.mk (Kd.N_elder' (by (with_reducible repeat (first | apply Kd.N_alloc | apply Kd.N_drewN | apply Kd.N_drew)); exact HO237.out) (Kd.R_base ho27) hb); have n1_ := Aside0.mk (Kd.R_elder' (by (with_reducible repeat (first | apply Kd.R_alloc | apply Kd.R_drewN | apply Kd.R_drew)); exact HO240.out) (Kd.R_base ho27) hb); have n2_ := Aside0.mk (Kd.N_elder' (by (with_reducible repeat (first | apply Kd.N_alloc | apply Kd.N_drewN | apply Kd.N_drew)); exact HO246.out) (Kd.R_base ho27) hb); have n3_ := Aside0.mk (Kd.N_elder' (by (with_reducible repeat (first | apply Kd.N_alloc | apply Kd.N_drewN | apply Kd.N_drew)); exact HO249.out) (Kd.R_base ho27) hb); have n4_ := Aside0.mk (Kd.R_elder' (by (with_reducible repeat (first | apply Kd.R_alloc | apply Kd.R_drewN | apply Kd.R_drew)); exact HO255.out) (Kd.R_base ho27) hb); have n5_ := Aside0.mk (Kd.R_lower (Kd.R_new' (Kd.R_new' ho27 (Kd.R_lt (by (with_reducible repeat (first | apply Kd.R_alloc | apply Kd.R_drewN | apply Kd.R_drew)); exact HO240.out))) (Kd.R_lt (by (with_reducible repeat (first | apply Kd.R_alloc | apply Kd.R_drewN | apply Kd.R_drew)); exact HO255.out))) (below_size (bw_ HB))); have n6_ := Aside0.mk (blk_below (g := gb243) (o := .cells #[.int .i64 t241, .int .i64 t242] 28 (0, 0)) (bk_ BK243) hb); have n7_ := Aside0.mk (blk_below (g := gb252) (o := .cells #[.int .i64 t250, .int .i64 t251] 28 (0, 0)) (bk_ BK252) hb); have n8_ := Aside0.mk (below_step (bw_ HB) hb); clear HO237; clear HO240; clear HO246; clear HO249; clear HO255; clear BK243; clear BK252; clear HB; have HO237 := n0_; have HO240 := n1_; have HO246 := n2_; have HO249 := n3_; have HO255 := n4_; have HO259 := n5_; have BK243 := n6_; have BK252 := n7_; have HB := n8_; clear n0_ n1_ n2_ n3_ n4_ n5_ n6_ n7_ n8_; clear hb ho27; obtain ⟨Ao28, co28, eo28⟩ := Kd.R_slice HO259.out; subst eo28) | ((with_reducible refine gate_dst (N := 32) rfl ?_); (try (refine gate_guard (by rfl) ?_; dsimp only)); refine Kd.N_lit k68 _ 68 ?hg (N' := 32) ?hd (xs := ([(⟨0, y257⟩ : S68)] : List (S68))) (inner := [.int .i64 0, .slice Ao28 y257.length co28]) (ok := (fun k_ => some k_ ≠ (.slice Ao11 t235.length co11 : Value).ownBlock ∧ some k_ ≠ (.slice Ao24 t238.length co24 : Value).ownBlock ∧ some k_ ≠ (.slice Ao16 t244.length co16 : Value).ownBlock ∧ some k_ ≠ (v248 : Value).ownBlock ∧ some k_ ≠ (.slice Ao25 y253.length co25 : Value).ownBlock ∧ k_ ≠ gb243 ∧ k_ ≠ gb252)) (okp := (fun k_ => some k_ ≠ (.slice Ao11 t235.length co11 : Value).ownBlock ∧ some k_ ≠ (.slice Ao24 t238.length co24 : Value).ownBlock ∧ some k_ ≠ (.slice Ao16 t244.length co16 : Value).ownBlock ∧ some k_ ≠ (v248 : Value).ownBlock ∧ some k_ ≠ (.slice Ao25 y253.length co25 : Value).ownBlock ∧ k_ ≠ gb243 ∧ k_ ≠ gb252)) ?hr ?hp (fun _ hk => hk) ((show ∀ k_, w26.heap.size ≤ k_ → (fun k_ => some k_ ≠ (.slice Ao11 t235.length co11 : Value).ownBlock ∧ some k_ ≠ (.slice Ao24 t238.length co24 : Value).ownBlock ∧ some k_ ≠ (.slice Ao16 t244.length co16 : Value).ownBlock ∧ some k_ ≠ (v248 : Value).ownBlock ∧ some k_ ≠ (.slice Ao25 y253.length co25 : Value).ownBlock ∧ k_ ≠ gb243 ∧ k_ ≠ gb252) k_ from fun k_ hk => ⟨Kd.fresh' (Kd.N_lt (by (with_reducible repeat (first | apply Kd.N_alloc | apply Kd.N_drewN | apply Kd.N_drew)); exact HO237.out)) k_ hk, Kd.fresh' (Kd.R_lt (by (with_reducible repeat (first | apply Kd.R_alloc | apply Kd.R_drewN | apply Kd.R_drew)); exact HO240.out)) k_ hk, Kd.fresh' (Kd.N_lt (by (with_reducible repeat (first | apply Kd.N_alloc | apply Kd.N_drewN | apply Kd.N_drew)); exact HO246.out)) k_ hk, Kd.fresh' (Kd.N_lt (by (with_reducible repeat (first | apply Kd.N_alloc | apply Kd.N_drewN | apply Kd.N_drew)); exact HO249.out)) k_ hk, Kd.fresh' (Kd.R_lt (by (with_reducible repeat (first | apply Kd.R_alloc | apply Kd.R_drewN | apply Kd.R_drew)); exact HO255.out)) k_ hk, Kd.freshB (g := gb243) (o := .cells #[.int .i64 t241, .int .i64 t242] 28 (0, 0)) (bk_ BK243) k_ hk, Kd.freshB (g := gb252) (o := .cells #[.int .i64 t250, .int .i64 t251] 28 (0, 0)) (bk_ BK252) k_ hk⟩) _ (Nat.le_refl _)) (Below.refl _ _) (Nat.le_refl _) (by simp) ?_; (case hd => rfl); (case hg => rfl); (case hr => first | (go_simp; done) | (go_simp; rfl)); (case hp => exact (Reps.c2 (show Kd.FK k68 _ _ (⟨0, y257⟩ : S68) [.int .i64 0, .slice Ao28 y257.length co28] from (k68_mkF _ _ (⟨0, y257⟩ : S68) (Kd.R_reads' (Kd.R_mono (ok' := (fun k_ => some k_ ≠ (.slice Ao11 t235.length co11 : Value).ownBlock ∧ some k_ ≠ (.slice Ao24 t238.length co24 : Value).ownBlock ∧ some k_ ≠ (.slice Ao16 t244.length co16 : Value).ownBlock ∧ some k_ ≠ (v248 : Value).ownBlock ∧ some k_ ≠ (.slice Ao25 y253.length co25 : Value).ownBlock ∧ k_ ≠ gb243 ∧ k_ ≠ gb252)) (Kd.R_types (Kd.R_types (Kd.R_apart' (Kd.R_apart' (Kd.R_apart' (HO259.out) (Kd.N_typed HO237.out) (by decide)) (Kd.N_typed HO246.out) (by decide)) (Kd.N_typed HO249.out) (by decide)) BK243.out (by decide)) BK252.out (by decide)) (fun k_ hk => ⟨hk.1.1.1.1.2, ⟨hk.1.1.1.1.1.1.2, ⟨hk.1.1.1.2, ⟨hk.1.1.2, ⟨hk.1.1.1.1.1.2, ⟨hk.1.2, hk.2⟩⟩⟩⟩⟩⟩))).2.1 (Kd.R_F (Kd.R_mono (ok' := (fun k_ => some k_ ≠ (.slice Ao11 t235.length co11 : Value).ownBlock ∧ some k_ ≠ (.slice Ao24 t238.length co24 : Value).ownBlock ∧ some k_ ≠ (.slice Ao16 t244.length co16 : Value).ownBlock ∧ some k_ ≠ (v248 : Value).ownBlock ∧ some k_ ≠ (.slice Ao25 y253.length co25 : Value).ownBlock ∧ k_ ≠ gb243 ∧ k_ ≠ gb252)) (Kd.R_types (Kd.R_types (Kd.R_apart' (Kd.R_apart' (Kd.R_apart' (HO259.out) (Kd.N_typed HO237.out) (by decide)) (Kd.N_typed HO246.out) (by decide)) (Kd.N_typed HO249.out) (by decide)) BK243.out (by decide)) BK252.out (by decide)) (fun k_ hk => ⟨hk.1.1.1.1.2, ⟨hk.1.1.1.1.1.1.2, ⟨hk.1.1.1.2, ⟨hk.1.1.2, ⟨hk.1.1.1.1.1.2, ⟨hk.1.2, hk.2⟩⟩⟩⟩⟩⟩))))) (Reps.none _ _))); intro v261 w29 ho30 hb hg_ hnew_; clear hg_ hnew_; (first | rw [← Ny260.out] at ho30 | (simp only [Int.reduceToNat] at ho30; rw [← Ny260.out] at ho30)); have n0_ := Aside0.mk (Kd.N_elder' (by (with_reducible repeat (first | apply Kd.N_alloc | apply Kd.N_drewN | apply Kd.N_drew)); exact HO237.out) (Kd.N_base ho30) hb); have n1_ := Aside0.mk (Kd.R_below (by (with_reducible repeat (first | apply Kd.R_alloc | apply Kd.R_drewN | apply Kd.R_drew)); exact HO240.out) hb); have n2_ := Aside0.mk (Kd.N_elder' (by (with_reducible repeat (first | apply Kd.N_alloc | apply Kd.N_drewN | apply Kd.N_drew)); exact HO246.out) (Kd.N_base ho30) hb); have n3_ := Aside0.mk (Kd.N_elder' (by (with_reducible repeat (first | apply Kd.N_alloc | apply Kd.N_drewN | apply Kd.N_drew)); exact HO249.out) (Kd.N_base ho30) hb); have n4_ := Aside0.mk (Kd.R_below (by (with_reducible repeat (first | apply Kd.R_alloc | apply Kd.R_drewN | apply Kd.R_drew)); exact HO255.out) hb); have n5_ := Aside0.mk (Kd.N_lower ho30 (below_size (bw_ HB))); have n6_ := Aside0.mk (blk_below (g := gb243) (o := .cells #[.int .i64 t241, .int .i64 t242] 28 (0, 0)) (bk_ BK243) hb); have n7_ := Aside0.mk (blk_below (g := gb252) (o := .cells #[.int .i64 t250, .int .i64 t251] 28 (0, 0)) (bk_ BK252) hb); have n8_ := Aside0.mk (below_step (bw_ HB) hb); clear HO237; clear HO240; clear HO246; clear HO249; clear HO255; clear BK243; clear BK252; clear HB; clear HO259; have HO237 := n0_; have HO240 := n1_; have HO246 := n2_; have HO249 := n3_; have HO255 := n4_; have HO262 := n5_; have BK243 := n6_; have BK252 := n7_; have HB := n8_; clear n0_ n1_ n2_ n3_ n4_ n5_ n6_ n7_ n8_; clear hb ho30; obtain ⟨Ao31, co31, eo31⟩ := Kd.N_slice HO249.out; subst eo31; obtain ⟨Ao32, co32, eo32⟩ := Kd.N_slice HO262.out; subst eo32) | (go_at_call 25; (with_reducible refine (linkhouseref7_SameLoops.calls k _ _ t247 _ _ y260 t263 _ ?side1 ?side2 ?side3 ?side4 A9.out).mono ?_); (case side1 => repeat (first | exact (Kd.N_reads' HO249.out).2.2 | (with_reducible refine Kd.C_alloc ?_ _) | (with_reducible refine Kd.C_drewN ?_ _) | (with_reducible refine Kd.C_drew ?_))); (case side2 => exact (Kd.N_reads' HO249.out).2.1); (case side3 => repeat (first | exact (Kd.N_reads' HO262.out).2.2 | (with_reducible refine Kd.C_alloc ?_ _) | (with_reducible refine Kd.C_drewN ?_ _) | (with_reducible refine Kd.C_drew ?_))); (case side4 => exact (Kd.N_reads' HO262.out).2.1); rintro e w' ⟨rfl, ⟨nd, rfl⟩⟩))
    go_ret
    exact ⟨id_, bw_ HB⟩
   ·
    replace c8 := Bool.eq_false_iff.mpr c8
    subst c8
    have H1 : (some false) = some r := by rw [if_neg (show ¬ (false = true) by decide)] at H; exact H
    clear H
    have H := H1
    clear H1
    obtain rfl := Option.some.inj H
    go_enter Try.func21, Try.ntmps21
    go_wp2_with (first | ((with_reducible refine gate_callee (f := 44) rfl ?_); refine goesL_ (some 6) rfl rfl Try.func44 (by kernel_rfl) rfl #[] rfl ar_ ?_; (with_reducible refine (linkhouselaw7_diamond.calls  t235 _ A1.out).mono ?_); rintro e w33 ⟨v236, rfl, ho0, hb⟩; refine ⟨_, rfl, ?_⟩; have n0_ := Aside0.mk (Kd.N_lower (Kd.N_mono (ok' := fun k_ => True) ho0 (fun k_ hk_ => trivial)) (below_size (bw_ HB))); have n1_ := Aside0.mk (below_step (bw_ HB) hb); clear HB; have HO237 := n0_; have HB := n1_; clear n0_ n1_; (try clear hb); (try clear hb2); (try clear hk); (try clear hi); (try clear ho0); obtain ⟨Ao34, co34, eo34⟩ := Kd.N_slice HO237.out; subst eo34) | ((with_reducible refine gate_callee (f := 19) rfl ?_); refine goesL_ (some 7) rfl rfl Try.func19 (by kernel_rfl) rfl #[.slice Ao34 t235.length co34, .int .i64 0] rfl ar_ ?_; (with_reducible refine (flow_Dominators.calls k _ _ t235 0 t238 t241 t242 _ ?side1 ?side2 A2.out).mono ?_); (case side1 => repeat (first | exact (Kd.N_reads' HO237.out).2.2 | (with_reducible refine Kd.C_alloc ?_ _) | (with_reducible refine Kd.C_drewN ?_ _) | (with_reducible refine Kd.C_drew ?_))); (case side2 => exact (Kd.N_reads' HO237.out).2.1); rintro e w35 ⟨v239, rfl, ho0, hb⟩; refine ⟨_, rfl, ?_⟩; have n0_ := Aside0.mk (Kd.N_elder' (by (with_reducible repeat (first | apply Kd.N_alloc | apply Kd.N_drewN | apply Kd.N_drew)); exact HO237.out) (Kd.R_base ho0) hb); have n1_ := Aside0.mk (Kd.R_lower ho0 (below_size (bw_ HB))); have n2_ := Aside0.mk (below_step (bw_ HB) hb); clear HO237; clear HB; have HO237 := n0_; have HO240 := n1_; have HB := n2_; clear n0_ n1_ n2_; (try clear hb); (try clear hb2); (try clear hk); (try clear hi); (try clear ho0)) | ((with_reducible refine gate_dst (N := 2) rfl ?_); (try (refine gate_guard (by rfl) ?_; dsimp only)); refine bx_ (N := 2) (cs := #[.int .i64 0, .int .i64 0]) (t := 28) ?_; intro gb243 hg w36 hbox hb; have n0_ := Aside0.mk (Kd.N_below (Kd.N_elderB (by (with_reducible repeat (first | apply Kd.N_alloc | apply Kd.N_drewN | apply Kd.N_drew)); exact HO237.out) gb243 (Nat.le_of_eq hg.symm)) hb); have n1_ := Aside0.mk (Kd.R_below (by (with_reducible repeat (first | apply Kd.R_alloc | apply Kd.R_drewN | apply Kd.R_drew)); exact HO240.out) hb); have n2_ := Aside0.mk (below_step (bw_ HB) hb); have n3_ := Aside0.mk (hbox); have n4_ := Aside0.mk ((by rw [hg]; exact (below_size (bw_ HB)) : w.heap.size ≤ gb243)); have n5_ := Aside0.mk ((by rw [hg]; exact (below_size (bw_ HB)) : w.heap.size ≤ gb243)); clear HO237; clear HO240; clear HB; have HO237 := n0_; have HO240 := n1_; have HB := n2_; have BK243 := n3_; have GW243 := n4_; have GE243 := n5_; clear n0_ n1_ n2_ n3_ n4_ n5_; clear hb hbox hg; obtain ⟨hcz37_0, hcz37_1, hfz37_0, hfz37_1⟩ := cz2_ BK243) | ((with_reducible refine gate_callee (f := 44) rfl ?_); refine goesL_ (some 11) rfl rfl Try.func44 (by kernel_rfl) rfl #[] rfl ar_ ?_; (with_reducible refine (linkhouselaw7_diamond.calls  t244 _ A3.out).mono ?_); rintro e w38 ⟨v245, rfl, ho0, hb⟩; refine ⟨_, rfl, ?_⟩; have n0_ := Aside0.mk (Kd.N_elder' (by (with_reducible repeat (first | apply Kd.N_alloc | apply Kd.N_drewN | apply Kd.N_drew)); exact (Kd.N_mono (Kd.N_far (p := ⟨gb243, 1, none⟩) (Kd.N_far (p := ⟨gb243, 0, none⟩) (Kd.N_mono HO237.out (fun k_ hk => (⟨hk, hk.2⟩ : _ ∧ k_ ≠ gb243))) (fun _ hk => hk.2) (.int .i64 t241)) (fun _ hk => hk.2) (.int .i64 t242)) (fun _ h_ => h_.1))) (Kd.N_base ho0) hb); have n1_ := Aside0.mk (Kd.R_below (by (with_reducible repeat (first | apply Kd.R_alloc | apply Kd.R_drewN | apply Kd.R_drew)); exact (Kd.R_mono (Kd.R_far (p := ⟨gb243, 1, none⟩) (Kd.R_far (p := ⟨gb243, 0, none⟩) (Kd.R_types HO240.out BK243.out (by decide)) (fun _ hk => hk.2) (.int .i64 t241)) (fun _ hk => hk.2) (.int .i64 t242)) (fun _ h_ => h_.1))) hb); have n2_ := Aside0.mk (Kd.N_lower (Kd.N_mono (ok' := fun k_ => some k_ ≠ (.slice Ao34 t235.length co34 : Value).ownBlock ∧ some k_ ≠ (v239 : Value).ownBlock ∧ k_ ≠ gb243) ho0 (fun k_ hk_ => ⟨(Kd.fresh' (Kd.N_lt (by (with_reducible repeat (first | apply Kd.N_alloc | apply Kd.N_drewN | apply Kd.N_drew)); exact (Kd.N_mono (Kd.N_far (p := ⟨gb243, 1, none⟩) (Kd.N_far (p := ⟨gb243, 0, none⟩) (Kd.N_mono HO237.out (fun k_ hk => (⟨hk, hk.2⟩ : _ ∧ k_ ≠ gb243))) (fun _ hk => hk.2) (.int .i64 t241)) (fun _ hk => hk.2) (.int .i64 t242)) (fun _ h_ => h_.1)))) k_ hk_), (Kd.fresh' (Kd.R_lt (by (with_reducible repeat (first | apply Kd.R_alloc | apply Kd.R_drewN | apply Kd.R_drew)); exact (Kd.R_mono (Kd.R_far (p := ⟨gb243, 1, none⟩) (Kd.R_far (p := ⟨gb243, 0, none⟩) (Kd.R_types HO240.out BK243.out (by decide)) (fun _ hk => hk.2) (.int .i64 t241)) (fun _ hk => hk.2) (.int .i64 t242)) (fun _ h_ => h_.1)))) k_ hk_), (Kd.freshB (g := gb243) (o := .cells #[.int .i64 t241, .int .i64 t242] 28 (0, 0)) (bk_ BK243) k_ hk_)⟩)) (below_size (bw_ HB))); have n3_ := Aside0.mk (blk_below (g := gb243) (o := .cells #[.int .i64 t241, .int .i64 t242] 28 (0, 0)) (bk_ BK243) hb); have n4_ := Aside0.mk (below_step (bw_ HB) hb); clear HO237; clear HO240; clear BK243; clear HB; have HO237 := n0_; have HO240 := n1_; have HO246 := n2_; have BK243 := n3_; have HB := n4_; clear n0_ n1_ n2_ n3_ n4_; (try clear hb); (try clear hb2); (try clear hk); (try clear hi); (try clear ho0); obtain ⟨Ao39, co39, eo39⟩ := Kd.N_slice HO246.out; subst eo39) | ((with_reducible refine gate_callee (f := 24) rfl ?_); refine goesL_ (some 12) rfl rfl Try.func24 (by kernel_rfl) rfl #[.slice Ao39 t244.length co39, .int .i64 0] rfl ar_ ?_; (with_reducible refine (flow_Loops.calls k _ _ t244 0 t247 t250 t251 _ ?side1 ?side2 A4.out).mono ?_); (case side1 => repeat (first | exact (Kd.N_reads' HO246.out).2.2 | (with_reducible refine Kd.C_alloc ?_ _) | (with_reducible refine Kd.C_drewN ?_ _) | (with_reducible refine Kd.C_drew ?_))); (case side2 => exact (Kd.N_reads' HO246.out).2.1); rintro e w40 ⟨v248, rfl, ho0, hb⟩; refine ⟨_, rfl, ?_⟩; have n0_ := Aside0.mk (Kd.N_elder' (by (with_reducible repeat (first | apply Kd.N_alloc | apply Kd.N_drewN | apply Kd.N_drew)); exact HO237.out) (Kd.N_base (Kd.S_N (Kd.S_bound ho0))) hb); have n1_ := Aside0.mk (Kd.R_below (by (with_reducible repeat (first | apply Kd.R_alloc | apply Kd.R_drewN | apply Kd.R_drew)); exact HO240.out) hb); have n2_ := Aside0.mk (Kd.N_elder' (by (with_reducible repeat (first | apply Kd.N_alloc | apply Kd.N_drewN | apply Kd.N_drew)); exact HO246.out) (Kd.N_base (Kd.S_N (Kd.S_bound ho0))) hb); have n3_ := Aside0.mk (Kd.N_lower (Kd.N_mono (ok' := fun k_ => some k_ ≠ (.slice Ao34 t235.length co34 : Value).ownBlock ∧ some k_ ≠ (v239 : Value).ownBlock ∧ some k_ ≠ (.slice Ao39 t244.length co39 : Value).ownBlock ∧ k_ ≠ gb243) (Kd.S_N (Kd.S_bound ho0)) (fun k_ hk_ => ⟨(Kd.fresh' (Kd.N_lt (by (with_reducible repeat (first | apply Kd.N_alloc | apply Kd.N_drewN | apply Kd.N_drew)); exact HO237.out)) k_ hk_.2.1), (Kd.fresh' (Kd.R_lt (by (with_reducible repeat (first | apply Kd.R_alloc | apply Kd.R_drewN | apply Kd.R_drew)); exact HO240.out)) k_ hk_.2.1), (Kd.fresh' (Kd.N_lt (by (with_reducible repeat (first | apply Kd.N_alloc | apply Kd.N_drewN | apply Kd.N_drew)); exact HO246.out)) k_ hk_.2.1), (Kd.freshB (g := gb243) (o := .cells #[.int .i64 t241, .int .i64 t242] 28 (0, 0)) (bk_ BK243) k_ hk_.2.1)⟩)) (below_size (bw_ HB))); have n4_ := Aside0.mk (blk_below (g := gb243) (o := .cells #[.int .i64 t241, .int .i64 t242] 28 (0, 0)) (bk_ BK243) hb); have n5_ := Aside0.mk (below_step (bw_ HB) hb); clear HO237; clear HO240; clear HO246; clear BK243; clear HB; have HO237 := n0_; have HO240 := n1_; have HO246 := n2_; have HO249 := n3_; have BK243 := n4_; have HB := n5_; clear n0_ n1_ n2_ n3_ n4_ n5_; (try clear hb); (try clear hb2); (try clear hk); (try clear hi); (try clear ho0)) | ((with_reducible refine gate_dst (N := 4) rfl ?_); (try (refine gate_guard (by rfl) ?_; dsimp only)); refine bx_ (N := 4) (cs := #[.int .i64 0, .int .i64 0]) (t := 28) ?_; intro gb252 hg w41 hbox hb; have n0_ := Aside0.mk (Kd.N_below (Kd.N_elderB (by (with_reducible repeat (first | apply Kd.N_alloc | apply Kd.N_drewN | apply Kd.N_drew)); exact HO237.out) gb252 (Nat.le_of_eq hg.symm)) hb); have n1_ := Aside0.mk (Kd.R_below (by (with_reducible repeat (first | apply Kd.R_alloc | apply Kd.R_drewN | apply Kd.R_drew)); exact HO240.out) hb); have n2_ := Aside0.mk (Kd.N_below (Kd.N_elderB (by (with_reducible repeat (first | apply Kd.N_alloc | apply Kd.N_drewN | apply Kd.N_drew)); exact HO246.out) gb252 (Nat.le_of_eq hg.symm)) hb); have n3_ := Aside0.mk (Kd.N_below (Kd.N_elderB (by (with_reducible repeat (first | apply Kd.N_alloc | apply Kd.N_drewN | apply Kd.N_drew)); exact HO249.out) gb252 (Nat.le_of_eq hg.symm)) hb); have n4_ := Aside0.mk (blk_below (g := gb243) (o := .cells #[.int .i64 t241, .int .i64 t242] 28 (0, 0)) (bk_ BK243) hb); have n5_ := Aside0.mk (below_step (bw_ HB) hb); have n6_ := Aside0.mk (hbox); have n7_ := Aside0.mk ((by rw [hg]; exact (below_size (bw_ HB)) : w.heap.size ≤ gb252)); have n8_ := Aside0.mk ((by rw [hg]; exact (below_size (bw_ HB)) : w.heap.size ≤ gb252)); have n9_ := Aside0.mk ((by rw [hg]; exact Nat.ne_of_lt (blk_lt (g := gb243) (o := .cells #[.int .i64 t241, .int .i64 t242] 28 (0, 0)) (bk_ BK243)) : gb243 ≠ gb252)); have n10_ := Aside0.mk ((by rw [hg]; exact Nat.ne_of_gt (blk_lt (g := gb243) (o := .cells #[.int .i64 t241, .int .i64 t242] 28 (0, 0)) (bk_ BK243)) : gb252 ≠ gb243)); clear HO237; clear HO240; clear HO246; clear HO249; clear BK243; clear HB; have HO237 := n0_; have HO240 := n1_; have HO246 := n2_; have HO249 := n3_; have BK243 := n4_; have HB := n5_; have BK252 := n6_; have GW252 := n7_; have GE252 := n8_; have NB243_252 := n9_; have NB252_243 := n10_; clear n0_ n1_ n2_ n3_ n4_ n5_ n6_ n7_ n8_ n9_ n10_; clear hb hbox hg; have hnb42 := NB252_243.out; have hnc42 := NB243_252.out; obtain ⟨hcz43_0, hcz43_1, hfz43_0, hfz43_1⟩ := cz2_ BK252; obtain ⟨hcz44_0, hcz44_1, hfz44_0, hfz44_1⟩ := cz2_ BK243) | ((with_reducible refine gate_dst (N := 25) rfl ?_); (try (refine gate_guard (by rfl) ?_; dsimp only)); refine Kd.R_lit (Kd.int .i64) _ 3 ?hg (N := 25) ?hd (xs := ([0, 0, 0, 0] : List Int)) (inner := [.int .i64 0, .int .i64 0, .int .i64 0, .int .i64 0]) (ok := fun _ => True) (okp := fun _ => True) ?hr ?hp (fun _ hk => hk) trivial (Below.refl _ _) (Nat.le_refl _) (by simp) ?_; (case hd => rfl); (case hg => rfl); (case hr => first | (go_simp; done) | (go_simp; rfl)); (case hp => exact (Reps.one (show Kd.M (Kd.int .i64) _ _ _ 0 [.int .i64 0] from rfl) (Reps.one (show Kd.M (Kd.int .i64) _ _ _ 0 [.int .i64 0] from rfl) (Reps.one (show Kd.M (Kd.int .i64) _ _ _ 0 [.int .i64 0] from rfl) (Reps.one (show Kd.M (Kd.int .i64) _ _ _ 0 [.int .i64 0] from rfl) (Reps.none _ _)))))); intro v254 w45 ho46 hb hg_ hnew_; clear hg_ hnew_; (first | rw [← Ny253.out] at ho46 | (simp only [Int.reduceToNat] at ho46; rw [← Ny253.out] at ho46)); have n0_ := Aside0.mk (Kd.N_elder' (by (with_reducible repeat (first | apply Kd.N_alloc | apply Kd.N_drewN | apply Kd.N_drew)); exact (Kd.N_mono (Kd.N_far (p := ⟨gb252, 1, none⟩) (Kd.N_far (p := ⟨gb252, 0, none⟩) (Kd.N_mono HO237.out (fun k_ hk => (⟨hk, hk.2⟩ : _ ∧ k_ ≠ gb252))) (fun _ hk => hk.2) (.int .i64 t250)) (fun _ hk => hk.2) (.int .i64 t251)) (fun _ h_ => h_.1))) (Kd.R_base ho46) hb); have n1_ := Aside0.mk (Kd.R_elder' (by (with_reducible repeat (first | apply Kd.R_alloc | apply Kd.R_drewN | apply Kd.R_drew)); exact (Kd.R_mono (Kd.R_far (p := ⟨gb252, 1, none⟩) (Kd.R_far (p := ⟨gb252, 0, none⟩) (Kd.R_types HO240.out BK252.out (by decide)) (fun _ hk => hk.2) (.int .i64 t250)) (fun _ hk => hk.2) (.int .i64 t251)) (fun _ h_ => h_.1))) (Kd.R_base ho46) hb); have n2_ := Aside0.mk (Kd.N_elder' (by (with_reducible repeat (first | apply Kd.N_alloc | apply Kd.N_drewN | apply Kd.N_drew)); exact (Kd.N_mono (Kd.N_far (p := ⟨gb252, 1, none⟩) (Kd.N_far (p := ⟨gb252, 0, none⟩) (Kd.N_mono HO246.out (fun k_ hk => (⟨hk, hk.2⟩ : _ ∧ k_ ≠ gb252))) (fun _ hk => hk.2) (.int .i64 t250)) (fun _ hk => hk.2) (.int .i64 t251)) (fun _ h_ => h_.1))) (Kd.R_base ho46) hb); have n3_ := Aside0.mk (Kd.N_elder' (by (with_reducible repeat (first | apply Kd.N_alloc | apply Kd.N_drewN | apply Kd.N_drew)); exact (Kd.N_mono (Kd.N_far (p := ⟨gb252, 1, none⟩) (Kd.N_far (p := ⟨gb252, 0, none⟩) (Kd.N_mono HO249.out (fun k_ hk => (⟨hk, hk.2⟩ : _ ∧ k_ ≠ gb252))) (fun _ hk => hk.2) (.int .i64 t250)) (fun _ hk => hk.2) (.int .i64 t251)) (fun _ h_ => h_.1))) (Kd.R_base ho46) hb); have n4_ := Aside0.mk (Kd.R_lower (Kd.R_new' ho46 (Kd.R_lt (by (with_reducible repeat (first | apply Kd.R_alloc | apply Kd.R_drewN | apply Kd.R_drew)); exact (Kd.R_mono (Kd.R_far (p := ⟨gb252, 1, none⟩) (Kd.R_far (p := ⟨gb252, 0, none⟩) (Kd.R_types HO240.out BK252.out (by decide)) (fun _ hk => hk.2) (.int .i64 t250)) (fun _ hk => hk.2) (.int .i64 t251)) (fun _ h_ => h_.1))))) (below_size (bw_ HB))); have n5_ := Aside0.mk (blk_below (g := gb243) (o := .cells #[.int .i64 t241, .int .i64 t242] 28 (0, 0)) (bk_ BK243) hb); have n6_ := Aside0.mk (blk_below (g := gb252) (o := .cells #[.int .i64 t250, .int .i64 t251] 28 (0, 0)) (bk_ BK252) hb); have n7_ := Aside0.mk (below_step (bw_ HB) hb); clear HO237; clear HO240; clear HO246; clear HO249; clear BK243; clear BK252; clear HB; have HO237 := n0_; have HO240 := n1_; have HO246 := n2_; have HO249 := n3_; have HO255 := n4_; have BK243 := n5_; have BK252 := n6_; have HB := n7_; clear n0_ n1_ n2_ n3_ n4_ n5_ n6_ n7_; clear hb ho46; obtain ⟨Ao47, co47, eo47⟩ := Kd.R_slice HO240.out; subst eo47; obtain ⟨Ao48, co48, eo48⟩ := Kd.R_slice HO255.out; subst eo48) | (go_at_call 23; (with_reducible refine (linkhouseref7_SameInts.calls k _ _ t238 _ _ y253 false _ ?side1 ?side2 ?side3 ?side4 A7.out).mono ?_); (case side1 => repeat (first | exact (Kd.R_reads' HO240.out).2.2 | (with_reducible refine Kd.C_alloc ?_ _) | (with_reducible refine Kd.C_drewN ?_ _) | (with_reducible refine Kd.C_drew ?_))); (case side2 => exact (Kd.R_reads' HO240.out).2.1); (case side3 => repeat (first | exact (Kd.R_reads' HO255.out).2.2 | (with_reducible refine Kd.C_alloc ?_ _) | (with_reducible refine Kd.C_drewN ?_ _) | (with_reducible refine Kd.C_drew ?_))); (case side4 => exact (Kd.R_reads' HO255.out).2.1); rintro e w' ⟨rfl, ⟨nd, rfl⟩⟩))
    go_ret
    exact ⟨id_, bw_ HB⟩
  ·
   rw [if_neg c6] at H
   have c6b0 : (t250 == 0) = false := beq_eq_false_iff_ne.mpr c6
   have c6b1 : (t250 != 0) = true := bne_iff_ne.mpr c6
   obtain rfl := Option.some.inj H
   go_enter Try.func21, Try.ntmps21
   go_wp2_with (first | ((with_reducible refine gate_callee (f := 44) rfl ?_); refine goesL_ (some 6) rfl rfl Try.func44 (by kernel_rfl) rfl #[] rfl ar_ ?_; (with_reducible refine (linkhouselaw7_diamond.calls  t235 _ A1.out).mono ?_); rintro e w49 ⟨v236, rfl, ho0, hb⟩; refine ⟨_, rfl, ?_⟩; have n0_ := Aside0.mk (Kd.N_lower (Kd.N_mono (ok' := fun k_ => True) ho0 (fun k_ hk_ => trivial)) (below_size (bw_ HB))); have n1_ := Aside0.mk (below_step (bw_ HB) hb); clear HB; have HO237 := n0_; have HB := n1_; clear n0_ n1_; (try clear hb); (try clear hb2); (try clear hk); (try clear hi); (try clear ho0); obtain ⟨Ao50, co50, eo50⟩ := Kd.N_slice HO237.out; subst eo50) | ((with_reducible refine gate_callee (f := 19) rfl ?_); refine goesL_ (some 7) rfl rfl Try.func19 (by kernel_rfl) rfl #[.slice Ao50 t235.length co50, .int .i64 0] rfl ar_ ?_; (with_reducible refine (flow_Dominators.calls k _ _ t235 0 t238 t241 t242 _ ?side1 ?side2 A2.out).mono ?_); (case side1 => repeat (first | exact (Kd.N_reads' HO237.out).2.2 | (with_reducible refine Kd.C_alloc ?_ _) | (with_reducible refine Kd.C_drewN ?_ _) | (with_reducible refine Kd.C_drew ?_))); (case side2 => exact (Kd.N_reads' HO237.out).2.1); rintro e w51 ⟨v239, rfl, ho0, hb⟩; refine ⟨_, rfl, ?_⟩; have n0_ := Aside0.mk (Kd.N_elder' (by (with_reducible repeat (first | apply Kd.N_alloc | apply Kd.N_drewN | apply Kd.N_drew)); exact HO237.out) (Kd.R_base ho0) hb); have n1_ := Aside0.mk (Kd.R_lower ho0 (below_size (bw_ HB))); have n2_ := Aside0.mk (below_step (bw_ HB) hb); clear HO237; clear HB; have HO237 := n0_; have HO240 := n1_; have HB := n2_; clear n0_ n1_ n2_; (try clear hb); (try clear hb2); (try clear hk); (try clear hi); (try clear ho0)) | ((with_reducible refine gate_dst (N := 2) rfl ?_); (try (refine gate_guard (by rfl) ?_; dsimp only)); refine bx_ (N := 2) (cs := #[.int .i64 0, .int .i64 0]) (t := 28) ?_; intro gb243 hg w52 hbox hb; have n0_ := Aside0.mk (Kd.N_below (Kd.N_elderB (by (with_reducible repeat (first | apply Kd.N_alloc | apply Kd.N_drewN | apply Kd.N_drew)); exact HO237.out) gb243 (Nat.le_of_eq hg.symm)) hb); have n1_ := Aside0.mk (Kd.R_below (by (with_reducible repeat (first | apply Kd.R_alloc | apply Kd.R_drewN | apply Kd.R_drew)); exact HO240.out) hb); have n2_ := Aside0.mk (below_step (bw_ HB) hb); have n3_ := Aside0.mk (hbox); have n4_ := Aside0.mk ((by rw [hg]; exact (below_size (bw_ HB)) : w.heap.size ≤ gb243)); have n5_ := Aside0.mk ((by rw [hg]; exact (below_size (bw_ HB)) : w.heap.size ≤ gb243)); clear HO237; clear HO240; clear HB; have HO237 := n0_; have HO240 := n1_; have HB := n2_; have BK243 := n3_; have GW243 := n4_; have GE243 := n5_; clear n0_ n1_ n2_ n3_ n4_ n5_; clear hb hbox hg; obtain ⟨hcz53_0, hcz53_1, hfz53_0, hfz53_1⟩ := cz2_ BK243) | ((with_reducible refine gate_callee (f := 44) rfl ?_); refine goesL_ (some 11) rfl rfl Try.func44 (by kernel_rfl) rfl #[] rfl ar_ ?_; (with_reducible refine (linkhouselaw7_diamond.calls  t244 _ A3.out).mono ?_); rintro e w54 ⟨v245, rfl, ho0, hb⟩; refine ⟨_, rfl, ?_⟩; have n0_ := Aside0.mk (Kd.N_elder' (by (with_reducible repeat (first | apply Kd.N_alloc | apply Kd.N_drewN | apply Kd.N_drew)); exact (Kd.N_mono (Kd.N_far (p := ⟨gb243, 1, none⟩) (Kd.N_far (p := ⟨gb243, 0, none⟩) (Kd.N_mono HO237.out (fun k_ hk => (⟨hk, hk.2⟩ : _ ∧ k_ ≠ gb243))) (fun _ hk => hk.2) (.int .i64 t241)) (fun _ hk => hk.2) (.int .i64 t242)) (fun _ h_ => h_.1))) (Kd.N_base ho0) hb); have n1_ := Aside0.mk (Kd.R_below (by (with_reducible repeat (first | apply Kd.R_alloc | apply Kd.R_drewN | apply Kd.R_drew)); exact (Kd.R_mono (Kd.R_far (p := ⟨gb243, 1, none⟩) (Kd.R_far (p := ⟨gb243, 0, none⟩) (Kd.R_types HO240.out BK243.out (by decide)) (fun _ hk => hk.2) (.int .i64 t241)) (fun _ hk => hk.2) (.int .i64 t242)) (fun _ h_ => h_.1))) hb); have n2_ := Aside0.mk (Kd.N_lower (Kd.N_mono (ok' := fun k_ => some k_ ≠ (.slice Ao50 t235.length co50 : Value).ownBlock ∧ some k_ ≠ (v239 : Value).ownBlock ∧ k_ ≠ gb243) ho0 (fun k_ hk_ => ⟨(Kd.fresh' (Kd.N_lt (by (with_reducible repeat (first | apply Kd.N_alloc | apply Kd.N_drewN | apply Kd.N_drew)); exact (Kd.N_mono (Kd.N_far (p := ⟨gb243, 1, none⟩) (Kd.N_far (p := ⟨gb243, 0, none⟩) (Kd.N_mono HO237.out (fun k_ hk => (⟨hk, hk.2⟩ : _ ∧ k_ ≠ gb243))) (fun _ hk => hk.2) (.int .i64 t241)) (fun _ hk => hk.2) (.int .i64 t242)) (fun _ h_ => h_.1)))) k_ hk_), (Kd.fresh' (Kd.R_lt (by (with_reducible repeat (first | apply Kd.R_alloc | apply Kd.R_drewN | apply Kd.R_drew)); exact (Kd.R_mono (Kd.R_far (p := ⟨gb243, 1, none⟩) (Kd.R_far (p := ⟨gb243, 0, none⟩) (Kd.R_types HO240.out BK243.out (by decide)) (fun _ hk => hk.2) (.int .i64 t241)) (fun _ hk => hk.2) (.int .i64 t242)) (fun _ h_ => h_.1)))) k_ hk_), (Kd.freshB (g := gb243) (o := .cells #[.int .i64 t241, .int .i64 t242] 28 (0, 0)) (bk_ BK243) k_ hk_)⟩)) (below_size (bw_ HB))); have n3_ := Aside0.mk (blk_below (g := gb243) (o := .cells #[.int .i64 t241, .int .i64 t242] 28 (0, 0)) (bk_ BK243) hb); have n4_ := Aside0.mk (below_step (bw_ HB) hb); clear HO237; clear HO240; clear BK243; clear HB; have HO237 := n0_; have HO240 := n1_; have HO246 := n2_; have BK243 := n3_; have HB := n4_; clear n0_ n1_ n2_ n3_ n4_; (try clear hb); (try clear hb2); (try clear hk); (try clear hi); (try clear ho0); obtain ⟨Ao55, co55, eo55⟩ := Kd.N_slice HO246.out; subst eo55) | ((with_reducible refine gate_callee (f := 24) rfl ?_); refine goesL_ (some 12) rfl rfl Try.func24 (by kernel_rfl) rfl #[.slice Ao55 t244.length co55, .int .i64 0] rfl ar_ ?_; (with_reducible refine (flow_Loops.calls k _ _ t244 0 t247 t250 t251 _ ?side1 ?side2 A4.out).mono ?_); (case side1 => repeat (first | exact (Kd.N_reads' HO246.out).2.2 | (with_reducible refine Kd.C_alloc ?_ _) | (with_reducible refine Kd.C_drewN ?_ _) | (with_reducible refine Kd.C_drew ?_))); (case side2 => exact (Kd.N_reads' HO246.out).2.1); rintro e w56 ⟨v248, rfl, ho0, hb⟩; refine ⟨_, rfl, ?_⟩; have n0_ := Aside0.mk (Kd.N_elder' (by (with_reducible repeat (first | apply Kd.N_alloc | apply Kd.N_drewN | apply Kd.N_drew)); exact HO237.out) (Kd.N_base (Kd.S_N (Kd.S_bound ho0))) hb); have n1_ := Aside0.mk (Kd.R_below (by (with_reducible repeat (first | apply Kd.R_alloc | apply Kd.R_drewN | apply Kd.R_drew)); exact HO240.out) hb); have n2_ := Aside0.mk (Kd.N_elder' (by (with_reducible repeat (first | apply Kd.N_alloc | apply Kd.N_drewN | apply Kd.N_drew)); exact HO246.out) (Kd.N_base (Kd.S_N (Kd.S_bound ho0))) hb); have n3_ := Aside0.mk (Kd.N_lower (Kd.N_mono (ok' := fun k_ => some k_ ≠ (.slice Ao50 t235.length co50 : Value).ownBlock ∧ some k_ ≠ (v239 : Value).ownBlock ∧ some k_ ≠ (.slice Ao55 t244.length co55 : Value).ownBlock ∧ k_ ≠ gb243) (Kd.S_N (Kd.S_bound ho0)) (fun k_ hk_ => ⟨(Kd.fresh' (Kd.N_lt (by (with_reducible repeat (first | apply Kd.N_alloc | apply Kd.N_drewN | apply Kd.N_drew)); exact HO237.out)) k_ hk_.2.1), (Kd.fresh' (Kd.R_lt (by (with_reducible repeat (first | apply Kd.R_alloc | apply Kd.R_drewN | apply Kd.R_drew)); exact HO240.out)) k_ hk_.2.1), (Kd.fresh' (Kd.N_lt (by (with_reducible repeat (first | apply Kd.N_alloc | apply Kd.N_drewN | apply Kd.N_drew)); exact HO246.out)) k_ hk_.2.1), (Kd.freshB (g := gb243) (o := .cells #[.int .i64 t241, .int .i64 t242] 28 (0, 0)) (bk_ BK243) k_ hk_.2.1)⟩)) (below_size (bw_ HB))); have n4_ := Aside0.mk (blk_below (g := gb243) (o := .cells #[.int .i64 t241, .int .i64 t242] 28 (0, 0)) (bk_ BK243) hb); have n5_ := Aside0.mk (below_step (bw_ HB) hb); clear HO237; clear HO240; clear HO246; clear BK243; clear HB; have HO237 := n0_; have HO240 := n1_; have HO246 := n2_; have HO249 := n3_; have BK243 := n4_; have HB := n5_; clear n0_ n1_ n2_ n3_ n4_ n5_; (try clear hb); (try clear hb2); (try clear hk); (try clear hi); (try clear ho0)) | ((with_reducible refine gate_dst (N := 4) rfl ?_); (try (refine gate_guard (by rfl) ?_; dsimp only)); refine bx_ (N := 4) (cs := #[.int .i64 0, .int .i64 0]) (t := 28) ?_; intro gb252 hg w57 hbox hb; have n0_ := Aside0.mk (Kd.N_below (Kd.N_elderB (by (with_reducible repeat (first | apply Kd.N_alloc | apply Kd.N_drewN | apply Kd.N_drew)); exact HO237.out) gb252 (Nat.le_of_eq hg.symm)) hb); have n1_ := Aside0.mk (Kd.R_below (by (with_reducible repeat (first | apply Kd.R_alloc | apply Kd.R_drewN | apply Kd.R_drew)); exact HO240.out) hb); have n2_ := Aside0.mk (Kd.N_below (Kd.N_elderB (by (with_reducible repeat (first | apply Kd.N_alloc | apply Kd.N_drewN | apply Kd.N_drew)); exact HO246.out) gb252 (Nat.le_of_eq hg.symm)) hb); have n3_ := Aside0.mk (Kd.N_below (Kd.N_elderB (by (with_reducible repeat (first | apply Kd.N_alloc | apply Kd.N_drewN | apply Kd.N_drew)); exact HO249.out) gb252 (Nat.le_of_eq hg.symm)) hb); have n4_ := Aside0.mk (blk_below (g := gb243) (o := .cells #[.int .i64 t241, .int .i64 t242] 28 (0, 0)) (bk_ BK243) hb); have n5_ := Aside0.mk (below_step (bw_ HB) hb); have n6_ := Aside0.mk (hbox); have n7_ := Aside0.mk ((by rw [hg]; exact (below_size (bw_ HB)) : w.heap.size ≤ gb252)); have n8_ := Aside0.mk ((by rw [hg]; exact (below_size (bw_ HB)) : w.heap.size ≤ gb252)); have n9_ := Aside0.mk ((by rw [hg]; exact Nat.ne_of_lt (blk_lt (g := gb243) (o := .cells #[.int .i64 t241, .int .i64 t242] 28 (0, 0)) (bk_ BK243)) : gb243 ≠ gb252)); have n10_ := Aside0.mk ((by rw [hg]; exact Nat.ne_of_gt (blk_lt (g := gb243) (o := .cells #[.int .i64 t241, .int .i64 t242] 28 (0, 0)) (bk_ BK243)) : gb252 ≠ gb243)); clear HO237; clear HO240; clear HO246; clear HO249; clear BK243; clear HB; have HO237 := n0_; have HO240 := n1_; have HO246 := n2_; have HO249 := n3_; have BK243 := n4_; have HB := n5_; have BK252 := n6_; have GW252 := n7_; have GE252 := n8_; have NB243_252 := n9_; have NB252_243 := n10_; clear n0_ n1_ n2_ n3_ n4_ n5_ n6_ n7_ n8_ n9_ n10_; clear hb hbox hg; have hnb58 := NB252_243.out; have hnc58 := NB243_252.out; obtain ⟨hcz59_0, hcz59_1, hfz59_0, hfz59_1⟩ := cz2_ BK252; obtain ⟨hcz60_0, hcz60_1, hfz60_0, hfz60_1⟩ := cz2_ BK243))
   go_ret
   exact ⟨id_, bw_ HB⟩
 ·
  rw [if_neg c5] at H
  have c5b0 : (t241 == 0) = false := beq_eq_false_iff_ne.mpr c5
  have c5b1 : (t241 != 0) = true := bne_iff_ne.mpr c5
  obtain rfl := Option.some.inj H
  go_enter Try.func21, Try.ntmps21
  go_wp2_with (first | ((with_reducible refine gate_callee (f := 44) rfl ?_); refine goesL_ (some 6) rfl rfl Try.func44 (by kernel_rfl) rfl #[] rfl ar_ ?_; (with_reducible refine (linkhouselaw7_diamond.calls  t235 _ A1.out).mono ?_); rintro e w61 ⟨v236, rfl, ho0, hb⟩; refine ⟨_, rfl, ?_⟩; have n0_ := Aside0.mk (Kd.N_lower (Kd.N_mono (ok' := fun k_ => True) ho0 (fun k_ hk_ => trivial)) (below_size (bw_ HB))); have n1_ := Aside0.mk (below_step (bw_ HB) hb); clear HB; have HO237 := n0_; have HB := n1_; clear n0_ n1_; (try clear hb); (try clear hb2); (try clear hk); (try clear hi); (try clear ho0); obtain ⟨Ao62, co62, eo62⟩ := Kd.N_slice HO237.out; subst eo62) | ((with_reducible refine gate_callee (f := 19) rfl ?_); refine goesL_ (some 7) rfl rfl Try.func19 (by kernel_rfl) rfl #[.slice Ao62 t235.length co62, .int .i64 0] rfl ar_ ?_; (with_reducible refine (flow_Dominators.calls k _ _ t235 0 t238 t241 t242 _ ?side1 ?side2 A2.out).mono ?_); (case side1 => repeat (first | exact (Kd.N_reads' HO237.out).2.2 | (with_reducible refine Kd.C_alloc ?_ _) | (with_reducible refine Kd.C_drewN ?_ _) | (with_reducible refine Kd.C_drew ?_))); (case side2 => exact (Kd.N_reads' HO237.out).2.1); rintro e w63 ⟨v239, rfl, ho0, hb⟩; refine ⟨_, rfl, ?_⟩; have n0_ := Aside0.mk (Kd.N_elder' (by (with_reducible repeat (first | apply Kd.N_alloc | apply Kd.N_drewN | apply Kd.N_drew)); exact HO237.out) (Kd.R_base ho0) hb); have n1_ := Aside0.mk (Kd.R_lower ho0 (below_size (bw_ HB))); have n2_ := Aside0.mk (below_step (bw_ HB) hb); clear HO237; clear HB; have HO237 := n0_; have HO240 := n1_; have HB := n2_; clear n0_ n1_ n2_; (try clear hb); (try clear hb2); (try clear hk); (try clear hi); (try clear ho0)) | ((with_reducible refine gate_dst (N := 2) rfl ?_); (try (refine gate_guard (by rfl) ?_; dsimp only)); refine bx_ (N := 2) (cs := #[.int .i64 0, .int .i64 0]) (t := 28) ?_; intro gb243 hg w64 hbox hb; have n0_ := Aside0.mk (Kd.N_below (Kd.N_elderB (by (with_reducible repeat (first | apply Kd.N_alloc | apply Kd.N_drewN | apply Kd.N_drew)); exact HO237.out) gb243 (Nat.le_of_eq hg.symm)) hb); have n1_ := Aside0.mk (Kd.R_below (by (with_reducible repeat (first | apply Kd.R_alloc | apply Kd.R_drewN | apply Kd.R_drew)); exact HO240.out) hb); have n2_ := Aside0.mk (below_step (bw_ HB) hb); have n3_ := Aside0.mk (hbox); have n4_ := Aside0.mk ((by rw [hg]; exact (below_size (bw_ HB)) : w.heap.size ≤ gb243)); have n5_ := Aside0.mk ((by rw [hg]; exact (below_size (bw_ HB)) : w.heap.size ≤ gb243)); clear HO237; clear HO240; clear HB; have HO237 := n0_; have HO240 := n1_; have HB := n2_; have BK243 := n3_; have GW243 := n4_; have GE243 := n5_; clear n0_ n1_ n2_ n3_ n4_ n5_; clear hb hbox hg; obtain ⟨hcz65_0, hcz65_1, hfz65_0, hfz65_1⟩ := cz2_ BK243) | ((with_reducible refine gate_callee (f := 44) rfl ?_); refine goesL_ (some 11) rfl rfl Try.func44 (by kernel_rfl) rfl #[] rfl ar_ ?_; (with_reducible refine (linkhouselaw7_diamond.calls  t244 _ A3.out).mono ?_); rintro e w66 ⟨v245, rfl, ho0, hb⟩; refine ⟨_, rfl, ?_⟩; have n0_ := Aside0.mk (Kd.N_elder' (by (with_reducible repeat (first | apply Kd.N_alloc | apply Kd.N_drewN | apply Kd.N_drew)); exact (Kd.N_mono (Kd.N_far (p := ⟨gb243, 1, none⟩) (Kd.N_far (p := ⟨gb243, 0, none⟩) (Kd.N_mono HO237.out (fun k_ hk => (⟨hk, hk.2⟩ : _ ∧ k_ ≠ gb243))) (fun _ hk => hk.2) (.int .i64 t241)) (fun _ hk => hk.2) (.int .i64 t242)) (fun _ h_ => h_.1))) (Kd.N_base ho0) hb); have n1_ := Aside0.mk (Kd.R_below (by (with_reducible repeat (first | apply Kd.R_alloc | apply Kd.R_drewN | apply Kd.R_drew)); exact (Kd.R_mono (Kd.R_far (p := ⟨gb243, 1, none⟩) (Kd.R_far (p := ⟨gb243, 0, none⟩) (Kd.R_types HO240.out BK243.out (by decide)) (fun _ hk => hk.2) (.int .i64 t241)) (fun _ hk => hk.2) (.int .i64 t242)) (fun _ h_ => h_.1))) hb); have n2_ := Aside0.mk (Kd.N_lower (Kd.N_mono (ok' := fun k_ => some k_ ≠ (.slice Ao62 t235.length co62 : Value).ownBlock ∧ some k_ ≠ (v239 : Value).ownBlock ∧ k_ ≠ gb243) ho0 (fun k_ hk_ => ⟨(Kd.fresh' (Kd.N_lt (by (with_reducible repeat (first | apply Kd.N_alloc | apply Kd.N_drewN | apply Kd.N_drew)); exact (Kd.N_mono (Kd.N_far (p := ⟨gb243, 1, none⟩) (Kd.N_far (p := ⟨gb243, 0, none⟩) (Kd.N_mono HO237.out (fun k_ hk => (⟨hk, hk.2⟩ : _ ∧ k_ ≠ gb243))) (fun _ hk => hk.2) (.int .i64 t241)) (fun _ hk => hk.2) (.int .i64 t242)) (fun _ h_ => h_.1)))) k_ hk_), (Kd.fresh' (Kd.R_lt (by (with_reducible repeat (first | apply Kd.R_alloc | apply Kd.R_drewN | apply Kd.R_drew)); exact (Kd.R_mono (Kd.R_far (p := ⟨gb243, 1, none⟩) (Kd.R_far (p := ⟨gb243, 0, none⟩) (Kd.R_types HO240.out BK243.out (by decide)) (fun _ hk => hk.2) (.int .i64 t241)) (fun _ hk => hk.2) (.int .i64 t242)) (fun _ h_ => h_.1)))) k_ hk_), (Kd.freshB (g := gb243) (o := .cells #[.int .i64 t241, .int .i64 t242] 28 (0, 0)) (bk_ BK243) k_ hk_)⟩)) (below_size (bw_ HB))); have n3_ := Aside0.mk (blk_below (g := gb243) (o := .cells #[.int .i64 t241, .int .i64 t242] 28 (0, 0)) (bk_ BK243) hb); have n4_ := Aside0.mk (below_step (bw_ HB) hb); clear HO237; clear HO240; clear BK243; clear HB; have HO237 := n0_; have HO240 := n1_; have HO246 := n2_; have BK243 := n3_; have HB := n4_; clear n0_ n1_ n2_ n3_ n4_; (try clear hb); (try clear hb2); (try clear hk); (try clear hi); (try clear ho0); obtain ⟨Ao67, co67, eo67⟩ := Kd.N_slice HO246.out; subst eo67) | ((with_reducible refine gate_callee (f := 24) rfl ?_); refine goesL_ (some 12) rfl rfl Try.func24 (by kernel_rfl) rfl #[.slice Ao67 t244.length co67, .int .i64 0] rfl ar_ ?_; (with_reducible refine (flow_Loops.calls k _ _ t244 0 t247 t250 t251 _ ?side1 ?side2 A4.out).mono ?_); (case side1 => repeat (first | exact (Kd.N_reads' HO246.out).2.2 | (with_reducible refine Kd.C_alloc ?_ _) | (with_reducible refine Kd.C_drewN ?_ _) | (with_reducible refine Kd.C_drew ?_))); (case side2 => exact (Kd.N_reads' HO246.out).2.1); rintro e w68 ⟨v248, rfl, ho0, hb⟩; refine ⟨_, rfl, ?_⟩; have n0_ := Aside0.mk (Kd.N_elder' (by (with_reducible repeat (first | apply Kd.N_alloc | apply Kd.N_drewN | apply Kd.N_drew)); exact HO237.out) (Kd.N_base (Kd.S_N (Kd.S_bound ho0))) hb); have n1_ := Aside0.mk (Kd.R_below (by (with_reducible repeat (first | apply Kd.R_alloc | apply Kd.R_drewN | apply Kd.R_drew)); exact HO240.out) hb); have n2_ := Aside0.mk (Kd.N_elder' (by (with_reducible repeat (first | apply Kd.N_alloc | apply Kd.N_drewN | apply Kd.N_drew)); exact HO246.out) (Kd.N_base (Kd.S_N (Kd.S_bound ho0))) hb); have n3_ := Aside0.mk (Kd.N_lower (Kd.N_mono (ok' := fun k_ => some k_ ≠ (.slice Ao62 t235.length co62 : Value).ownBlock ∧ some k_ ≠ (v239 : Value).ownBlock ∧ some k_ ≠ (.slice Ao67 t244.length co67 : Value).ownBlock ∧ k_ ≠ gb243) (Kd.S_N (Kd.S_bound ho0)) (fun k_ hk_ => ⟨(Kd.fresh' (Kd.N_lt (by (with_reducible repeat (first | apply Kd.N_alloc | apply Kd.N_drewN | apply Kd.N_drew)); exact HO237.out)) k_ hk_.2.1), (Kd.fresh' (Kd.R_lt (by (with_reducible repeat (first | apply Kd.R_alloc | apply Kd.R_drewN | apply Kd.R_drew)); exact HO240.out)) k_ hk_.2.1), (Kd.fresh' (Kd.N_lt (by (with_reducible repeat (first | apply Kd.N_alloc | apply Kd.N_drewN | apply Kd.N_drew)); exact HO246.out)) k_ hk_.2.1), (Kd.freshB (g := gb243) (o := .cells #[.int .i64 t241, .int .i64 t242] 28 (0, 0)) (bk_ BK243) k_ hk_.2.1)⟩)) (below_size (bw_ HB))); have n4_ := Aside0.mk (blk_below (g := gb243) (o := .cells #[.int .i64 t241, .int .i64 t242] 28 (0, 0)) (bk_ BK243) hb); have n5_ := Aside0.mk (below_step (bw_ HB) hb); clear HO237; clear HO240; clear HO246; clear BK243; clear HB; have HO237 := n0_; have HO240 := n1_; have HO246 := n2_; have HO249 := n3_; have BK243 := n4_; have HB := n5_; clear n0_ n1_ n2_ n3_ n4_ n5_; (try clear hb); (try clear hb2); (try clear hk); (try clear hi); (try clear ho0)) | ((with_reducible refine gate_dst (N := 4) rfl ?_); (try (refine gate_guard (by rfl) ?_; dsimp only)); refine bx_ (N := 4) (cs := #[.int .i64 0, .int .i64 0]) (t := 28) ?_; intro gb252 hg w69 hbox hb; have n0_ := Aside0.mk (Kd.N_below (Kd.N_elderB (by (with_reducible repeat (first | apply Kd.N_alloc | apply Kd.N_drewN | apply Kd.N_drew)); exact HO237.out) gb252 (Nat.le_of_eq hg.symm)) hb); have n1_ := Aside0.mk (Kd.R_below (by (with_reducible repeat (first | apply Kd.R_alloc | apply Kd.R_drewN | apply Kd.R_drew)); exact HO240.out) hb); have n2_ := Aside0.mk (Kd.N_below (Kd.N_elderB (by (with_reducible repeat (first | apply Kd.N_alloc | apply Kd.N_drewN | apply Kd.N_drew)); exact HO246.out) gb252 (Nat.le_of_eq hg.symm)) hb); have n3_ := Aside0.mk (Kd.N_below (Kd.N_elderB (by (with_reducible repeat (first | apply Kd.N_alloc | apply Kd.N_drewN | apply Kd.N_drew)); exact HO249.out) gb252 (Nat.le_of_eq hg.symm)) hb); have n4_ := Aside0.mk (blk_below (g := gb243) (o := .cells #[.int .i64 t241, .int .i64 t242] 28 (0, 0)) (bk_ BK243) hb); have n5_ := Aside0.mk (below_step (bw_ HB) hb); have n6_ := Aside0.mk (hbox); have n7_ := Aside0.mk ((by rw [hg]; exact (below_size (bw_ HB)) : w.heap.size ≤ gb252)); have n8_ := Aside0.mk ((by rw [hg]; exact (below_size (bw_ HB)) : w.heap.size ≤ gb252)); have n9_ := Aside0.mk ((by rw [hg]; exact Nat.ne_of_lt (blk_lt (g := gb243) (o := .cells #[.int .i64 t241, .int .i64 t242] 28 (0, 0)) (bk_ BK243)) : gb243 ≠ gb252)); have n10_ := Aside0.mk ((by rw [hg]; exact Nat.ne_of_gt (blk_lt (g := gb243) (o := .cells #[.int .i64 t241, .int .i64 t242] 28 (0, 0)) (bk_ BK243)) : gb252 ≠ gb243)); clear HO237; clear HO240; clear HO246; clear HO249; clear BK243; clear HB; have HO237 := n0_; have HO240 := n1_; have HO246 := n2_; have HO249 := n3_; have BK243 := n4_; have HB := n5_; have BK252 := n6_; have GW252 := n7_; have GE252 := n8_; have NB243_252 := n9_; have NB252_243 := n10_; clear n0_ n1_ n2_ n3_ n4_ n5_ n6_ n7_ n8_ n9_ n10_; clear hb hbox hg; have hnb70 := NB252_243.out; have hnc70 := NB243_252.out; obtain ⟨hcz71_0, hcz71_1, hfz71_0, hfz71_1⟩ := cz2_ BK252; obtain ⟨hcz72_0, hcz72_1, hfz72_0, hfz72_1⟩ := cz2_ BK243))
  go_ret
  exact ⟨id_, bw_ HB⟩

/-! ### linkhouseref7_Leads: function 49 -/
set_option maxRecDepth 100000 in
def linkhouseref7_Leads.l0 : Nat → List (S62) → Int → Int → Int → Option (Bool)
 | 0, _, _, _, _ => none
 | k + 1, x0, x1, x2, x7 => if 0 ≤ x1 then (if x1 < (x0.length : Int) then (if x7 < (((rd_T62 x0 x1).f3).length : Int) then (if 0 ≤ x7 then (if ((rd_T64 ((rd_T62 x0 x1).f3) x7).f0) = 3 then (linkhouseref7_Leads.l0 k x0 x1 x2 (wrap64 (x7 + 1))) else (if ((rd_T64 ((rd_T62 x0 x1).f3) x7).f1) = x2 then (if x2 ≥ 0 then (some true) else (linkhouseref7_Leads.l0 k x0 x1 x2 (wrap64 (x7 + 1)))) else (linkhouseref7_Leads.l0 k x0 x1 x2 (wrap64 (x7 + 1))))) else (none)) else (some false)) else (none)) else (none)
set_option maxRecDepth 100000 in
def linkhouseref7_Leads.f (k : Nat) (l0 : List (S62)) (a1 : Int) (a2 : Int) : Option (Bool) := linkhouseref7_Leads.l0 k l0 a1 a2 0
set_option maxRecDepth 100000 in
theorem linkhouseref7_Leads.mono_l : ∀ k, (∀ y0 y1 y2 y3, LeO (linkhouseref7_Leads.l0 k y0 y1 y2 y3) (linkhouseref7_Leads.l0 (k + 1) y0 y1 y2 y3))
 | 0 => fun _ _ _ _ r h => by simp [linkhouseref7_Leads.l0] at h
 | k + 1 => by
  have ih0 := linkhouseref7_Leads.mono_l k
  ·
   intro y0 y1 y2 y3
   unfold linkhouseref7_Leads.l0
   repeat' first
   | (with_reducible exact ih0 _ _ _ _)
   | (with_reducible exact LeO.refl _)
   | (with_reducible exact LeO.none _)
   | (with_reducible refine LeO.ite ?_ ?_)
   | (with_reducible refine LeO.bind ?_ (fun _ => ?_))
   | exact ih0 _ _ _ _
   | exact LeO.none _
   | refine LeO.ite ?_ ?_
   | refine LeO.bind ?_ (fun _ => ?_)
set_option maxRecDepth 100000 in
theorem linkhouseref7_Leads.mono : ∀ a0 a1 a2 k, LeO (linkhouseref7_Leads.f k a0 a1 a2) (linkhouseref7_Leads.f (k + 1) a0 a1 a2) := by
 intro a0 a1 a2 k
 have ih0 := linkhouseref7_Leads.mono_l k
 unfold linkhouseref7_Leads.f
 repeat' first
   | (with_reducible exact ih0 _ _ _ _)
   | (with_reducible exact LeO.refl _)
   | (with_reducible exact LeO.none _)
   | (with_reducible refine LeO.ite ?_ ?_)
   | (with_reducible refine LeO.bind ?_ (fun _ => ?_))
   | exact ih0 _ _ _ _
   | exact LeO.none _
   | refine LeO.ite ?_ ?_
   | refine LeO.bind ?_ (fun _ => ?_)
set_option maxHeartbeats 8000000 in
set_option maxRecDepth 100000 in
theorem linkhouseref7_Leads.calls (k : Nat) (A0 : Option Addr) (c0 : Nat) (l0 : List (S62)) (a1 : Int) (a2 : Int) (r : Bool) (w : World) (hr0 : Kd.C k62 w A0 l0.length l0) (hc0 : l0.length ≤ c0) (h : linkhouseref7_Leads.f k l0 a1 a2 = some r) :
  Calls Try.prog 49 #[.slice A0 l0.length c0, .int .i64 a1, .int .i64 a2] w fun e w' => e = .returned (.bool r) ∧ Below w.heap.size w w' := by
 have hu64 := Try.underlying64
 have HR0 := Aside0.mk hr0
 have HC0 := Aside0.mk hc0
 clear hr0 hc0
 have HB := Aside0.mk (Below.refl w.heap.size w)
 have H : (linkhouseref7_Leads.l0 k l0 a1 a2 0) = some r := h
 clear h
 have H' := Aside0.mk H
 clear H
 go_enter Try.func49, Try.ntmps49
 go_wp2
 go_loopg [7] k (fun kq v7 w' => ∃ (x7_1 : Int), v7 = .int .i64 x7_1 ∧ Aside0 (linkhouseref7_Leads.l0 kq l0 a1 a2 x7_1 = some r) ∧ Aside0 (kq ≤ k) ∧ Aside0 (Below w.heap.size w w'))
 case atStart => exact ⟨(0), rs_, H', ⟨Nat.le_refl _⟩, ⟨bw_ HB⟩⟩
 case round =>
  clear H'
  (try clear p2)
  obtain ⟨x7_1, rfl, HA, HK1, HB⟩ := hrel
  cases gk with
  | zero => exact absurd HA.out (by simp [linkhouseref7_Leads.l0])
  | succ k1 =>
   have H := HA.out
   clear HA
   simp only [linkhouseref7_Leads.l0] at H
   by_cases c4 : 0 ≤ a1
   ·
    rw [if_pos c4] at H
    have c4b0 : decide (0 ≤ a1) = true := decide_eq_true c4
    clear c4
    by_cases c5 : a1 < (l0.length : Int)
    ·
     rw [if_pos c5] at H
     have c5b0 : decide (a1 < (l0.length : Int)) = true := decide_eq_true c5
     clear c5
     by_cases c6 : x7_1 < (((rd_T62 l0 a1).f3).length : Int)
     ·
      rw [if_pos c6] at H
      have c6b0 : decide (x7_1 < (((rd_T62 l0 a1).f3).length : Int)) = true := decide_eq_true c6
      clear c6
      by_cases c7 : 0 ≤ x7_1
      ·
       rw [if_pos c7] at H
       have c7b0 : decide (0 ≤ x7_1) = true := decide_eq_true c7
       clear c7
       by_cases c8 : ((rd_T64 ((rd_T62 l0 a1).f3) x7_1).f0) = 3
       ·
        rw [if_pos c8] at H
        have c8b0 : (((rd_T64 ((rd_T62 l0 a1).f3) x7_1).f0) == 3) = true := beq_iff_eq.mpr c8
        have c8b1 : (((rd_T64 ((rd_T62 l0 a1).f3) x7_1).f0) != 3) = false := bne_eq_false_iff_eq.mpr c8
        clear c8
        have H' := Aside0.mk H
        clear H
        have p264 : 0 ≤ (a1 : Int) := of_decide_eq_true (by first | (with_reducible assumption) | assumption)
        have q264 : a1 < (l0.length : Int) := of_decide_eq_true (by first | (with_reducible assumption) | assumption)
        obtain ⟨ad264, A264_3, c264_3, e264, hx264_0, hx264_1, hx264_2, hx264_3, hl264_3, hi264_3⟩ := at_T62 HR0.out a1 p264 q264
        cases e264
        replace hx264_0 := (HB.out.cell (World.block_lt_of_cell? w _ hx264_0)).trans hx264_0
        replace hx264_1 := (HB.out.cell (World.block_lt_of_cell? w _ hx264_1)).trans hx264_1
        replace hx264_2 := (HB.out.cell (World.block_lt_of_cell? w _ hx264_2)).trans hx264_2
        replace hx264_3 := (HB.out.cell (World.block_lt_of_cell? w _ hx264_3)).trans hx264_3
        have HR264_3 := Aside0.mk hi264_3
        have HC264_3 := Aside0.mk hl264_3
        clear hi264_3 hl264_3
        replace p264 := eq_true p264
        replace q264 := eq_true q264
        have p265 : 0 ≤ (a1 : Int) := of_decide_eq_true (by first | (with_reducible assumption) | assumption)
        have q265 : a1 < (l0.length : Int) := of_decide_eq_true (by first | (with_reducible assumption) | assumption)
        obtain ⟨ad265, A265_3, c265_3, e265, hx265_0, hx265_1, hx265_2, hx265_3, hl265_3, hi265_3⟩ := at_T62 HR0.out a1 p265 q265
        obtain rfl : ad264 = ad265 := (by injection e265)
        replace hx265_0 := (HB.out.cell (World.block_lt_of_cell? w _ hx265_0)).trans hx265_0
        replace hx265_1 := (HB.out.cell (World.block_lt_of_cell? w _ hx265_1)).trans hx265_1
        replace hx265_2 := (HB.out.cell (World.block_lt_of_cell? w _ hx265_2)).trans hx265_2
        replace hx265_3 := (HB.out.cell (World.block_lt_of_cell? w _ hx265_3)).trans hx265_3
        have HR265_3 := Aside0.mk hi265_3
        have HC265_3 := Aside0.mk hl265_3
        clear hi265_3 hl265_3
        replace p265 := eq_true p265
        replace q265 := eq_true q265
        have ea_ := Option.some.inj (hx264_3.symm.trans hx265_3)
        injection ea_ with ea_ en_ ec_
        subst ea_
        subst ec_
        clear en_
        have p266 : 0 ≤ (x7_1 : Int) := of_decide_eq_true (by first | (with_reducible assumption) | assumption)
        have q266 : x7_1 < (((rd_T62 l0 a1).f3).length : Int) := of_decide_eq_true (by first | (with_reducible assumption) | assumption)
        obtain ⟨ad266, e266, hx266_0, hx266_1⟩ := at_T64 HR265_3.out x7_1 p266 q266
        cases e266
        replace hx266_0 := (HB.out.cell (World.block_lt_of_cell? w _ hx266_0)).trans hx266_0
        replace hx266_1 := (HB.out.cell (World.block_lt_of_cell? w _ hx266_1)).trans hx266_1
        replace p266 := eq_true p266
        replace q266 := eq_true q266
        go_wp2_with (first | ((with_reducible refine gate_dst (N := 8) rfl ?_); refine bx_ (N := 8) (cs := #[.int .i64 0, .int .i64 0]) (t := 64) ?_; intro gb267 hg w9 hbox hb; have BK267 := Aside0.mk hbox; have GW267 := bs_ HB hg; have GE267 := bs_ HB hg; replace HB := hs_ HB hb; clear hb hbox hg; obtain ⟨hcz10_0, hcz10_1, hfz10_0, hfz10_1⟩ := cz2_ BK267))
        go_roundg k1
        case measure => have := HK1.out; omega
        case rel => exact ⟨(wrap64 (x7_1 + 1)), rs_, H', ⟨by have := HK1.out; omega⟩, ⟨bw_ HB⟩⟩
       ·
        rw [if_neg c8] at H
        have c8b0 : (((rd_T64 ((rd_T62 l0 a1).f3) x7_1).f0) == 3) = false := beq_eq_false_iff_ne.mpr c8
        have c8b1 : (((rd_T64 ((rd_T62 l0 a1).f3) x7_1).f0) != 3) = true := bne_iff_ne.mpr c8
        by_cases c11 : ((rd_T64 ((rd_T62 l0 a1).f3) x7_1).f1) = a2
        ·
         rw [if_pos c11] at H
         have c11b0 : (((rd_T64 ((rd_T62 l0 a1).f3) x7_1).f1) == a2) = true := beq_iff_eq.mpr c11
         have c11b1 : (((rd_T64 ((rd_T62 l0 a1).f3) x7_1).f1) != a2) = false := bne_eq_false_iff_eq.mpr c11
         clear c11
         by_cases c12 : a2 ≥ 0
         ·
          rw [if_pos c12] at H
          have c12b0 : decide (0 ≤ a2) = true := decide_eq_true c12
          clear c12
          obtain rfl := Option.some.inj H
          have p264 : 0 ≤ (a1 : Int) := of_decide_eq_true (by first | (with_reducible assumption) | assumption)
          have q264 : a1 < (l0.length : Int) := of_decide_eq_true (by first | (with_reducible assumption) | assumption)
          obtain ⟨ad264, A264_3, c264_3, e264, hx264_0, hx264_1, hx264_2, hx264_3, hl264_3, hi264_3⟩ := at_T62 HR0.out a1 p264 q264
          cases e264
          replace hx264_0 := (HB.out.cell (World.block_lt_of_cell? w _ hx264_0)).trans hx264_0
          replace hx264_1 := (HB.out.cell (World.block_lt_of_cell? w _ hx264_1)).trans hx264_1
          replace hx264_2 := (HB.out.cell (World.block_lt_of_cell? w _ hx264_2)).trans hx264_2
          replace hx264_3 := (HB.out.cell (World.block_lt_of_cell? w _ hx264_3)).trans hx264_3
          have HR264_3 := Aside0.mk hi264_3
          have HC264_3 := Aside0.mk hl264_3
          clear hi264_3 hl264_3
          replace p264 := eq_true p264
          replace q264 := eq_true q264
          have p265 : 0 ≤ (a1 : Int) := of_decide_eq_true (by first | (with_reducible assumption) | assumption)
          have q265 : a1 < (l0.length : Int) := of_decide_eq_true (by first | (with_reducible assumption) | assumption)
          obtain ⟨ad265, A265_3, c265_3, e265, hx265_0, hx265_1, hx265_2, hx265_3, hl265_3, hi265_3⟩ := at_T62 HR0.out a1 p265 q265
          obtain rfl : ad264 = ad265 := (by injection e265)
          replace hx265_0 := (HB.out.cell (World.block_lt_of_cell? w _ hx265_0)).trans hx265_0
          replace hx265_1 := (HB.out.cell (World.block_lt_of_cell? w _ hx265_1)).trans hx265_1
          replace hx265_2 := (HB.out.cell (World.block_lt_of_cell? w _ hx265_2)).trans hx265_2
          replace hx265_3 := (HB.out.cell (World.block_lt_of_cell? w _ hx265_3)).trans hx265_3
          have HR265_3 := Aside0.mk hi265_3
          have HC265_3 := Aside0.mk hl265_3
          clear hi265_3 hl265_3
          replace p265 := eq_true p265
          replace q265 := eq_true q265
          have ea_ := Option.some.inj (hx264_3.symm.trans hx265_3)
          injection ea_ with ea_ en_ ec_
          subst ea_
          subst ec_
          clear en_
          have p266 : 0 ≤ (x7_1 : Int) := of_decide_eq_true (by first | (with_reducible assumption) | assumption)
          have q266 : x7_1 < (((rd_T62 l0 a1).f3).length : Int) := of_decide_eq_true (by first | (with_reducible assumption) | assumption)
          obtain ⟨ad266, e266, hx266_0, hx266_1⟩ := at_T64 HR265_3.out x7_1 p266 q266
          cases e266
          replace hx266_0 := (HB.out.cell (World.block_lt_of_cell? w _ hx266_0)).trans hx266_0
          replace hx266_1 := (HB.out.cell (World.block_lt_of_cell? w _ hx266_1)).trans hx266_1
          replace p266 := eq_true p266
          replace q266 := eq_true q266
          go_wp2_with (first | ((with_reducible refine gate_dst (N := 8) rfl ?_); refine bx_ (N := 8) (cs := #[.int .i64 0, .int .i64 0]) (t := 64) ?_; intro gb267 hg w13 hbox hb; have BK267 := Aside0.mk hbox; have GW267 := bs_ HB hg; have GE267 := bs_ HB hg; replace HB := hs_ HB hb; clear hb hbox hg; obtain ⟨hcz14_0, hcz14_1, hfz14_0, hfz14_1⟩ := cz2_ BK267))
          go_ret
          exact ⟨id_, bw_ HB⟩
         ·
          rw [if_neg c12] at H
          have c12b0 : decide (0 ≤ a2) = false := decide_eq_false c12
          clear c12
          have H' := Aside0.mk H
          clear H
          have p264 : 0 ≤ (a1 : Int) := of_decide_eq_true (by first | (with_reducible assumption) | assumption)
          have q264 : a1 < (l0.length : Int) := of_decide_eq_true (by first | (with_reducible assumption) | assumption)
          obtain ⟨ad264, A264_3, c264_3, e264, hx264_0, hx264_1, hx264_2, hx264_3, hl264_3, hi264_3⟩ := at_T62 HR0.out a1 p264 q264
          cases e264
          replace hx264_0 := (HB.out.cell (World.block_lt_of_cell? w _ hx264_0)).trans hx264_0
          replace hx264_1 := (HB.out.cell (World.block_lt_of_cell? w _ hx264_1)).trans hx264_1
          replace hx264_2 := (HB.out.cell (World.block_lt_of_cell? w _ hx264_2)).trans hx264_2
          replace hx264_3 := (HB.out.cell (World.block_lt_of_cell? w _ hx264_3)).trans hx264_3
          have HR264_3 := Aside0.mk hi264_3
          have HC264_3 := Aside0.mk hl264_3
          clear hi264_3 hl264_3
          replace p264 := eq_true p264
          replace q264 := eq_true q264
          have p265 : 0 ≤ (a1 : Int) := of_decide_eq_true (by first | (with_reducible assumption) | assumption)
          have q265 : a1 < (l0.length : Int) := of_decide_eq_true (by first | (with_reducible assumption) | assumption)
          obtain ⟨ad265, A265_3, c265_3, e265, hx265_0, hx265_1, hx265_2, hx265_3, hl265_3, hi265_3⟩ := at_T62 HR0.out a1 p265 q265
          obtain rfl : ad264 = ad265 := (by injection e265)
          replace hx265_0 := (HB.out.cell (World.block_lt_of_cell? w _ hx265_0)).trans hx265_0
          replace hx265_1 := (HB.out.cell (World.block_lt_of_cell? w _ hx265_1)).trans hx265_1
          replace hx265_2 := (HB.out.cell (World.block_lt_of_cell? w _ hx265_2)).trans hx265_2
          replace hx265_3 := (HB.out.cell (World.block_lt_of_cell? w _ hx265_3)).trans hx265_3
          have HR265_3 := Aside0.mk hi265_3
          have HC265_3 := Aside0.mk hl265_3
          clear hi265_3 hl265_3
          replace p265 := eq_true p265
          replace q265 := eq_true q265
          have ea_ := Option.some.inj (hx264_3.symm.trans hx265_3)
          injection ea_ with ea_ en_ ec_
          subst ea_
          subst ec_
          clear en_
          have p266 : 0 ≤ (x7_1 : Int) := of_decide_eq_true (by first | (with_reducible assumption) | assumption)
          have q266 : x7_1 < (((rd_T62 l0 a1).f3).length : Int) := of_decide_eq_true (by first | (with_reducible assumption) | assumption)
          obtain ⟨ad266, e266, hx266_0, hx266_1⟩ := at_T64 HR265_3.out x7_1 p266 q266
          cases e266
          replace hx266_0 := (HB.out.cell (World.block_lt_of_cell? w _ hx266_0)).trans hx266_0
          replace hx266_1 := (HB.out.cell (World.block_lt_of_cell? w _ hx266_1)).trans hx266_1
          replace p266 := eq_true p266
          replace q266 := eq_true q266
          go_wp2_with (first | ((with_reducible refine gate_dst (N := 8) rfl ?_); refine bx_ (N := 8) (cs := #[.int .i64 0, .int .i64 0]) (t := 64) ?_; intro gb267 hg w15 hbox hb; have BK267 := Aside0.mk hbox; have GW267 := bs_ HB hg; have GE267 := bs_ HB hg; replace HB := hs_ HB hb; clear hb hbox hg; obtain ⟨hcz16_0, hcz16_1, hfz16_0, hfz16_1⟩ := cz2_ BK267))
          go_roundg k1
          case measure => have := HK1.out; omega
          case rel => exact ⟨(wrap64 (x7_1 + 1)), rs_, H', ⟨by have := HK1.out; omega⟩, ⟨bw_ HB⟩⟩
        ·
         rw [if_neg c11] at H
         have c11b0 : (((rd_T64 ((rd_T62 l0 a1).f3) x7_1).f1) == a2) = false := beq_eq_false_iff_ne.mpr c11
         have c11b1 : (((rd_T64 ((rd_T62 l0 a1).f3) x7_1).f1) != a2) = true := bne_iff_ne.mpr c11
         have H' := Aside0.mk H
         clear H
         have p264 : 0 ≤ (a1 : Int) := of_decide_eq_true (by first | (with_reducible assumption) | assumption)
         have q264 : a1 < (l0.length : Int) := of_decide_eq_true (by first | (with_reducible assumption) | assumption)
         obtain ⟨ad264, A264_3, c264_3, e264, hx264_0, hx264_1, hx264_2, hx264_3, hl264_3, hi264_3⟩ := at_T62 HR0.out a1 p264 q264
         cases e264
         replace hx264_0 := (HB.out.cell (World.block_lt_of_cell? w _ hx264_0)).trans hx264_0
         replace hx264_1 := (HB.out.cell (World.block_lt_of_cell? w _ hx264_1)).trans hx264_1
         replace hx264_2 := (HB.out.cell (World.block_lt_of_cell? w _ hx264_2)).trans hx264_2
         replace hx264_3 := (HB.out.cell (World.block_lt_of_cell? w _ hx264_3)).trans hx264_3
         have HR264_3 := Aside0.mk hi264_3
         have HC264_3 := Aside0.mk hl264_3
         clear hi264_3 hl264_3
         replace p264 := eq_true p264
         replace q264 := eq_true q264
         have p265 : 0 ≤ (a1 : Int) := of_decide_eq_true (by first | (with_reducible assumption) | assumption)
         have q265 : a1 < (l0.length : Int) := of_decide_eq_true (by first | (with_reducible assumption) | assumption)
         obtain ⟨ad265, A265_3, c265_3, e265, hx265_0, hx265_1, hx265_2, hx265_3, hl265_3, hi265_3⟩ := at_T62 HR0.out a1 p265 q265
         obtain rfl : ad264 = ad265 := (by injection e265)
         replace hx265_0 := (HB.out.cell (World.block_lt_of_cell? w _ hx265_0)).trans hx265_0
         replace hx265_1 := (HB.out.cell (World.block_lt_of_cell? w _ hx265_1)).trans hx265_1
         replace hx265_2 := (HB.out.cell (World.block_lt_of_cell? w _ hx265_2)).trans hx265_2
         replace hx265_3 := (HB.out.cell (World.block_lt_of_cell? w _ hx265_3)).trans hx265_3
         have HR265_3 := Aside0.mk hi265_3
         have HC265_3 := Aside0.mk hl265_3
         clear hi265_3 hl265_3
         replace p265 := eq_true p265
         replace q265 := eq_true q265
         have ea_ := Option.some.inj (hx264_3.symm.trans hx265_3)
         injection ea_ with ea_ en_ ec_
         subst ea_
         subst ec_
         clear en_
         have p266 : 0 ≤ (x7_1 : Int) := of_decide_eq_true (by first | (with_reducible assumption) | assumption)
         have q266 : x7_1 < (((rd_T62 l0 a1).f3).length : Int) := of_decide_eq_true (by first | (with_reducible assumption) | assumption)
         obtain ⟨ad266, e266, hx266_0, hx266_1⟩ := at_T64 HR265_3.out x7_1 p266 q266
         cases e266
         replace hx266_0 := (HB.out.cell (World.block_lt_of_cell? w _ hx266_0)).trans hx266_0
         replace hx266_1 := (HB.out.cell (World.block_lt_of_cell? w _ hx266_1)).trans hx266_1
         replace p266 := eq_true p266
         replace q266 := eq_true q266
         go_wp2_with (first | ((with_reducible refine gate_dst (N := 8) rfl ?_); refine bx_ (N := 8) (cs := #[.int .i64 0, .int .i64 0]) (t := 64) ?_; intro gb267 hg w17 hbox hb; have BK267 := Aside0.mk hbox; have GW267 := bs_ HB hg; have GE267 := bs_ HB hg; replace HB := hs_ HB hb; clear hb hbox hg; obtain ⟨hcz18_0, hcz18_1, hfz18_0, hfz18_1⟩ := cz2_ BK267))
         go_roundg k1
         case measure => have := HK1.out; omega
         case rel => exact ⟨(wrap64 (x7_1 + 1)), rs_, H', ⟨by have := HK1.out; omega⟩, ⟨bw_ HB⟩⟩
      ·
       rw [if_neg c7] at H
       exact absurd H (by simp)
     ·
      rw [if_neg c6] at H
      have c6b0 : decide (x7_1 < (((rd_T62 l0 a1).f3).length : Int)) = false := decide_eq_false c6
      clear c6
      obtain rfl := Option.some.inj H
      have p264 : 0 ≤ (a1 : Int) := of_decide_eq_true (by first | (with_reducible assumption) | assumption)
      have q264 : a1 < (l0.length : Int) := of_decide_eq_true (by first | (with_reducible assumption) | assumption)
      obtain ⟨ad264, A264_3, c264_3, e264, hx264_0, hx264_1, hx264_2, hx264_3, hl264_3, hi264_3⟩ := at_T62 HR0.out a1 p264 q264
      cases e264
      replace hx264_0 := (HB.out.cell (World.block_lt_of_cell? w _ hx264_0)).trans hx264_0
      replace hx264_1 := (HB.out.cell (World.block_lt_of_cell? w _ hx264_1)).trans hx264_1
      replace hx264_2 := (HB.out.cell (World.block_lt_of_cell? w _ hx264_2)).trans hx264_2
      replace hx264_3 := (HB.out.cell (World.block_lt_of_cell? w _ hx264_3)).trans hx264_3
      have HR264_3 := Aside0.mk hi264_3
      have HC264_3 := Aside0.mk hl264_3
      clear hi264_3 hl264_3
      replace p264 := eq_true p264
      replace q264 := eq_true q264
      go_wp2
      go_ret
      exact ⟨id_, bw_ HB⟩
    ·
     rw [if_neg c5] at H
     exact absurd H (by simp)
   ·
    rw [if_neg c4] at H
    exact absurd H (by simp)

end Go.Proofs.Ytaellapacoikaaa.PB
