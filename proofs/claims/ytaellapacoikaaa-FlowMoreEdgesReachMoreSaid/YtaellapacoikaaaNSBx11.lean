import Derived.Test.YtaellapacoikaaaN0
import Derived.Test.YtaellapacoikaaaNSBx0
import Derived.Test.YtaellapacoikaaaNSBx1
import Derived.Test.YtaellapacoikaaaNSBx2
import Derived.Test.YtaellapacoikaaaNSBx4
import Derived.Test.YtaellapacoikaaaNSBx7
import Derived.Test.YtaellapacoikaaaNSBx8
namespace Go.Proofs.Ytaellapacoikaaa.PB
open Go.RowKit Go.Proofs.YtaellapacoikaaaW.PrintWords Go.Proofs.YtaellapacoikaaaW.PrintLast Go.Proofs.YtaellapacoikaaaW.PrintMore
attribute [local go_sem] max2_int min2_int max_two min_two max_three min_three max_four min_four   -- for this text's walks alone
set_option linter.unusedVariables false
set_option linter.unusedSimpArgs false

attribute [local go_sem high] eqA28
/-! ### flow_reach: function 50 -/
set_option maxRecDepth 100000 in
mutual
def flow_reach.l0 : Nat → List (S62) → Int → List Bool → List Int → Option (List Bool)
 | 0, _, _, _, _ => none
 | k + 1, x0, x2, x7, x8 => if (x8.length : Int) > 0 then (if 0 < (x8.length : Int) then (if 0 ≤ (rd x8 0) then (if (rd x8 0) < (x0.length : Int) then ((flow_Inner.f k ((rd_T62 x0 (rd x8 0)).f0) ((rd_T62 x0 (rd x8 0)).f1) ((rd_T62 x0 (rd x8 0)).f2) ((rd_T62 x0 (rd x8 0)).f3)).bind fun t358 => (flow_reach.l1 k x0 x2 x7 x8 t358 (t358.length : Int) 0)) else (none)) else (none)) else (none)) else (some x7)
def flow_reach.l1 : Nat → List (S62) → Int → List Bool → List Int → List Int → Int → Int → Option (List Bool)
 | 0, _, _, _, _, _, _, _ => none
 | k + 1, x0, x2, x7, x8, x34, x35, x36 => if x36 < x35 then (if 0 ≤ x36 then (if x36 < (x34.length : Int) then (if 0 ≤ (rd x34 x36) then (if (rd x34 x36) < (x7.length : Int) then (if (rdOf false x7 (rd x34 x36) = true) then (flow_reach.l1 k x0 x2 x7 x8 x34 x35 (wrap64 (x36 + 1))) else (if (rd x34 x36) = x2 then (flow_reach.l1 k x0 x2 x7 x8 x34 x35 (wrap64 (x36 + 1))) else (if x8.length < 17592186044416 then (flow_reach.l1 k x0 x2 (x7.set ((rd x34 x36) : Int).toNat true) (x8 ++ [rd x34 x36]) x34 x35 (wrap64 (x36 + 1))) else (none)))) else (none)) else (none)) else (none)) else (none)) else (if 1 ≤ (x8.length : Int) then (flow_reach.l0 k x0 x2 x7 (x8.drop (1 : Int).toNat)) else (none))
end
set_option maxRecDepth 100000 in
def flow_reach.f (k : Nat) (l0 : List (S62)) (a1 : Int) (a2 : Int) : Option (List Bool) := if 0 ≤ (l0.length : Int) then (if ((l0.length : Int) : Int).toNat ≤ 281474976710656 then ((some (List.replicate ((l0.length : Int) : Int).toNat false : List Bool)).bind fun y349 => (if a1 = a2 then (some y349) else (if 0 ≤ a1 then (if a1 < (y349.length : Int) then (flow_reach.l0 k l0 a2 (y349.set (a1 : Int).toNat true) (([a1] : List Int))) else (none)) else (none)))) else (none)) else (none)
set_option maxRecDepth 100000 in
theorem flow_reach.mono_l : ∀ k, (∀ y0 y1 y2 y3, LeO (flow_reach.l0 k y0 y1 y2 y3) (flow_reach.l0 (k + 1) y0 y1 y2 y3)) ∧ (∀ y0 y1 y2 y3 y4 y5 y6, LeO (flow_reach.l1 k y0 y1 y2 y3 y4 y5 y6) (flow_reach.l1 (k + 1) y0 y1 y2 y3 y4 y5 y6))
 | 0 => ⟨fun _ _ _ _ r h => by simp [flow_reach.l0] at h, fun _ _ _ _ _ _ _ r h => by simp [flow_reach.l1] at h⟩
 | k + 1 => by
  obtain ⟨ih0, ih1⟩ := flow_reach.mono_l k
  refine ⟨?_, ?_⟩
  ·
   intro y0 y1 y2 y3
   unfold flow_reach.l0
   repeat' first
   | (with_reducible exact ih0 _ _ _ _)
   | (with_reducible exact ih1 _ _ _ _ _ _ _)
   | (with_reducible exact flow_Inner.mono _ _ _ _ _)
   | (with_reducible exact LeO.refl _)
   | (with_reducible exact LeO.none _)
   | (with_reducible refine LeO.ite ?_ ?_)
   | (with_reducible refine LeO.bind ?_ (fun _ => ?_))
   | exact ih0 _ _ _ _
   | exact ih1 _ _ _ _ _ _ _
   | exact flow_Inner.mono _ _ _ _ _
   | exact LeO.none _
   | refine LeO.ite ?_ ?_
   | refine LeO.bind ?_ (fun _ => ?_)
  ·
   intro y0 y1 y2 y3 y4 y5 y6
   unfold flow_reach.l1
   repeat' first
   | (with_reducible exact ih0 _ _ _ _)
   | (with_reducible exact ih1 _ _ _ _ _ _ _)
   | (with_reducible exact flow_Inner.mono _ _ _ _ _)
   | (with_reducible exact LeO.refl _)
   | (with_reducible exact LeO.none _)
   | (with_reducible refine LeO.ite ?_ ?_)
   | (with_reducible refine LeO.bind ?_ (fun _ => ?_))
   | exact ih0 _ _ _ _
   | exact ih1 _ _ _ _ _ _ _
   | exact flow_Inner.mono _ _ _ _ _
   | exact LeO.none _
   | refine LeO.ite ?_ ?_
   | refine LeO.bind ?_ (fun _ => ?_)
set_option maxRecDepth 100000 in
theorem flow_reach.mono : ∀ a0 a1 a2 k, LeO (flow_reach.f k a0 a1 a2) (flow_reach.f (k + 1) a0 a1 a2) := by
 intro a0 a1 a2 k
 obtain ⟨ih0, ih1⟩ := flow_reach.mono_l k
 unfold flow_reach.f
 repeat' first
   | (with_reducible exact ih0 _ _ _ _)
   | (with_reducible exact ih1 _ _ _ _ _ _ _)
   | (with_reducible exact flow_Inner.mono _ _ _ _ _)
   | (with_reducible exact LeO.refl _)
   | (with_reducible exact LeO.none _)
   | (with_reducible refine LeO.ite ?_ ?_)
   | (with_reducible refine LeO.bind ?_ (fun _ => ?_))
   | exact ih0 _ _ _ _
   | exact ih1 _ _ _ _ _ _ _
   | exact flow_Inner.mono _ _ _ _ _
   | exact LeO.none _
   | refine LeO.ite ?_ ?_
   | refine LeO.bind ?_ (fun _ => ?_)
set_option maxHeartbeats 8000000 in
set_option maxRecDepth 100000 in
theorem flow_reach.calls (k : Nat) (A0 : Option Addr) (c0 : Nat) (l0 : List (S62)) (a1 : Int) (a2 : Int) (r : List Bool) (w : World) (hr0 : Kd.C k62 w A0 l0.length l0) (hc0 : l0.length ≤ c0) (h : flow_reach.f k l0 a1 a2 = some r) :
  Calls Try.prog 50 #[.slice A0 l0.length c0, .int .i64 a1, .int .i64 a2] w fun e w' => ∃ v0_ : Value, e = .returned (v0_) ∧ Kd.R Kd.bool 4 w' w.heap.size (fun _ => True) v0_ r ∧ Below w.heap.size w w' := by
 have hu62 := Try.underlying62
 have HR0 := Aside0.mk hr0
 have HC0 := Aside0.mk hc0
 clear hr0 hc0
 have HB := Aside0.mk (Below.refl w.heap.size w)
 have H : (if 0 ≤ (l0.length : Int) then (if ((l0.length : Int) : Int).toNat ≤ 281474976710656 then ((some (List.replicate ((l0.length : Int) : Int).toNat false : List Bool)).bind fun y349 => (if a1 = a2 then (some y349) else (if 0 ≤ a1 then (if a1 < (y349.length : Int) then (flow_reach.l0 k l0 a2 (y349.set (a1 : Int).toNat true) (([a1] : List Int))) else (none)) else (none)))) else (none)) else (none)) = some r := h
 clear h
 by_cases c4 : 0 ≤ (l0.length : Int)
 ·
  rw [if_pos c4] at H
  have c4b0 := eq_true c4
  have c4b1 : decide (0 ≤ (l0.length : Int)) = true := decide_eq_true c4
  clear c4
  by_cases c5 : ((l0.length : Int) : Int).toNat ≤ 281474976710656
  ·
   rw [if_pos c5] at H
   have c5b0 := eq_true c5
   have c5b1 : decide (((l0.length : Int) : Int).toNat ≤ 281474976710656) = true := decide_eq_true c5
   clear c5
   obtain ⟨y349, hy349⟩ : ∃ y_ : List Bool, y_ = (List.replicate ((l0.length : Int) : Int).toNat false) := ⟨_, rfl⟩
   replace H : (if a1 = a2 then (some y349) else (if 0 ≤ a1 then (if a1 < (y349.length : Int) then (flow_reach.l0 k l0 a2 (y349.set (a1 : Int).toNat true) (([a1] : List Int))) else (none)) else (none))) = some r := by first | (rw [hy349]; with_reducible exact H) | (have H2_ := (Option.bind_some _ _).symm.trans H; rw [hy349]; with_reducible exact H2_) | (have H2_ := (Option.bind_some _ _).symm.trans H; with_reducible exact H2_) | with_reducible exact H | (rw [hy349]; exact H) | exact H
   have Ny349 := Aside0.mk hy349
   clear hy349
   by_cases c6 : a1 = a2
   ·
    rw [if_pos c6] at H
    have c6b0 : (a1 == a2) = true := beq_iff_eq.mpr c6
    have c6b1 : (a1 != a2) = false := bne_eq_false_iff_eq.mpr c6
    clear c6
    obtain rfl := Option.some.inj H
    go_enter Try.func50, Try.ntmps50
    go_wp2_with (first | ((with_reducible refine gate_dst (N := 13) rfl ?_); refine Kd.R_make Kd.bool _ 4 rfl (N := 13) rfl 54 _ _ rfl (l0.length : Int) rfl rfl Try.underlying54 (.bool false) 1 info4 rfl (by decide) (by omega) false (ok := fun _ => True) (okp := fun _ => True) rfl (fun _ hk => hk) trivial (of_decide_eq_true (by first | (with_reducible assumption) | assumption)) (Nat.le_trans (Nat.mul_le_mul_right _ (of_decide_eq_true (by first | (with_reducible assumption) | assumption) : (l0.length : Int).toNat ≤ 281474976710656)) (by omega)) (Below.refl _ _) (Nat.le_refl _) ?_; intro v350 w7 ho8 hb hg_ hnew_; clear hg_ hnew_; (first | rw [← Ny349.out] at ho8 | (simp only [Int.reduceToNat] at ho8; rw [← Ny349.out] at ho8)); have n0_ := Aside0.mk (Kd.R_lower ho8 (below_size (bw_ HB))); have n1_ := Aside0.mk (below_step (bw_ HB) hb); clear HB; have HO351 := n0_; have HB := n1_; clear n0_ n1_; clear hb ho8))
    go_ret
    exact ⟨_, by first | rfl | (simp [errW_none, errW_some] <;> rfl) | (simp [*, errW_none, errW_some] <;> rfl), by (with_reducible repeat (first | apply Kd.R_alloc | apply Kd.R_drewN | apply Kd.R_drew)); exact HO351.out, bw_ HB⟩
   ·
    rw [if_neg c6] at H
    have c6b0 : (a1 == a2) = false := beq_eq_false_iff_ne.mpr c6
    have c6b1 : (a1 != a2) = true := bne_iff_ne.mpr c6
    by_cases c9 : 0 ≤ a1
    ·
     rw [if_pos c9] at H
     have c9b0 : decide (0 ≤ a1) = true := decide_eq_true c9
     clear c9
     by_cases c10 : a1 < (y349.length : Int)
     ·
      rw [if_pos c10] at H
      have c10b0 : decide (a1 < (y349.length : Int)) = true := decide_eq_true c10
      clear c10
      obtain ⟨y352, hy352⟩ : ∃ y_ : List Bool, y_ = (y349.set (a1 : Int).toNat true) := ⟨_, rfl⟩
      replace H : (flow_reach.l0 k l0 a2 y352 (([a1] : List Int))) = some r := by first | (rw [hy352]; with_reducible exact H) | (have H2_ := (Option.bind_some _ _).symm.trans H; rw [hy352]; with_reducible exact H2_) | (have H2_ := (Option.bind_some _ _).symm.trans H; with_reducible exact H2_) | with_reducible exact H | (rw [hy352]; exact H) | exact H
      have Ny352 := Aside0.mk hy352
      clear hy352
      obtain ⟨y353, hy353⟩ : ∃ y_ : List Int, y_ = (([a1] : List Int)) := ⟨_, rfl⟩
      replace H : (flow_reach.l0 k l0 a2 y352 y353) = some r := by first | (rw [hy353]; with_reducible exact H) | (have H2_ := (Option.bind_some _ _).symm.trans H; rw [hy353]; with_reducible exact H2_) | (have H2_ := (Option.bind_some _ _).symm.trans H; with_reducible exact H2_) | with_reducible exact H | (rw [hy353]; exact H) | exact H
      have Ny353 := Aside0.mk hy353
      clear hy353
      have H' := Aside0.mk H
      clear H
      go_enter Try.func50, Try.ntmps50
      go_wp2_with (first | ((with_reducible refine gate_dst (N := 13) rfl ?_); refine Kd.R_make Kd.bool _ 4 rfl (N := 13) rfl 54 _ _ rfl (l0.length : Int) rfl rfl Try.underlying54 (.bool false) 1 info4 rfl (by decide) (by omega) false (ok := fun _ => True) (okp := fun _ => True) rfl (fun _ hk => hk) trivial (of_decide_eq_true (by first | (with_reducible assumption) | assumption)) (Nat.le_trans (Nat.mul_le_mul_right _ (of_decide_eq_true (by first | (with_reducible assumption) | assumption) : (l0.length : Int).toNat ≤ 281474976710656)) (by omega)) (Below.refl _ _) (Nat.le_refl _) ?_; intro v350 w12 ho13 hb hg_ hnew_; clear hg_ hnew_; (first | rw [← Ny349.out] at ho13 | (simp only [Int.reduceToNat] at ho13; rw [← Ny349.out] at ho13)); have n0_ := Aside0.mk (Kd.R_lower ho13 (below_size (bw_ HB))); have n1_ := Aside0.mk (below_step (bw_ HB) hb); clear HB; have HO351 := n0_; have HB := n1_; clear n0_ n1_; clear hb ho13; have p11 : 0 ≤ (a1 : Int) := of_decide_eq_true (by first | (with_reducible assumption) | assumption); have q11 : (a1 : Int) < ((y349.length : Int) : Int) := of_decide_eq_true (by first | (with_reducible assumption) | assumption); obtain ⟨go11, co11, eo11, gb11, gl11, cl11, HG11⟩ := Kd.R_form HO351.out (by omega); (first | cases eo11 | (injection eo11 with ea_ en_ ec_; (first | subst ea_ | (injection ea_ with ea_; subst ea_)); subst ec_; clear en_)); have GB11 := Aside0.mk gb11; have GG11 := Aside0.mk HG11; clear gb11 gl11 HG11; obtain ⟨hx11_0, hf11_0⟩ := Kd.R_celln false HO351.out (a1 : Int) p11 q11; replace p11 := eq_true p11; replace q11 := eq_true q11; obtain ⟨hy14_, hz14_⟩ := Kd.R_celln false HO351.out (a1 : Int) (of_decide_eq_true (by first | (with_reducible assumption) | assumption)) (of_decide_eq_true (by first | (with_reducible assumption) | assumption)); have HP14 := Kd.R_putg HO351.out (a1 : Int) true) | ((with_reducible refine gate_store (t := 4) (p := 20) rfl ?_); refine store_event (t := 4) (p := 20) (v := ?vo_w15) (w1 := (w12.setCell ⟨go11, (a1 : Int).toNat, none⟩ (.bool true))) ?hg ?ho ?hn ?hr ?_; (case ho => rfl); (case hg => rfl); (case hn => rfl); (case hr => first | (go_simp; done) | (go_simp; rfl)); intro w15 hw; have hg : w12.grownBy w15 (some go11) := (by rw [hw]; exact HP14.2); have hp_ : Kd.R Kd.bool 4 w15 w.heap.size (fun _ => True) (.slice (some ⟨go11, 0, none⟩) y349.length co11) y352 := (by rw [hw, Ny352.out]; exact HP14.1); clear HP14; have n0_ := Aside0.mk (hp_); have n1_ := Aside0.mk ((by rw [hw]; exact below_set (HB.out) GB11.out : Below w.heap.size w w15)); clear HO351; clear HB; have HO351 := n0_; have HB := n1_; clear n0_ n1_; clear hg hw hp_) | ((with_reducible refine gate_dst (N := 22) rfl ?_); refine Kd.R_lit (Kd.int .i64) _ 3 ?hg (N := 22) ?hd (xs := ([a1] : List Int)) (inner := [.int .i64 a1]) (ok := fun _ => True) (okp := fun _ => True) ?hr ?hp (fun _ hk => hk) trivial (Below.refl _ _) (Nat.le_refl _) (by simp) ?_; (case hd => rfl); (case hg => rfl); (case hr => first | (go_simp; done) | (go_simp; rfl)); (case hp => exact (Reps.one (show Kd.M (Kd.int .i64) _ _ _ a1 [.int .i64 a1] from rfl) (Reps.none _ _))); intro v354 w16 ho17 hb hg_ hnew_; clear hg_ hnew_; (first | rw [← Ny353.out] at ho17 | (simp only [Int.reduceToNat] at ho17; rw [← Ny353.out] at ho17)); have n0_ := Aside0.mk (Kd.R_below (by (with_reducible repeat (first | apply Kd.R_alloc | apply Kd.R_drewN | apply Kd.R_drew)); exact HO351.out) hb); have n1_ := Aside0.mk (Kd.R_lower ho17 (below_size (bw_ HB))); have n2_ := Aside0.mk (below_step (bw_ HB) hb); clear HO351; clear HB; have HO351 := n0_; have HO355 := n1_; have HB := n2_; clear n0_ n1_ n2_; clear hb ho17))
      go_loopg [8] k (fun kq v8 w' => ∃ (x7_1 : List Bool) (x8_1 : List Int), Aside0 (flow_reach.l0 kq l0 a2 x7_1 x8_1 = some r) ∧ Aside0 (kq ≤ k) ∧ Aside0 (Kd.R Kd.bool 4 w' w.heap.size (fun _ => True) (.slice (some ⟨go11, 0, none⟩) y349.length co11) x7_1) ∧ Aside0 (Kd.Q (Kd.int .i64) 3 w' w.heap.size (fun _ => True) v8 x8_1) ∧ Aside0 (Below w.heap.size w w'))
      case atStart => exact ⟨(y352), (y353), H', ⟨Nat.le_refl _⟩, ⟨by (with_reducible repeat (first | apply Kd.R_alloc | apply Kd.R_drewN | apply Kd.R_drew)); exact HO351.out⟩, ⟨Kd.Q_of_R (by (with_reducible repeat (first | apply Kd.R_alloc | apply Kd.R_drewN | apply Kd.R_drew)); exact HO355.out)⟩, ⟨bw_ HB⟩⟩
      case round =>
       clear H'
       (try clear c1); (try clear p1); (try clear q1); (try clear hx1); (try clear p2); (try clear c4); (try clear c4b0); (try clear c4b1); (try clear c5); (try clear c5b0); (try clear c5b1); (try clear c6); (try clear c6b0); (try clear c6b1); (try clear c9); (try clear c9b0); (try clear c10); (try clear c10b0); (try clear p11); (try clear q11); (try clear hx11); (try clear hf11); (try clear hx11_0); (try clear p11); (try clear q11)
       obtain ⟨x7_1, x8_1, HA, HK1, HO_7, HO_8, HB⟩ := hrel
       have hl7_1 := (Kd.R_reads' HO_7.out).1
       rw [hl7_1] at HO_7
       (try simp only [hl7_1])
       (try simp only [hl7_1] at HO_8)
       cases gk with
       | zero => exact absurd HA.out (by simp [flow_reach.l0])
       | succ k1 =>
        have H := HA.out
        clear HA
        simp only [flow_reach.l0] at H
        by_cases c18 : (x8_1.length : Int) > 0
        ·
         rw [if_pos c18] at H
         have c18b0 : decide (0 < (x8_1.length : Int)) = true := decide_eq_true c18
         have c18b1 : decide (0 < x8_1.length) = true := decide_eq_true (by omega)
         clear c18
         by_cases c19 : 0 < (x8_1.length : Int)
         ·
          rw [if_pos c19] at H
          have c19b0 : decide (0 < (x8_1.length : Int)) = true := decide_eq_true c19
          have c19b1 : decide (0 < x8_1.length) = true := decide_eq_true (by omega)
          clear c19
          by_cases c20 : 0 ≤ (rd x8_1 0)
          ·
           rw [if_pos c20] at H
           have c20b0 : decide (0 ≤ (rd x8_1 0)) = true := decide_eq_true c20
           clear c20
           by_cases c21 : (rd x8_1 0) < (l0.length : Int)
           ·
            rw [if_pos c21] at H
            have c21b0 : decide ((rd x8_1 0) < (l0.length : Int)) = true := decide_eq_true c21
            clear c21
            replace H := Option.bind_eq_some_iff.mp H
            obtain ⟨t358, A220, H⟩ := H
            replace H : (flow_reach.l1 k1 l0 a2 x7_1 x8_1 t358 (t358.length : Int) 0) = some r := H
            have A22 := Aside0.mk A220
            clear A220
            have H' := Aside0.mk H
            clear H
            obtain ⟨Ao23, co23, eo23, _⟩ := Kd.Q_slice HO_8.out
            subst eo23
            have p356 : 0 ≤ (0 : Int) := (by omega)
            have q356 : 0 < (x8_1.length : Int) := of_decide_eq_true (by first | (with_reducible assumption) | assumption)
            obtain ⟨ad356, e356, hx356_0⟩ := Kd.at_int (Kd.Q_reads' HO_8.out).2.2 0 p356 q356
            cases e356
            have qi356 : (0 < x8_1.length) = True := eq_true (by omega)
            (try rw [show ((0 : Int)).toNat = 0 from rfl] at hx356_0)
            (try rw [Addr.add_zero'] at hx356_0)
            replace p356 := eq_true p356
            replace q356 := eq_true q356
            have p357 : 0 ≤ ((rd x8_1 0) : Int) := of_decide_eq_true (by first | (with_reducible assumption) | assumption)
            have q357 : (rd x8_1 0) < (l0.length : Int) := of_decide_eq_true (by first | (with_reducible assumption) | assumption)
            obtain ⟨ad357, A357_3, c357_3, e357, hx357_0, hx357_1, hx357_2, hx357_3, hl357_3, hi357_3⟩ := at_T62 HR0.out (rd x8_1 0) p357 q357
            cases e357
            replace hx357_0 := (HB.out.cell (World.block_lt_of_cell? w _ hx357_0)).trans hx357_0
            replace hx357_1 := (HB.out.cell (World.block_lt_of_cell? w _ hx357_1)).trans hx357_1
            replace hx357_2 := (HB.out.cell (World.block_lt_of_cell? w _ hx357_2)).trans hx357_2
            replace hx357_3 := (HB.out.cell (World.block_lt_of_cell? w _ hx357_3)).trans hx357_3
            have HR357_3 := Aside0.mk hi357_3
            have HC357_3 := Aside0.mk hl357_3
            clear hi357_3 hl357_3
            replace p357 := eq_true p357
            replace q357 := eq_true q357
            go_wp2_with (first | ((with_reducible refine gate_callee (f := 48) rfl ?_); refine goesL_ (some 34) rfl rfl Try.func48 (by kernel_rfl) rfl #[.agg #[.int .i64 ((rd_T62 l0 (rd x8_1 0)).f0), .int .i64 ((rd_T62 l0 (rd x8_1 0)).f1), .int .i64 ((rd_T62 l0 (rd x8_1 0)).f2), .slice A357_3 ((rd_T62 l0 (rd x8_1 0)).f3).length c357_3]] rfl ar_ ?_; (with_reducible refine (flow_Inner.calls k1 ((rd_T62 l0 (rd x8_1 0)).f0) ((rd_T62 l0 (rd x8_1 0)).f1) ((rd_T62 l0 (rd x8_1 0)).f2) _ _ ((rd_T62 l0 (rd x8_1 0)).f3) t358 _ ?side1 ?side2 A22.out).mono ?_); (case side1 => exact cb_ HR357_3 HB); (case side2 => exact HC357_3.out); rintro e w24 ⟨v359, rfl, ho0, hb⟩; refine ⟨_, rfl, ?_⟩; have n0_ := Aside0.mk (Kd.R_below (by (with_reducible repeat (first | apply Kd.R_alloc | apply Kd.R_drewN | apply Kd.R_drew)); exact HO_7.out) hb); have n1_ := Aside0.mk (Kd.Q_elder' (by (with_reducible repeat (first | apply Kd.Q_alloc | apply Kd.Q_drewN | apply Kd.Q_drew)); exact HO_8.out) (Kd.R_base ho0) hb); have n2_ := Aside0.mk (Kd.R_lower (Kd.R_new' ho0 (Kd.Q_lt (by (with_reducible repeat (first | apply Kd.Q_alloc | apply Kd.Q_drewN | apply Kd.Q_drew)); exact HO_8.out))) (below_size (bw_ HB))); have n3_ := Aside0.mk (below_step (bw_ HB) hb); clear HO_7; clear HO_8; clear HB; have HO_7 := n0_; have HO_8 := n1_; have HO360 := n2_; have HB := n3_; clear n0_ n1_ n2_ n3_; (try clear hb); (try clear hb2); (try clear hk); (try clear hi); (try clear ho0); obtain ⟨Ao25, co25, eo25⟩ := Kd.R_slice HO360.out; subst eo25))
            go_loopg [8, 36] k1 (fun kq v8 v36 w' => ∃ (x7_2 : List Bool) (x8_2 : List Int) (x36_2 : Int), v36 = .int .i64 x36_2 ∧ Aside0 (flow_reach.l1 kq l0 a2 x7_2 x8_2 t358 (t358.length : Int) x36_2 = some r) ∧ Aside0 (kq ≤ k1) ∧ Aside0 (Kd.R Kd.bool 4 w' w.heap.size (fun _ => True) (.slice (some ⟨go11, 0, none⟩) x7_1.length co11) x7_2) ∧ Aside0 (Kd.Q (Kd.int .i64) 3 w' w.heap.size (fun k_ => some k_ ≠ ((.slice Ao25 t358.length co25) : Value).ownBlock) v8 x8_2) ∧ Aside0 (Kd.R (Kd.int .i64) 3 w' w.heap.size (fun k_ => some k_ ≠ (v8 : Value).ownBlock) (.slice Ao25 t358.length co25) t358) ∧ Aside0 (Below w.heap.size w w'))
            case atStart => exact ⟨(x7_1), (x8_1), (0), rs_, H', ⟨Nat.le_refl _⟩, ⟨by (try simp only [hl7_1]); (with_reducible repeat (first | apply Kd.R_alloc | apply Kd.R_drewN | apply Kd.R_drew)); exact HO_7.out⟩, ⟨by (try simp only [hl7_1]); (with_reducible repeat (first | apply Kd.Q_alloc | apply Kd.Q_drewN | apply Kd.Q_drew)); exact Kd.Q_mono HO_8.out (fun _ hk => hk.2)⟩, ⟨by (try simp only [hl7_1]); (with_reducible repeat (first | apply Kd.R_alloc | apply Kd.R_drewN | apply Kd.R_drew)); exact Kd.R_mono HO360.out (fun _ hk => hk.2)⟩, ⟨bw_ HB⟩⟩
            case round =>
             clear H'
             (try clear c1); (try clear p1); (try clear q1); (try clear hx1); (try clear c2); (try clear p2); (try clear c3); (try clear p3); (try clear q3); (try clear hx3); (try clear qi3); (try clear c4); (try clear c4b0); (try clear c4b1); (try clear c5); (try clear c5b0); (try clear c5b1); (try clear c6); (try clear c6b0); (try clear c6b1); (try clear c9); (try clear c9b0); (try clear c10); (try clear c10b0); (try clear p11); (try clear q11); (try clear hx11); (try clear hf11); (try clear c18); (try clear c18b0); (try clear c18b1); (try clear c19); (try clear c19b0); (try clear c19b1); (try clear c20); (try clear c20b0); (try clear c21); (try clear c21b0); (try clear hx11_0); (try clear hx356_0); (try clear hx357_0); (try clear hx357_1); (try clear hx357_2); (try clear hx357_3); (try clear p1); (try clear p11); (try clear p2); (try clear p356); (try clear p357); (try clear q1); (try clear q11); (try clear q356); (try clear q357)
             obtain ⟨x7_2, x8_2, x36_2, rfl, HA, HK2, HO_7, HO_8, HO_34, HB⟩ := hrel
             have hl7_2 := (Kd.R_reads' HO_7.out).1
             rw [hl7_2] at HO_7
             (try simp only [hl7_2])
             (try simp only [hl7_2] at HO_8)
             (try simp only [hl7_2] at HO_34)
             cases gk with
             | zero => exact absurd HA.out (by simp [flow_reach.l1])
             | succ k2 =>
              have H := HA.out
              clear HA
              simp only [flow_reach.l1] at H
              by_cases c26 : x36_2 < (t358.length : Int)
              ·
               rw [if_pos c26] at H
               have c26b0 : decide (x36_2 < (t358.length : Int)) = true := decide_eq_true c26
               clear c26
               by_cases c27 : 0 ≤ x36_2
               ·
                rw [if_pos c27] at H
                have c27b0 : decide (0 ≤ x36_2) = true := decide_eq_true c27
                clear c27
                by_cases c28 : x36_2 < (t358.length : Int)
                ·
                 rw [if_pos c28] at H
                 have c28b0 : decide (x36_2 < (t358.length : Int)) = true := decide_eq_true c28
                 clear c28
                 by_cases c29 : 0 ≤ (rd t358 x36_2)
                 ·
                  rw [if_pos c29] at H
                  have c29b0 : decide (0 ≤ (rd t358 x36_2)) = true := decide_eq_true c29
                  clear c29
                  by_cases c30 : (rd t358 x36_2) < (x7_2.length : Int)
                  ·
                   rw [if_pos c30] at H
                   have c30b0 : decide ((rd t358 x36_2) < (x7_2.length : Int)) = true := decide_eq_true c30
                   clear c30
                   obtain ⟨bq31, hbq31⟩ : ∃ b_ : Bool, b_ = (rdOf false x7_2 (rd t358 x36_2)) := ⟨_, rfl⟩
                   replace H : (if (bq31 = true) then (flow_reach.l1 k2 l0 a2 x7_2 x8_2 t358 (t358.length : Int) (wrap64 (x36_2 + 1))) else (if (rd t358 x36_2) = a2 then (flow_reach.l1 k2 l0 a2 x7_2 x8_2 t358 (t358.length : Int) (wrap64 (x36_2 + 1))) else (if x8_2.length < 17592186044416 then (flow_reach.l1 k2 l0 a2 (x7_2.set ((rd t358 x36_2) : Int).toNat true) (x8_2 ++ [rd t358 x36_2]) t358 (t358.length : Int) (wrap64 (x36_2 + 1))) else (none)))) = some r := by rw [← hbq31] at H; exact H
                   have Nbq31 := Aside0.mk hbq31
                   clear hbq31
                   by_cases c32 : (bq31 = true)
                   ·
                    subst c32
                    have H1 : (flow_reach.l1 k2 l0 a2 x7_2 x8_2 t358 (t358.length : Int) (wrap64 (x36_2 + 1))) = some r := by rw [if_pos rfl] at H; exact H
                    clear H
                    have H := H1
                    clear H1
                    have H' := Aside0.mk H
                    clear H
                    have p361 : 0 ≤ (x36_2 : Int) := of_decide_eq_true (by first | (with_reducible assumption) | assumption)
                    have q361 : x36_2 < (t358.length : Int) := of_decide_eq_true (by first | (with_reducible assumption) | assumption)
                    obtain ⟨ad361, e361, hx361_0⟩ := Kd.at_int (Kd.R_reads' HO_34.out).2.2 x36_2 p361 q361
                    cases e361
                    replace p361 := eq_true p361
                    replace q361 := eq_true q361
                    have p362 : 0 ≤ ((rd t358 x36_2) : Int) := of_decide_eq_true (by first | (with_reducible assumption) | assumption)
                    have q362 : (rd t358 x36_2) < (x7_2.length : Int) := of_decide_eq_true (by first | (with_reducible assumption) | assumption)
                    obtain ⟨ad362, e362, hx362_0⟩ := Kd.at_bool (Kd.R_reads' HO_7.out).2.2 (rd t358 x36_2) p362 q362
                    (try rw [← Nbq31.out] at hx362_0)
                    obtain rfl : (⟨go11, 0, none⟩ : Addr) = ad362 := (by injection e362)
                    (first | simp only [add_plain] at hx362_0 | simp only [add_at] at hx362_0 | simp only [Addr.add, Nat.zero_add] at hx362_0 | skip)
                    replace p362 := eq_true p362
                    replace q362 := eq_true q362
                    go_wp2
                    (try simp only [← hl7_2])
                    go_roundg k2
                    case measure => have := HK1.out; have := HK2.out; omega
                    case rel => exact ⟨(x7_2), (x8_2), (wrap64 (x36_2 + 1)), rs_, H', ⟨by have := HK1.out; have := HK2.out; omega⟩, ⟨by (try simp only [hl7_1]); (try simp only [hl7_2]); (with_reducible repeat (first | apply Kd.R_alloc | apply Kd.R_drewN | apply Kd.R_drew)); exact HO_7.out⟩, ⟨by (try simp only [hl7_1]); (try simp only [hl7_2]); (with_reducible repeat (first | apply Kd.Q_alloc | apply Kd.Q_drewN | apply Kd.Q_drew)); exact HO_8.out⟩, ⟨by (try simp only [hl7_1]); (try simp only [hl7_2]); (with_reducible repeat (first | apply Kd.R_alloc | apply Kd.R_drewN | apply Kd.R_drew)); exact HO_34.out⟩, ⟨bw_ HB⟩⟩
                   ·
                    replace c32 := Bool.eq_false_iff.mpr c32
                    subst c32
                    have H1 : (if (rd t358 x36_2) = a2 then (flow_reach.l1 k2 l0 a2 x7_2 x8_2 t358 (t358.length : Int) (wrap64 (x36_2 + 1))) else (if x8_2.length < 17592186044416 then (flow_reach.l1 k2 l0 a2 (x7_2.set ((rd t358 x36_2) : Int).toNat true) (x8_2 ++ [rd t358 x36_2]) t358 (t358.length : Int) (wrap64 (x36_2 + 1))) else (none))) = some r := by rw [if_neg (show ¬ (false = true) by decide)] at H; exact H
                    clear H
                    have H := H1
                    clear H1
                    by_cases c33 : (rd t358 x36_2) = a2
                    ·
                     rw [if_pos c33] at H
                     have c33b0 : ((rd t358 x36_2) == a2) = true := beq_iff_eq.mpr c33
                     have c33b1 : ((rd t358 x36_2) != a2) = false := bne_eq_false_iff_eq.mpr c33
                     clear c33
                     have H' := Aside0.mk H
                     clear H
                     have p361 : 0 ≤ (x36_2 : Int) := of_decide_eq_true (by first | (with_reducible assumption) | assumption)
                     have q361 : x36_2 < (t358.length : Int) := of_decide_eq_true (by first | (with_reducible assumption) | assumption)
                     obtain ⟨ad361, e361, hx361_0⟩ := Kd.at_int (Kd.R_reads' HO_34.out).2.2 x36_2 p361 q361
                     cases e361
                     replace p361 := eq_true p361
                     replace q361 := eq_true q361
                     have p362 : 0 ≤ ((rd t358 x36_2) : Int) := of_decide_eq_true (by first | (with_reducible assumption) | assumption)
                     have q362 : (rd t358 x36_2) < (x7_2.length : Int) := of_decide_eq_true (by first | (with_reducible assumption) | assumption)
                     obtain ⟨ad362, e362, hx362_0⟩ := Kd.at_bool (Kd.R_reads' HO_7.out).2.2 (rd t358 x36_2) p362 q362
                     (try rw [← Nbq31.out] at hx362_0)
                     obtain rfl : (⟨go11, 0, none⟩ : Addr) = ad362 := (by injection e362)
                     (first | simp only [add_plain] at hx362_0 | simp only [add_at] at hx362_0 | simp only [Addr.add, Nat.zero_add] at hx362_0 | skip)
                     replace p362 := eq_true p362
                     replace q362 := eq_true q362
                     go_wp2
                     (try simp only [← hl7_2])
                     go_roundg k2
                     case measure => have := HK1.out; have := HK2.out; omega
                     case rel => exact ⟨(x7_2), (x8_2), (wrap64 (x36_2 + 1)), rs_, H', ⟨by have := HK1.out; have := HK2.out; omega⟩, ⟨by (try simp only [hl7_1]); (try simp only [hl7_2]); (with_reducible repeat (first | apply Kd.R_alloc | apply Kd.R_drewN | apply Kd.R_drew)); exact HO_7.out⟩, ⟨by (try simp only [hl7_1]); (try simp only [hl7_2]); (with_reducible repeat (first | apply Kd.Q_alloc | apply Kd.Q_drewN | apply Kd.Q_drew)); exact HO_8.out⟩, ⟨by (try simp only [hl7_1]); (try simp only [hl7_2]); (with_reducible repeat (first | apply Kd.R_alloc | apply Kd.R_drewN | apply Kd.R_drew)); exact HO_34.out⟩, ⟨bw_ HB⟩⟩
                    ·
                     rw [if_neg c33] at H
                     have c33b0 : ((rd t358 x36_2) == a2) = false := beq_eq_false_iff_ne.mpr c33
                     have c33b1 : ((rd t358 x36_2) != a2) = true := bne_iff_ne.mpr c33
                     obtain ⟨y363, hy363⟩ : ∃ y_ : List Bool, y_ = (x7_2.set ((rd t358 x36_2) : Int).toNat true) := ⟨_, rfl⟩
                     replace H : (if x8_2.length < 17592186044416 then (flow_reach.l1 k2 l0 a2 y363 (x8_2 ++ [rd t358 x36_2]) t358 (t358.length : Int) (wrap64 (x36_2 + 1))) else (none)) = some r := by first | (rw [hy363]; with_reducible exact H) | (have H2_ := (Option.bind_some _ _).symm.trans H; rw [hy363]; with_reducible exact H2_) | (have H2_ := (Option.bind_some _ _).symm.trans H; with_reducible exact H2_) | with_reducible exact H | (rw [hy363]; exact H) | exact H
                     have Ny363 := Aside0.mk hy363
                     clear hy363
                     by_cases c35 : x8_2.length < 17592186044416
                     ·
                      rw [if_pos c35] at H
                      have LMc35 := Aside0.mk c35
                      clear c35
                      obtain ⟨y364, hy364⟩ : ∃ y_ : List Int, y_ = (x8_2 ++ [rd t358 x36_2]) := ⟨_, rfl⟩
                      replace H : (flow_reach.l1 k2 l0 a2 y363 y364 t358 (t358.length : Int) (wrap64 (x36_2 + 1))) = some r := by first | (rw [hy364]; with_reducible exact H) | (have H2_ := (Option.bind_some _ _).symm.trans H; rw [hy364]; with_reducible exact H2_) | (have H2_ := (Option.bind_some _ _).symm.trans H; with_reducible exact H2_) | with_reducible exact H | (rw [hy364]; exact H) | exact H
                      have Ny364 := Aside0.mk hy364
                      clear hy364
                      have H' := Aside0.mk H
                      clear H
                      have p361 : 0 ≤ (x36_2 : Int) := of_decide_eq_true (by first | (with_reducible assumption) | assumption)
                      have q361 : x36_2 < (t358.length : Int) := of_decide_eq_true (by first | (with_reducible assumption) | assumption)
                      obtain ⟨ad361, e361, hx361_0⟩ := Kd.at_int (Kd.R_reads' HO_34.out).2.2 x36_2 p361 q361
                      cases e361
                      replace p361 := eq_true p361
                      replace q361 := eq_true q361
                      have p362 : 0 ≤ ((rd t358 x36_2) : Int) := of_decide_eq_true (by first | (with_reducible assumption) | assumption)
                      have q362 : (rd t358 x36_2) < (x7_2.length : Int) := of_decide_eq_true (by first | (with_reducible assumption) | assumption)
                      obtain ⟨ad362, e362, hx362_0⟩ := Kd.at_bool (Kd.R_reads' HO_7.out).2.2 (rd t358 x36_2) p362 q362
                      (try rw [← Nbq31.out] at hx362_0)
                      obtain rfl : (⟨go11, 0, none⟩ : Addr) = ad362 := (by injection e362)
                      (first | simp only [add_plain] at hx362_0 | simp only [add_at] at hx362_0 | simp only [Addr.add, Nat.zero_add] at hx362_0 | skip)
                      replace p362 := eq_true p362
                      replace q362 := eq_true q362
                      have p34 : 0 ≤ ((rd t358 x36_2) : Int) := of_decide_eq_true (by first | (with_reducible assumption) | assumption)
                      have q34 : ((rd t358 x36_2) : Int) < ((x7_2.length : Int) : Int) := of_decide_eq_true (by first | (with_reducible assumption) | assumption)
                      obtain ⟨hx34_0, hf34_0⟩ := Kd.R_celln false HO_7.out ((rd t358 x36_2) : Int) p34 q34
                      replace p34 := eq_true p34
                      replace q34 := eq_true q34
                      have HP36 := Kd.R_putg HO_7.out ((rd t358 x36_2) : Int) true
                      go_wp2_with (first | ((with_reducible refine gate_store (t := 4) (p := 52) rfl ?_); refine store_event (t := 4) (p := 52) (v := ?vo_w37) (w1 := (wr.setCell ⟨go11, ((rd t358 x36_2) : Int).toNat, none⟩ (.bool true))) ?hg ?ho ?hn ?hr ?_; (case ho => rfl); (case hg => rfl); (case hn => rfl); (case hr => first | (go_simp; done) | (go_simp; rfl)); intro w37 hw; have hg : wr.grownBy w37 (some go11) := (by rw [hw]; exact HP36.2); have hp_ : Kd.R Kd.bool 4 w37 w.heap.size (fun _ => True) (.slice (some ⟨go11, 0, none⟩) x7_2.length co11) y363 := (by rw [hw, Ny363.out]; exact HP36.1); clear HP36; have n0_ := Aside0.mk (hp_); have n1_ := Aside0.mk (Kd.Q_over' (v := (.slice (some ⟨go11, 0, none⟩) x7_2.length co11)) (by (with_reducible repeat (first | apply Kd.Q_alloc | apply Kd.Q_drewN | apply Kd.Q_drew)); exact HO_8.out) (Kd.R_typed HO_7.out) (by decide) hg); have n2_ := Aside0.mk (Kd.R_over' (v := (.slice (some ⟨go11, 0, none⟩) x7_2.length co11)) (by (with_reducible repeat (first | apply Kd.R_alloc | apply Kd.R_drewN | apply Kd.R_drew)); exact HO_34.out) (Kd.R_typed HO_7.out) (by decide) hg); have n3_ := Aside0.mk ((by rw [hw]; exact below_set (HB.out) GB11.out : Below w.heap.size w w37)); clear HO_7; clear HO_8; clear HO_34; clear HB; have HO_7 := n0_; have HO_8 := n1_; have HO_34 := n2_; have HB := n3_; clear n0_ n1_ n2_ n3_; clear hg hw hp_) | ((with_reducible refine gate_builtin (b := .append) (xs := #[.tmp 53, .tmp 55]) rfl ?_); at_builtin; refine Kd.Q_append (Kd.int .i64) (w0 := w) w.heap.size rfl (.tmp 53) (.tmp 55) 22 3 (.int .i64 0) 8 rfl Try.underlying22 info3 rfl (by decide) (by omega) u8 x8_2 (rd t358 x36_2) [.int .i64 (rd t358 x36_2)] (fun k_ => some k_ ≠ (.slice (some ad361) t358.length co25 : Value).ownBlock) (fun _ => False) rfl rfl ?aP (fun _ hk => hk.elim) ?aF ?aO ?aB ?aS ?aL ?_; (case aP => exact rfl); (case aB => exact (bw_ HB)); (case aF => exact (fun k_ hk => Kd.fresh' (Kd.R_lt (by (with_reducible repeat (first | apply Kd.R_alloc | apply Kd.R_drewN | apply Kd.R_drew)); exact HO_34.out)) k_ hk)); (case aO => exact (by (with_reducible repeat (first | apply Kd.Q_alloc | apply Kd.Q_drewN | apply Kd.Q_drew)); exact HO_8.out)); (case aS => exact (below_size (bw_ HB))); (case aL => have := LMc35.out; omega); intro v365 w38 ho hb hg hat; rw [← Ny364.out] at ho; have n0_ := Aside0.mk (Kd.R_over' (by (with_reducible repeat (first | apply Kd.R_alloc | apply Kd.R_drewN | apply Kd.R_drew)); exact HO_7.out) (Kd.Q_typed (by (with_reducible repeat (first | apply Kd.Q_alloc | apply Kd.Q_drewN | apply Kd.Q_drew)); exact HO_8.out)) (by decide) hg); have n1_ := Aside0.mk (Kd.R_after (ok := (fun _ => True)) (by (with_reducible repeat (first | apply Kd.R_alloc | apply Kd.R_drewN | apply Kd.R_drew)); exact Kd.R_mono HO_34.out (fun _ hk => ⟨trivial, hk⟩)) hg hat); have n2_ := Aside0.mk (hb); have n3_ := Aside0.mk (ho); clear HO_7; clear HO_34; clear HB; clear HO_8; have HO_7 := n0_; have HO_34 := n1_; have HB := n2_; have HO366 := n3_; clear n0_ n1_ n2_ n3_; clear ho hb hg hat))
                      (try simp only [← hl7_2])
                      go_roundg k2
                      case measure => have := HK1.out; have := HK2.out; omega
                      case rel => exact ⟨(y363), (y364), (wrap64 (x36_2 + 1)), rs_, H', ⟨by have := HK1.out; have := HK2.out; omega⟩, ⟨by (try simp only [hl7_1]); (try simp only [hl7_2]); (with_reducible repeat (first | apply Kd.R_alloc | apply Kd.R_drewN | apply Kd.R_drew)); exact HO_7.out⟩, ⟨by (try simp only [hl7_1]); (try simp only [hl7_2]); (with_reducible repeat (first | apply Kd.Q_alloc | apply Kd.Q_drewN | apply Kd.Q_drew)); exact HO366.out⟩, ⟨by (try simp only [hl7_1]); (try simp only [hl7_2]); (with_reducible repeat (first | apply Kd.R_alloc | apply Kd.R_drewN | apply Kd.R_drew)); exact Kd.R_mono HO_34.out (fun _ hk => hk.2)⟩, ⟨bw_ HB⟩⟩
                     ·
                      rw [if_neg c35] at H
                      exact absurd H (by simp)
                  ·
                   rw [if_neg c30] at H
                   exact absurd H (by simp)
                 ·
                  rw [if_neg c29] at H
                  exact absurd H (by simp)
                ·
                 rw [if_neg c28] at H
                 exact absurd H (by simp)
               ·
                rw [if_neg c27] at H
                exact absurd H (by simp)
              ·
               rw [if_neg c26] at H
               have c26b0 : decide (x36_2 < (t358.length : Int)) = false := decide_eq_false c26
               clear c26
               by_cases c39 : 1 ≤ (x8_2.length : Int)
               ·
                rw [if_pos c39] at H
                have c39b0 := eq_true c39
                have c39b1 : decide (1 ≤ (x8_2.length : Int)) = true := decide_eq_true c39
                clear c39
                obtain ⟨y367, hy367⟩ : ∃ y_ : List Int, y_ = (x8_2.drop (1 : Int).toNat) := ⟨_, rfl⟩
                replace H : (flow_reach.l0 k2 l0 a2 x7_2 y367) = some r := by first | (rw [hy367]; with_reducible exact H) | (have H2_ := (Option.bind_some _ _).symm.trans H; rw [hy367]; with_reducible exact H2_) | (have H2_ := (Option.bind_some _ _).symm.trans H; with_reducible exact H2_) | with_reducible exact H | (rw [hy367]; exact H) | exact H
                have Ny367 := Aside0.mk hy367
                clear hy367
                have H' := Aside0.mk H
                clear H
                obtain ⟨Ao40, co40, eo40, _⟩ := Kd.Q_slice HO_8.out
                subst eo40
                have q41 : (1 : Int) ≤ ((x8_2.length : Int) : Int) := of_decide_eq_true (by first | (with_reducible assumption) | assumption)
                obtain ⟨i041, hi041, _, hsz41, _⟩ := info_parts info3
                have hcut41 := cut_from (P := Try.prog) 22 3 .i64 Try.underlying22 hi041 1 hsz41 Ao40 x8_2.length co40 1 (by omega) q41
                have hr41 := Kd.Q_drop (k := (1 : Int).toNat) HO_8.out (by omega)
                obtain ⟨A41, hA41⟩ : ∃ A1, A1 = (if co40 = (1 : Int).toNat then Ao40 else (Ao40 : Option Addr).map (·.add ((1 : Int).toNat * 1))) := ⟨_, rfl⟩
                obtain ⟨c41, hc41⟩ : ∃ c1, c1 = co40 - (1 : Int).toNat := ⟨_, rfl⟩
                have hy41 : y367.length = x8_2.length - (1 : Int).toNat := (by rw [Ny367.out, List.length_drop])
                rw [← Ny367.out] at hr41
                rw [← hy41, ← hA41, ← hc41] at hcut41
                replace hr41 : Kd.Q (Kd.int .i64) 3 wr w.heap.size (fun k_ => some k_ ≠ (.slice Ao25 t358.length co25 : Value).ownBlock) (.slice A41 y367.length c41) y367 := (by rw [hA41, hc41, hy41]; exact hr41)
                have HE41 : Aside0 ((Value.slice A41 y367.length c41).ownBlock = (.slice Ao40 x8_2.length co40 : Value).ownBlock) := ⟨by rw [hA41]; split <;> (cases (Ao40 : Option Addr) <;> rfl)⟩
                clear hy41 hi041 hsz41 HO_8 hA41 hc41
                have HO369 := Aside0.mk hr41
                clear hr41
                replace q41 := eq_true q41
                have n_ := Aside0.mk (Kd.R_mono (ok' := fun k_ => some k_ ≠ (.slice A41 y367.length c41 : Value).ownBlock) HO_34.out (fun k_ hk => (by rw [HE41.out]; exact hk)))
                clear HO_34
                have HO_34 := n_
                clear n_
                go_wp2
                (try simp only [← hl7_1, ← hl7_2])
                go_roundg k2
                case measure => have := HK1.out; have := HK2.out; omega
                case rel => exact ⟨(x7_2), (y367), H', ⟨by have := HK1.out; have := HK2.out; omega⟩, ⟨by (try simp only [hl7_1]); (try simp only [hl7_2]); (with_reducible repeat (first | apply Kd.R_alloc | apply Kd.R_drewN | apply Kd.R_drew)); exact HO_7.out⟩, ⟨by (try simp only [hl7_1]); (try simp only [hl7_2]); (with_reducible repeat (first | apply Kd.Q_alloc | apply Kd.Q_drewN | apply Kd.Q_drew)); exact Kd.Q_mono HO369.out (fun _ hk => trivial)⟩, ⟨bw_ HB⟩⟩
               ·
                rw [if_neg c39] at H
                exact absurd H (by simp)
           ·
            rw [if_neg c21] at H
            exact absurd H (by simp)
          ·
           rw [if_neg c20] at H
           exact absurd H (by simp)
         ·
          rw [if_neg c19] at H
          exact absurd H (by simp)
        ·
         rw [if_neg c18] at H
         have c18b0 : decide (0 < (x8_1.length : Int)) = false := decide_eq_false c18
         have c18b1 : decide (0 < x8_1.length) = false := decide_eq_false (by omega)
         clear c18
         obtain rfl := Option.some.inj H
         obtain ⟨Ao42, co42, eo42, _⟩ := Kd.Q_slice HO_8.out
         subst eo42
         go_wp2
         go_ret
         exact ⟨_, by first | rfl | (simp [errW_none, errW_some] <;> rfl) | (simp [*, errW_none, errW_some] <;> rfl), by (with_reducible repeat (first | apply Kd.R_alloc | apply Kd.R_drewN | apply Kd.R_drew)); exact HO_7.out, bw_ HB⟩
     ·
      rw [if_neg c10] at H
      exact absurd H (by simp)
    ·
     rw [if_neg c9] at H
     exact absurd H (by simp)
  ·
   rw [if_neg c5] at H
   exact absurd H (by simp)
 ·
  rw [if_neg c4] at H
  exact absurd H (by simp)

/-! ### flow_Reachable: function 27 -/
set_option maxRecDepth 100000 in
def flow_Reachable.f (k : Nat) (l0 : List (S62)) (a1 : Int) : Option (List Bool × Int × Int) := (flow_check.f k l0 a1).bind fun bt371 => (if (!(bt371.1 == 0) || (!(bt371.2 == 0))) = true then (some (([] : List Bool), bt371.1, bt371.2)) else ((flow_reach.f k l0 a1 (-1)).bind fun t374 => (some (t374, 0, 0))))
set_option maxRecDepth 100000 in
theorem flow_Reachable.mono : ∀ a0 a1 k, LeO (flow_Reachable.f k a0 a1) (flow_Reachable.f (k + 1) a0 a1) := by
 intro a0 a1 k
 unfold flow_Reachable.f
 repeat' first
   | (with_reducible exact flow_check.mono _ _ _)
   | (with_reducible exact flow_reach.mono _ _ _ _)
   | (with_reducible exact LeO.refl _)
   | (with_reducible exact LeO.none _)
   | (with_reducible refine LeO.ite ?_ ?_)
   | (with_reducible refine LeO.bind ?_ (fun _ => ?_))
   | exact flow_check.mono _ _ _
   | exact flow_reach.mono _ _ _ _
   | exact LeO.none _
   | refine LeO.ite ?_ ?_
   | refine LeO.bind ?_ (fun _ => ?_)
set_option maxHeartbeats 8000000 in
set_option maxRecDepth 100000 in
theorem flow_Reachable.calls (k : Nat) (A0 : Option Addr) (c0 : Nat) (l0 : List (S62)) (a1 : Int) (r1 : List Bool) (r2 : Int) (r3 : Int) (w : World) (hr0 : Kd.C k62 w A0 l0.length l0) (hc0 : l0.length ≤ c0) (h : flow_Reachable.f k l0 a1 = some (r1, r2, r3)) :
  Calls Try.prog 27 #[.slice A0 l0.length c0, .int .i64 a1] w fun e w' => ∃ v0_ : Value, e = .returned (.tuple #[v0_, .agg #[.int .i64 r2, .int .i64 r3]]) ∧ Kd.R Kd.bool 4 w' w.heap.size (fun _ => True) v0_ r1 ∧ Below w.heap.size w w' := by
 have hu28 := Try.underlying28
 have HR0 := Aside0.mk hr0
 have HC0 := Aside0.mk hc0
 clear hr0 hc0
 have HB := Aside0.mk (Below.refl w.heap.size w)
 have H : ((flow_check.f k l0 a1).bind fun bt371 => (if (!(bt371.1 == 0) || (!(bt371.2 == 0))) = true then (some (([] : List Bool), bt371.1, bt371.2)) else ((flow_reach.f k l0 a1 (-1)).bind fun t374 => (some (t374, 0, 0))))) = some (r1, r2, r3) := h
 clear h
 replace H := Option.bind_eq_some_iff.mp H
 obtain ⟨⟨t371, t372⟩, A30, H⟩ := H
 replace H : (if (!(t371 == 0) || (!(t372 == 0))) = true then (some (([] : List Bool), t371, t372)) else ((flow_reach.f k l0 a1 (-1)).bind fun t374 => (some (t374, 0, 0)))) = some (r1, r2, r3) := H
 have A3 := Aside0.mk A30
 clear A30
 by_cases c4 : (!(t371 == 0) || (!(t372 == 0))) = true
 ·
  rw [if_pos c4] at H
  have c4b0 : (!(t371 == 0) || (!(t372 == 0))) = true := c4
  clear c4
  simp only [Option.some.injEq, Prod.mk.injEq] at H
  obtain ⟨rfl, rfl, rfl⟩ := H
  go_enter Try.func27, Try.ntmps27
  try go_wp2_with (first | ((with_reducible refine gate_dst (N := 5) rfl ?_); refine bx_ (N := 5) (cs := #[.int .i64 0, .int .i64 0]) (t := 28) ?_; intro gb370 hg w5 hbox hb; have BK370 := Aside0.mk hbox; have GW370 := bs_ HB hg; have GE370 := bs_ HB hg; replace HB := hs_ HB hb; clear hb hbox hg) | ((with_reducible refine gate_callee (f := 42) rfl ?_); refine goesL_ (some 9) rfl rfl Try.func42 (by kernel_rfl) rfl #[.slice A0 l0.length c0, .int .i64 a1] rfl ar_ ?_; (with_reducible refine (flow_check.calls k _ _ l0 a1 t371 t372 _ ?side1 ?side2 A3.out).mono ?_); (case side1 => exact cb_ HR0 HB); (case side2 => exact HC0.out); rintro e w6 ⟨rfl, hb⟩; refine ⟨_, rfl, ?_⟩; replace BK370 := bb_ BK370 hb; replace HB := hs_ HB hb; (try clear hb); (try clear hb2); (try clear hk); (try clear hi)) | ((with_reducible refine gate_dst (N := 6) rfl ?_); refine bx_ (N := 6) (cs := #[.int .i64 0, .int .i64 0]) (t := 28) ?_; intro gb373 hg w7 hbox hb; have BK373 := Aside0.mk hbox; have GW373 := bs_ HB hg; have GE373 := bs_ HB hg; have NB370_373 := nl_ BK370 hg; have NB373_370 := ng_ BK370 hg; replace BK370 := bb_ BK370 hb; replace HB := hs_ HB hb; clear hb hbox hg; have hnb8 := NB373_370.out; have hnc8 := NB370_373.out; obtain ⟨hcz9_0, hcz9_1, hfz9_0, hfz9_1⟩ := cz2_ BK373))
  have n0_ : Aside0 (((w7.setCell ⟨gb373, 0, none⟩ (.int .i64 t371)).setCell ⟨gb373, 1, none⟩ (.int .i64 t372)).heap[gb370]? = some (.cells #[.int .i64 0, .int .i64 0] 28 (0, 0))) := ⟨bk_ BK370⟩
  have n1_ : Aside0 (((w7.setCell ⟨gb373, 0, none⟩ (.int .i64 t371)).setCell ⟨gb373, 1, none⟩ (.int .i64 t372)).heap[gb373]? = some (.cells #[.int .i64 t371, .int .i64 t372] 28 (0, 0))) := ⟨bk_ BK373⟩
  have n2_ : Aside0 (Below w.heap.size w ((w7.setCell ⟨gb373, 0, none⟩ (.int .i64 t371)).setCell ⟨gb373, 1, none⟩ (.int .i64 t372))) := ⟨bw_ HB⟩
  (try clear BK370)
  (try clear BK373)
  (try clear HB)
  generalize ((w7.setCell ⟨gb373, 0, none⟩ (.int .i64 t371)).setCell ⟨gb373, 1, none⟩ (.int .i64 t372)) = w10 at n0_ n1_ n2_ ⊢
  have BK370 := n0_
  have BK373 := n1_
  have HB := n2_
  clear n0_ n1_ n2_
  have n0_ := Aside0.mk (blk_drew BK370.out)
  have n1_ := Aside0.mk (blk_drew BK373.out)
  have n2_ := Aside0.mk (below_drew1 HB.out)
  clear BK370
  clear BK373
  clear HB
  have BK370 := n0_
  have BK373 := n1_
  have HB := n2_
  clear n0_ n1_ n2_
  refine start_ (n := 3) (S := fun w' => w'.cell? ⟨gb373, 0, none⟩ = some (.int .i64 t371) ∧ w'.cell? ⟨gb373, 1, none⟩ = some (.int .i64 t372)) (ds := []) #[false, false, false] (by kernel_rfl) rfl rfl ⟨(blk_cell BK373.out 0).trans rfl, (blk_cell BK373.out 1).trans rfl⟩ (fun hHeld => ?_)
  generalize w10.drew = w11 at BK370 BK373 HB hHeld ⊢
  refine pure_ (i := 1) (N := some 4) (v := ?_) (a' := ?_) #[false, true, false] rfl rfl (by kernel_rfl) (fun _ _ _ h => h) (Or.inl ⟨by rfl, ?_⟩) ?_ ?_
  rotate_left
  ·
   intro w'
   go_simp
   with_reducible rfl
  rotate_left
  ·
   simp only [Act.put, List.setIfInBounds_toArray, List.set_cons_zero, List.set_cons_succ, i64_w, i32_w]
   rfl
  refine take_ (i := 0) (N := some 13) (v := ?_) (a' := ?_) #[true, true, false] rfl rfl (by kernel_rfl) (fun _ _ _ h => h) (Or.inl ⟨by rfl, ?_⟩) hHeld ?_ ?_
  rotate_left
  ·
   rintro w' ⟨s0, s1⟩
   go_simp
   with_reducible rfl
  rotate_left
  ·
   simp only [Act.put, List.setIfInBounds_toArray, List.set_cons_zero, List.set_cons_succ, i64_w, i32_w]
   rfl
  refine one_ (i := 2) (N := none) #[true, true, true] rfl rfl (by kernel_rfl) (by decide) (fun K hK => ?_)
  have hs12 : w11.cell? ⟨gb370, 0, none⟩ = some (.int .i64 0) := (blk_cell BK370.out 0).trans rfl
  have hfs12 := blk_frozen BK370.out 0
  have hns12_1 := NB373_370.out
  have hms12_1 := NB370_373.out
  have hs13 : w11.cell? ⟨gb370, 1, none⟩ = some (.int .i64 0) := (blk_cell BK370.out 1).trans rfl
  have hfs13 := blk_frozen BK370.out 1
  have hns13_1 := NB373_370.out
  have hms13_1 := NB370_373.out
  refine skip_ (w1 := ?_) (by rfl) rfl ?_ ?_
  rotate_left
  ·
   go_simp
   rfl
  refine hK.out _ _ ⟨((cell_far (p := ⟨gb370, _, none⟩) NB373_370.out _).trans (((cell_far (p := ⟨gb370, _, none⟩) NB373_370.out _).trans (hHeld.1)))), ((cell_far (p := ⟨gb370, _, none⟩) NB373_370.out _).trans (((cell_far (p := ⟨gb370, _, none⟩) NB373_370.out _).trans (hHeld.2))))⟩ (fun hHeld => ?_)
  clear hK K
  refine done_ (by kernel_rfl) ?_
  try go_wp2
  refine bodyPost_ret (results_tc rfl _ _ gb370 28 #[.int .i64 t371, .int .i64 t372] (0, 0) _ rfl (bk_ BK370) Try.underlying28 rfl (by kernel_rfl)) rfl ?_
  exact ⟨_, by first | rfl | (simp [errW_none, errW_some] <;> rfl) | (simp [*, errW_none, errW_some] <;> rfl), by first | exact Kd.R_nil _ _ _ _ _ | exact Kd.N_nil _ _ _ _ _ | exact Kd.V_nil _ _ _ _ _ | exact Kd.Q_nil _ _ _ _ _ | exact Kd.S_nil _ _ _ _ _, bw_ HB⟩
 ·
  rw [if_neg c4] at H
  have c4b0 : (!(t371 == 0) || (!(t372 == 0))) = false := by simpa using c4
  clear c4
  replace H := Option.bind_eq_some_iff.mp H
  obtain ⟨t374, A140, H⟩ := H
  replace H : (some (t374, 0, 0)) = some (r1, r2, r3) := H
  have A14 := Aside0.mk A140
  clear A140
  simp only [Option.some.injEq, Prod.mk.injEq] at H
  obtain ⟨rfl, rfl, rfl⟩ := H
  go_enter Try.func27, Try.ntmps27
  go_wp2_with (first | ((with_reducible refine gate_dst (N := 5) rfl ?_); refine bx_ (N := 5) (cs := #[.int .i64 0, .int .i64 0]) (t := 28) ?_; intro gb370 hg w15 hbox hb; have BK370 := Aside0.mk hbox; have GW370 := bs_ HB hg; have GE370 := bs_ HB hg; replace HB := hs_ HB hb; clear hb hbox hg) | ((with_reducible refine gate_callee (f := 42) rfl ?_); refine goesL_ (some 9) rfl rfl Try.func42 (by kernel_rfl) rfl #[.slice A0 l0.length c0, .int .i64 a1] rfl ar_ ?_; (with_reducible refine (flow_check.calls k _ _ l0 a1 t371 t372 _ ?side1 ?side2 A3.out).mono ?_); (case side1 => exact cb_ HR0 HB); (case side2 => exact HC0.out); rintro e w16 ⟨rfl, hb⟩; refine ⟨_, rfl, ?_⟩; replace BK370 := bb_ BK370 hb; replace HB := hs_ HB hb; (try clear hb); (try clear hb2); (try clear hk); (try clear hi)) | ((with_reducible refine gate_dst (N := 6) rfl ?_); refine bx_ (N := 6) (cs := #[.int .i64 0, .int .i64 0]) (t := 28) ?_; intro gb373 hg w17 hbox hb; have BK373 := Aside0.mk hbox; have GW373 := bs_ HB hg; have GE373 := bs_ HB hg; have NB370_373 := nl_ BK370 hg; have NB373_370 := ng_ BK370 hg; replace BK370 := bb_ BK370 hb; replace HB := hs_ HB hb; clear hb hbox hg; have hnb18 := NB373_370.out; have hnc18 := NB370_373.out; obtain ⟨hcz19_0, hcz19_1, hfz19_0, hfz19_1⟩ := cz2_ BK373) | ((with_reducible refine gate_callee (f := 50) rfl ?_); refine goesL_ (some 16) rfl rfl Try.func50 (by kernel_rfl) rfl #[.slice A0 l0.length c0, .int .i64 a1, .int .i64 (-1)] rfl ar_ ?_; (with_reducible refine (flow_reach.calls k _ _ l0 a1 (-1) t374 _ ?side1 ?side2 A14.out).mono ?_); (case side1 => exact cb_ HR0 HB); (case side2 => exact HC0.out); rintro e w20 ⟨v375, rfl, ho0, hb⟩; refine ⟨_, rfl, ?_⟩; have n0_ := Aside0.mk (Kd.R_lower ho0 (below_size (bw_ HB))); have n1_ := Aside0.mk (blk_below (g := gb370) (o := .cells #[.int .i64 0, .int .i64 0] 28 (0, 0)) (bk_ BK370) hb); have n2_ := Aside0.mk (blk_below (g := gb373) (o := .cells #[.int .i64 t371, .int .i64 t372] 28 (0, 0)) (bk_ BK373) hb); have n3_ := Aside0.mk (below_step (bw_ HB) hb); clear BK370; clear BK373; clear HB; have HO376 := n0_; have BK370 := n1_; have BK373 := n2_; have HB := n3_; clear n0_ n1_ n2_ n3_; (try clear hb); (try clear hb2); (try clear hk); (try clear hi); (try clear ho0); obtain ⟨hcz21_0, hcz21_1, hfz21_0, hfz21_1⟩ := cz2_ BK370))
  refine bodyPost_ret (results_tc rfl _ _ gb370 28 #[.int .i64 0, .int .i64 0] (0, 0) _ rfl (bk_ BK370) Try.underlying28 rfl (by kernel_rfl)) rfl ?_
  exact ⟨_, by first | rfl | (simp [errW_none, errW_some] <;> rfl) | (simp [*, errW_none, errW_some] <;> rfl), by (with_reducible repeat (first | apply Kd.R_alloc | apply Kd.R_drewN | apply Kd.R_drew)); exact Kd.R_mono (Kd.R_far (p := ⟨gb370, 1, none⟩) (Kd.R_far (p := ⟨gb370, 0, none⟩) (Kd.R_types HO376.out BK370.out (by decide)) (fun _ hk => hk.2) (.int .i64 0)) (fun _ hk => hk.2) (.int .i64 0)) (fun _ hk => trivial), bw_ HB⟩

/-! ### linkhouseref7_SameBools: function 30 -/
set_option maxRecDepth 100000 in
def linkhouseref7_SameBools.l0 : Nat → List Bool → List Bool → Int → Option (Bool)
 | 0, _, _, _ => none
 | k + 1, x0, x1, x5 => if x5 < (x0.length : Int) then (if 0 ≤ x5 then (if x5 < (x1.length : Int) then (if ((rdOf false x0 x5) != (rdOf false x1 x5)) = true then (some false) else (linkhouseref7_SameBools.l0 k x0 x1 (wrap64 (x5 + 1)))) else (none)) else (none)) else (some true)
set_option maxRecDepth 100000 in
def linkhouseref7_SameBools.f (k : Nat) (l0 : List Bool) (l1 : List Bool) : Option (Bool) := if (l0.length : Int) = (l1.length : Int) then (linkhouseref7_SameBools.l0 k l0 l1 0) else (some false)
set_option maxRecDepth 100000 in
theorem linkhouseref7_SameBools.mono_l : ∀ k, (∀ y0 y1 y2, LeO (linkhouseref7_SameBools.l0 k y0 y1 y2) (linkhouseref7_SameBools.l0 (k + 1) y0 y1 y2))
 | 0 => fun _ _ _ r h => by simp [linkhouseref7_SameBools.l0] at h
 | k + 1 => by
  have ih0 := linkhouseref7_SameBools.mono_l k
  ·
   intro y0 y1 y2
   unfold linkhouseref7_SameBools.l0
   repeat' first
   | (with_reducible exact ih0 _ _ _)
   | (with_reducible exact LeO.refl _)
   | (with_reducible exact LeO.none _)
   | (with_reducible refine LeO.ite ?_ ?_)
   | (with_reducible refine LeO.bind ?_ (fun _ => ?_))
   | exact ih0 _ _ _
   | exact LeO.none _
   | refine LeO.ite ?_ ?_
   | refine LeO.bind ?_ (fun _ => ?_)
set_option maxRecDepth 100000 in
theorem linkhouseref7_SameBools.mono : ∀ a0 a1 k, LeO (linkhouseref7_SameBools.f k a0 a1) (linkhouseref7_SameBools.f (k + 1) a0 a1) := by
 intro a0 a1 k
 have ih0 := linkhouseref7_SameBools.mono_l k
 unfold linkhouseref7_SameBools.f
 repeat' first
   | (with_reducible exact ih0 _ _ _)
   | (with_reducible exact LeO.refl _)
   | (with_reducible exact LeO.none _)
   | (with_reducible refine LeO.ite ?_ ?_)
   | (with_reducible refine LeO.bind ?_ (fun _ => ?_))
   | exact ih0 _ _ _
   | exact LeO.none _
   | refine LeO.ite ?_ ?_
   | refine LeO.bind ?_ (fun _ => ?_)
set_option maxHeartbeats 8000000 in
set_option maxRecDepth 100000 in
theorem linkhouseref7_SameBools.calls (k : Nat) (A0 : Option Addr) (c0 : Nat) (l0 : List Bool) (A1 : Option Addr) (c1 : Nat) (l1 : List Bool) (r : Bool) (w : World) (hr0 : Kd.C Kd.bool w A0 l0.length l0) (hc0 : l0.length ≤ c0) (hr1 : Kd.C Kd.bool w A1 l1.length l1) (hc1 : l1.length ≤ c1) (h : linkhouseref7_SameBools.f k l0 l1 = some r) :
  Calls Try.prog 30 #[.slice A0 l0.length c0, .slice A1 l1.length c1] w fun e w' => e = .returned (.bool r) ∧ Drawn0 w w' := by
 have HR0 := Aside0.mk hr0
 have HC0 := Aside0.mk hc0
 clear hr0 hc0
 have HR1 := Aside0.mk hr1
 have HC1 := Aside0.mk hc1
 clear hr1 hc1
 have H : (if (l0.length : Int) = (l1.length : Int) then (linkhouseref7_SameBools.l0 k l0 l1 0) else (some false)) = some r := h
 clear h
 by_cases c3 : (l0.length : Int) = (l1.length : Int)
 ·
  rw [if_pos c3] at H
  have c3b0 : ((l0.length : Int) == (l1.length : Int)) = true := beq_iff_eq.mpr c3
  have c3b1 : ((l0.length : Int) != (l1.length : Int)) = false := bne_eq_false_iff_eq.mpr c3
  have c3b2 : (l0.length == l1.length) = true := by first | simpa using c3 | (simp at c3 ⊢; omega)
  clear c3
  have H' := Aside0.mk H
  clear H
  go_enter Try.func30, Try.ntmps30
  go_wp2
  repeat (go_quiet (fail); try go_wp2)
  go_loopg [5] k (fun kq v5 w' => ∃ (x5_1 : Int), v5 = .int .i64 x5_1 ∧ Aside0 (linkhouseref7_SameBools.l0 kq l0 l1 x5_1 = some r) ∧ Aside0 (kq ≤ k) ∧ Drawn0 w w')
  case atStart => exact ⟨(0), rs_, H', ⟨Nat.le_refl _⟩, by repeat (first | exact Drawn0.refl _ | apply Drawn0.step)⟩
  case round =>
   clear H'
   (try clear c1); (try clear p2); (try clear c3); (try clear c3b0); (try clear c3b1); (try clear c3b2)
   obtain ⟨x5_1, rfl, HA, HK1, ⟨m1, rfl⟩⟩ := hrel
   cases gk with
   | zero => exact absurd HA.out (by simp [linkhouseref7_SameBools.l0])
   | succ k1 =>
    have H := HA.out
    clear HA
    simp only [linkhouseref7_SameBools.l0] at H
    by_cases c4 : x5_1 < (l0.length : Int)
    ·
     rw [if_pos c4] at H
     have c4b0 : decide (x5_1 < (l0.length : Int)) = true := decide_eq_true c4
     clear c4
     by_cases c5 : 0 ≤ x5_1
     ·
      rw [if_pos c5] at H
      have c5b0 : decide (0 ≤ x5_1) = true := decide_eq_true c5
      clear c5
      by_cases c6 : x5_1 < (l1.length : Int)
      ·
       rw [if_pos c6] at H
       have c6b0 : decide (x5_1 < (l1.length : Int)) = true := decide_eq_true c6
       clear c6
       by_cases c7 : ((rdOf false l0 x5_1) != (rdOf false l1 x5_1)) = true
       ·
        rw [if_pos c7] at H
        have c7b0 : ((rdOf false l0 x5_1) != (rdOf false l1 x5_1)) = true := c7
        (try (have c7b1 : decide ((rdOf false l0 x5_1) = (rdOf false l1 x5_1)) = false := by simpa using c7))
        (try (have c7b2 : ((rdOf false l0 x5_1) == (rdOf false l1 x5_1)) = false := by simpa using c7))
        (try (have c7b3 : ¬ ((rdOf false l0 x5_1) = (rdOf false l1 x5_1)) := by simpa using c7))
        clear c7
        obtain rfl := Option.some.inj H
        have p377 : 0 ≤ (x5_1 : Int) := of_decide_eq_true (by first | (with_reducible assumption) | assumption)
        have q377 : x5_1 < (l0.length : Int) := of_decide_eq_true (by first | (with_reducible assumption) | assumption)
        obtain ⟨ad377, e377, hx377_0⟩ := Kd.at_bool HR0.out x5_1 p377 q377
        cases e377
        replace p377 := eq_true p377
        replace q377 := eq_true q377
        have p378 : 0 ≤ (x5_1 : Int) := of_decide_eq_true (by first | (with_reducible assumption) | assumption)
        have q378 : x5_1 < (l1.length : Int) := of_decide_eq_true (by first | (with_reducible assumption) | assumption)
        obtain ⟨ad378, e378, hx378_0⟩ := Kd.at_bool HR1.out x5_1 p378 q378
        cases e378
        replace p378 := eq_true p378
        replace q378 := eq_true q378
        go_wp2
        repeat (go_quiet (fail); try go_wp2)
        go_ret
        exact ⟨by first | rfl | (simp; done) | (simp [*]; done), by repeat (first | exact Drawn0.refl _ | apply Drawn0.step)⟩
       ·
        rw [if_neg c7] at H
        have c7b0 : ((rdOf false l0 x5_1) != (rdOf false l1 x5_1)) = false := by simpa using c7
        (try (have c7b1 : decide ((rdOf false l0 x5_1) = (rdOf false l1 x5_1)) = true := by simpa using c7))
        (try (have c7b2 : ((rdOf false l0 x5_1) == (rdOf false l1 x5_1)) = true := by simpa using c7))
        clear c7
        have H' := Aside0.mk H
        clear H
        have p377 : 0 ≤ (x5_1 : Int) := of_decide_eq_true (by first | (with_reducible assumption) | assumption)
        have q377 : x5_1 < (l0.length : Int) := of_decide_eq_true (by first | (with_reducible assumption) | assumption)
        obtain ⟨ad377, e377, hx377_0⟩ := Kd.at_bool HR0.out x5_1 p377 q377
        cases e377
        replace p377 := eq_true p377
        replace q377 := eq_true q377
        have p378 : 0 ≤ (x5_1 : Int) := of_decide_eq_true (by first | (with_reducible assumption) | assumption)
        have q378 : x5_1 < (l1.length : Int) := of_decide_eq_true (by first | (with_reducible assumption) | assumption)
        obtain ⟨ad378, e378, hx378_0⟩ := Kd.at_bool HR1.out x5_1 p378 q378
        cases e378
        replace p378 := eq_true p378
        replace q378 := eq_true q378
        go_wp2
        repeat (go_quiet (fail); try go_wp2)
        go_roundg k1
        case measure => have := HK1.out; omega
        case rel => exact ⟨(wrap64 (x5_1 + 1)), rs_, H', ⟨by have := HK1.out; omega⟩, by repeat (first | exact Drawn0.refl _ | apply Drawn0.step)⟩
      ·
       rw [if_neg c6] at H
       exact absurd H (by simp)
     ·
      rw [if_neg c5] at H
      exact absurd H (by simp)
    ·
     rw [if_neg c4] at H
     have c4b0 : decide (x5_1 < (l0.length : Int)) = false := decide_eq_false c4
     clear c4
     obtain rfl := Option.some.inj H
     go_wp2
     repeat (go_quiet (fail); try go_wp2)
     go_ret
     exact ⟨by first | rfl | (simp; done) | (simp [*]; done), by repeat (first | exact Drawn0.refl _ | apply Drawn0.step)⟩
 ·
  rw [if_neg c3] at H
  have c3b0 : ((l0.length : Int) == (l1.length : Int)) = false := beq_eq_false_iff_ne.mpr c3
  have c3b1 : ((l0.length : Int) != (l1.length : Int)) = true := bne_iff_ne.mpr c3
  have c3b2 : (l0.length == l1.length) = false := by first | simpa using c3 | (simp at c3 ⊢; omega)
  obtain rfl := Option.some.inj H
  go_enter Try.func30, Try.ntmps30
  go_wp2
  repeat (go_quiet (fail); try go_wp2)
  go_ret
  exact ⟨by first | rfl | (simp; done) | (simp [*]; done), by repeat (first | exact Drawn0.refl _ | apply Drawn0.step)⟩

/-! ### linkhouselaw7_FlowMatchesSpec: function 7 -/
set_option maxRecDepth 100000 in
def linkhouselaw7_FlowMatchesSpec.f (k : Nat) (l0 : List (S62)) (a1 : Int) : Option (Bool) := (flow_Reachable.f k l0 a1).bind fun bt379 => ((flow_Validate.f k l0).bind fun bt385 => ((linkhouseref7_GraphFault.f k l0).bind fun bt387 => (if (!(bt385.1 == bt387.1) || (!(bt385.2 == bt387.2))) = true then (some false) else ((linkhouselaw7_fromFault.f k l0 a1).bind fun bt389 => (if bt389.1 = 0 then (if bt379.2.1 = 0 then ((linkhouseref7_Reached.f k l0 a1 (-1)).bind fun t392 => ((linkhouseref7_SameBools.f k bt379.1 t392).bind fun t395 => (if t395 = true then ((linkhouselaw7_crossed.f k).bind fun t396 => (some t396)) else (some false)))) else (some false)) else (if (bt379.2.1 == bt389.1 && (bt379.2.2 == bt389.2)) = true then (if (bt379.1.length : Int) = 0 then ((linkhouselaw7_crossed.f k).bind fun t397 => (some t397)) else (some false)) else (some false)))))))
set_option maxRecDepth 100000 in
theorem linkhouselaw7_FlowMatchesSpec.mono : ∀ a0 a1 k, LeO (linkhouselaw7_FlowMatchesSpec.f k a0 a1) (linkhouselaw7_FlowMatchesSpec.f (k + 1) a0 a1) := by
 intro a0 a1 k
 unfold linkhouselaw7_FlowMatchesSpec.f
 repeat' first
   | (with_reducible exact flow_Reachable.mono _ _ _)
   | (with_reducible exact flow_Validate.mono _ _)
   | (with_reducible exact linkhouselaw7_crossed.mono _)
   | (with_reducible exact linkhouselaw7_fromFault.mono _ _ _)
   | (with_reducible exact linkhouseref7_GraphFault.mono _ _)
   | (with_reducible exact linkhouseref7_Reached.mono _ _ _ _)
   | (with_reducible exact linkhouseref7_SameBools.mono _ _ _)
   | (with_reducible exact LeO.refl _)
   | (with_reducible exact LeO.none _)
   | (with_reducible refine LeO.ite ?_ ?_)
   | (with_reducible refine LeO.bind ?_ (fun _ => ?_))
   | exact flow_Reachable.mono _ _ _
   | exact flow_Validate.mono _ _
   | exact linkhouselaw7_crossed.mono _
   | exact linkhouselaw7_fromFault.mono _ _ _
   | exact linkhouseref7_GraphFault.mono _ _
   | exact linkhouseref7_Reached.mono _ _ _ _
   | exact linkhouseref7_SameBools.mono _ _ _
   | exact LeO.none _
   | refine LeO.ite ?_ ?_
   | refine LeO.bind ?_ (fun _ => ?_)
set_option maxHeartbeats 8000000 in
set_option maxRecDepth 100000 in
theorem linkhouselaw7_FlowMatchesSpec.calls (k : Nat) (A0 : Option Addr) (c0 : Nat) (l0 : List (S62)) (a1 : Int) (r : Bool) (w : World) (hr0 : Kd.C k62 w A0 l0.length l0) (hc0 : l0.length ≤ c0) (h : linkhouselaw7_FlowMatchesSpec.f k l0 a1 = some r) :
  Calls Try.prog 7 #[.slice A0 l0.length c0, .int .i64 a1] w fun e w' => e = .returned (.bool r) ∧ Below w.heap.size w w' := by
 have hu28 := Try.underlying28
 have HR0 := Aside0.mk hr0
 have HC0 := Aside0.mk hc0
 clear hr0 hc0
 have HB := Aside0.mk (Below.refl w.heap.size w)
 have H : ((flow_Reachable.f k l0 a1).bind fun bt379 => ((flow_Validate.f k l0).bind fun bt385 => ((linkhouseref7_GraphFault.f k l0).bind fun bt387 => (if (!(bt385.1 == bt387.1) || (!(bt385.2 == bt387.2))) = true then (some false) else ((linkhouselaw7_fromFault.f k l0 a1).bind fun bt389 => (if bt389.1 = 0 then (if bt379.2.1 = 0 then ((linkhouseref7_Reached.f k l0 a1 (-1)).bind fun t392 => ((linkhouseref7_SameBools.f k bt379.1 t392).bind fun t395 => (if t395 = true then ((linkhouselaw7_crossed.f k).bind fun t396 => (some t396)) else (some false)))) else (some false)) else (if (bt379.2.1 == bt389.1 && (bt379.2.2 == bt389.2)) = true then (if (bt379.1.length : Int) = 0 then ((linkhouselaw7_crossed.f k).bind fun t397 => (some t397)) else (some false)) else (some false)))))))) = some r := h
 clear h
 replace H := Option.bind_eq_some_iff.mp H
 obtain ⟨⟨t379, t382, t383⟩, A30, H⟩ := H
 replace H : ((flow_Validate.f k l0).bind fun bt385 => ((linkhouseref7_GraphFault.f k l0).bind fun bt387 => (if (!(bt385.1 == bt387.1) || (!(bt385.2 == bt387.2))) = true then (some false) else ((linkhouselaw7_fromFault.f k l0 a1).bind fun bt389 => (if bt389.1 = 0 then (if t382 = 0 then ((linkhouseref7_Reached.f k l0 a1 (-1)).bind fun t392 => ((linkhouseref7_SameBools.f k t379 t392).bind fun t395 => (if t395 = true then ((linkhouselaw7_crossed.f k).bind fun t396 => (some t396)) else (some false)))) else (some false)) else (if (t382 == bt389.1 && (t383 == bt389.2)) = true then (if (t379.length : Int) = 0 then ((linkhouselaw7_crossed.f k).bind fun t397 => (some t397)) else (some false)) else (some false))))))) = some r := H
 have A3 := Aside0.mk A30
 clear A30
 replace H := Option.bind_eq_some_iff.mp H
 obtain ⟨⟨t385, t386⟩, A40, H⟩ := H
 replace H : ((linkhouseref7_GraphFault.f k l0).bind fun bt387 => (if (!(t385 == bt387.1) || (!(t386 == bt387.2))) = true then (some false) else ((linkhouselaw7_fromFault.f k l0 a1).bind fun bt389 => (if bt389.1 = 0 then (if t382 = 0 then ((linkhouseref7_Reached.f k l0 a1 (-1)).bind fun t392 => ((linkhouseref7_SameBools.f k t379 t392).bind fun t395 => (if t395 = true then ((linkhouselaw7_crossed.f k).bind fun t396 => (some t396)) else (some false)))) else (some false)) else (if (t382 == bt389.1 && (t383 == bt389.2)) = true then (if (t379.length : Int) = 0 then ((linkhouselaw7_crossed.f k).bind fun t397 => (some t397)) else (some false)) else (some false)))))) = some r := H
 have A4 := Aside0.mk A40
 clear A40
 replace H := Option.bind_eq_some_iff.mp H
 obtain ⟨⟨t387, t388⟩, A50, H⟩ := H
 replace H : (if (!(t385 == t387) || (!(t386 == t388))) = true then (some false) else ((linkhouselaw7_fromFault.f k l0 a1).bind fun bt389 => (if bt389.1 = 0 then (if t382 = 0 then ((linkhouseref7_Reached.f k l0 a1 (-1)).bind fun t392 => ((linkhouseref7_SameBools.f k t379 t392).bind fun t395 => (if t395 = true then ((linkhouselaw7_crossed.f k).bind fun t396 => (some t396)) else (some false)))) else (some false)) else (if (t382 == bt389.1 && (t383 == bt389.2)) = true then (if (t379.length : Int) = 0 then ((linkhouselaw7_crossed.f k).bind fun t397 => (some t397)) else (some false)) else (some false))))) = some r := H
 have A5 := Aside0.mk A50
 clear A50
 by_cases c6 : (!(t385 == t387) || (!(t386 == t388))) = true
 ·
  rw [if_pos c6] at H
  have c6b0 : (!(t385 == t387) || (!(t386 == t388))) = true := c6
  clear c6
  obtain rfl := Option.some.inj H
  go_enter Try.func7, Try.ntmps7
  go_wp2_with (first | ((with_reducible refine gate_callee (f := 27) rfl ?_); refine goesL_ (some 11) rfl rfl Try.func27 (by kernel_rfl) rfl #[.slice A0 l0.length c0, .int .i64 a1] rfl ar_ ?_; (with_reducible refine (flow_Reachable.calls k _ _ l0 a1 t379 t382 t383 _ ?side1 ?side2 A3.out).mono ?_); (case side1 => repeat (first | exact HR0.out | (with_reducible refine Kd.C_alloc ?_ _) | (with_reducible refine Kd.C_drewN ?_ _) | (with_reducible refine Kd.C_drew ?_))); (case side2 => exact HC0.out); rintro e w7 ⟨v380, rfl, ho0, hb⟩; refine ⟨_, rfl, ?_⟩; have n0_ := Aside0.mk (Kd.R_lower ho0 (below_size (bw_ HB))); have n1_ := Aside0.mk (below_step (bw_ HB) hb); clear HB; have HO381 := n0_; have HB := n1_; clear n0_ n1_; (try clear hb); (try clear hb2); (try clear hk); (try clear hi); (try clear ho0)) | ((with_reducible refine gate_dst (N := 6) rfl ?_); (try (refine gate_guard (by rfl) ?_; dsimp only)); refine bx_ (N := 6) (cs := #[.int .i64 0, .int .i64 0]) (t := 28) ?_; intro gb384 hg w8 hbox hb; have n0_ := Aside0.mk (Kd.R_below (by (with_reducible repeat (first | apply Kd.R_alloc | apply Kd.R_drewN | apply Kd.R_drew)); exact HO381.out) hb); have n1_ := Aside0.mk (below_step (bw_ HB) hb); have n2_ := Aside0.mk (hbox); have n3_ := Aside0.mk ((by rw [hg]; exact (below_size (bw_ HB)) : w.heap.size ≤ gb384)); have n4_ := Aside0.mk ((by rw [hg]; exact (below_size (bw_ HB)) : w.heap.size ≤ gb384)); clear HO381; clear HB; have HO381 := n0_; have HB := n1_; have BK384 := n2_; have GW384 := n3_; have GE384 := n4_; clear n0_ n1_ n2_ n3_ n4_; clear hb hbox hg; obtain ⟨hcz9_0, hcz9_1, hfz9_0, hfz9_1⟩ := cz2_ BK384) | ((with_reducible refine gate_callee (f := 28) rfl ?_); refine goesL_ (some 15) rfl rfl Try.func28 (by kernel_rfl) rfl #[.slice A0 l0.length c0] rfl ar_ ?_; (with_reducible refine (flow_Validate.calls k _ _ l0 t385 t386 _ ?side1 ?side2 A4.out).mono ?_); (case side1 => exact cb_ HR0 HB); (case side2 => exact HC0.out); rintro e w10 ⟨rfl, hb⟩; refine ⟨_, rfl, ?_⟩; have n0_ := Aside0.mk (Kd.R_below (by (with_reducible repeat (first | apply Kd.R_alloc | apply Kd.R_drewN | apply Kd.R_drew)); exact (Kd.R_mono (Kd.R_far (p := ⟨gb384, 1, none⟩) (Kd.R_far (p := ⟨gb384, 0, none⟩) (Kd.R_types HO381.out BK384.out (by decide)) (fun _ hk => hk.2) (.int .i64 t382)) (fun _ hk => hk.2) (.int .i64 t383)) (fun _ h_ => h_.1))) hb); have n1_ := Aside0.mk (blk_below (g := gb384) (o := .cells #[.int .i64 t382, .int .i64 t383] 28 (0, 0)) (bk_ BK384) hb); have n2_ := Aside0.mk (below_step (bw_ HB) hb); clear HO381; clear BK384; clear HB; have HO381 := n0_; have BK384 := n1_; have HB := n2_; clear n0_ n1_ n2_; (try clear hb); (try clear hb2); (try clear hk); (try clear hi)) | ((with_reducible refine gate_callee (f := 29) rfl ?_); refine goesL_ (some 17) rfl rfl Try.func29 (by kernel_rfl) rfl #[.slice A0 l0.length c0] rfl ar_ ?_; (with_reducible refine (linkhouseref7_GraphFault.calls k _ _ l0 t387 t388 _ ?side1 ?side2 A5.out).mono ?_); (case side1 => exact cb_ HR0 HB); (case side2 => exact HC0.out); rintro e w11 ⟨rfl, hb⟩; refine ⟨_, rfl, ?_⟩; have n0_ := Aside0.mk (Kd.R_below (by (with_reducible repeat (first | apply Kd.R_alloc | apply Kd.R_drewN | apply Kd.R_drew)); exact HO381.out) hb); have n1_ := Aside0.mk (blk_below (g := gb384) (o := .cells #[.int .i64 t382, .int .i64 t383] 28 (0, 0)) (bk_ BK384) hb); have n2_ := Aside0.mk (below_step (bw_ HB) hb); clear HO381; clear BK384; clear HB; have HO381 := n0_; have BK384 := n1_; have HB := n2_; clear n0_ n1_ n2_; (try clear hb); (try clear hb2); (try clear hk); (try clear hi)))
  go_ret
  exact ⟨id_, bw_ HB⟩
 ·
  rw [if_neg c6] at H
  have c6b0 : (!(t385 == t387) || (!(t386 == t388))) = false := by simpa using c6
  clear c6
  replace H := Option.bind_eq_some_iff.mp H
  obtain ⟨⟨t389, t390⟩, A120, H⟩ := H
  replace H : (if t389 = 0 then (if t382 = 0 then ((linkhouseref7_Reached.f k l0 a1 (-1)).bind fun t392 => ((linkhouseref7_SameBools.f k t379 t392).bind fun t395 => (if t395 = true then ((linkhouselaw7_crossed.f k).bind fun t396 => (some t396)) else (some false)))) else (some false)) else (if (t382 == t389 && (t383 == t390)) = true then (if (t379.length : Int) = 0 then ((linkhouselaw7_crossed.f k).bind fun t397 => (some t397)) else (some false)) else (some false))) = some r := H
  have A12 := Aside0.mk A120
  clear A120
  by_cases c13 : t389 = 0
  ·
   rw [if_pos c13] at H
   have c13b0 : (t389 == 0) = true := beq_iff_eq.mpr c13
   have c13b1 : (t389 != 0) = false := bne_eq_false_iff_eq.mpr c13
   clear c13
   by_cases c14 : t382 = 0
   ·
    rw [if_pos c14] at H
    have c14b0 : (t382 == 0) = true := beq_iff_eq.mpr c14
    have c14b1 : (t382 != 0) = false := bne_eq_false_iff_eq.mpr c14
    clear c14
    replace H := Option.bind_eq_some_iff.mp H
    obtain ⟨t392, A150, H⟩ := H
    replace H : ((linkhouseref7_SameBools.f k t379 t392).bind fun t395 => (if t395 = true then ((linkhouselaw7_crossed.f k).bind fun t396 => (some t396)) else (some false))) = some r := H
    have A15 := Aside0.mk A150
    clear A150
    replace H := Option.bind_eq_some_iff.mp H
    obtain ⟨t395, A160, H⟩ := H
    replace H : (if t395 = true then ((linkhouselaw7_crossed.f k).bind fun t396 => (some t396)) else (some false)) = some r := H
    have A16 := Aside0.mk A160
    clear A160
    by_cases c17 : t395 = true
    ·
     subst c17
     have H1 : ((linkhouselaw7_crossed.f k).bind fun t396 => (some t396)) = some r := by rw [if_pos rfl] at H; exact H
     clear H
     have H := H1
     clear H1
     replace H := Option.bind_eq_some_iff.mp H
     obtain ⟨t396, A180, H⟩ := H
     replace H : (some t396) = some r := H
     have A18 := Aside0.mk A180
     clear A180
     obtain rfl := Option.some.inj H
     go_enter Try.func7, Try.ntmps7
     go_wp2_with (first | ((with_reducible refine gate_callee (f := 27) rfl ?_); refine goesL_ (some 11) rfl rfl Try.func27 (by kernel_rfl) rfl #[.slice A0 l0.length c0, .int .i64 a1] rfl ar_ ?_; (with_reducible refine (flow_Reachable.calls k _ _ l0 a1 t379 t382 t383 _ ?side1 ?side2 A3.out).mono ?_); (case side1 => repeat (first | exact HR0.out | (with_reducible refine Kd.C_alloc ?_ _) | (with_reducible refine Kd.C_drewN ?_ _) | (with_reducible refine Kd.C_drew ?_))); (case side2 => exact HC0.out); rintro e w19 ⟨v380, rfl, ho0, hb⟩; refine ⟨_, rfl, ?_⟩; have n0_ := Aside0.mk (Kd.R_lower ho0 (below_size (bw_ HB))); have n1_ := Aside0.mk (below_step (bw_ HB) hb); clear HB; have HO381 := n0_; have HB := n1_; clear n0_ n1_; (try clear hb); (try clear hb2); (try clear hk); (try clear hi); (try clear ho0)) | ((with_reducible refine gate_dst (N := 6) rfl ?_); (try (refine gate_guard (by rfl) ?_; dsimp only)); refine bx_ (N := 6) (cs := #[.int .i64 0, .int .i64 0]) (t := 28) ?_; intro gb384 hg w20 hbox hb; have n0_ := Aside0.mk (Kd.R_below (by (with_reducible repeat (first | apply Kd.R_alloc | apply Kd.R_drewN | apply Kd.R_drew)); exact HO381.out) hb); have n1_ := Aside0.mk (below_step (bw_ HB) hb); have n2_ := Aside0.mk (hbox); have n3_ := Aside0.mk ((by rw [hg]; exact (below_size (bw_ HB)) : w.heap.size ≤ gb384)); have n4_ := Aside0.mk ((by rw [hg]; exact (below_size (bw_ HB)) : w.heap.size ≤ gb384)); clear HO381; clear HB; have HO381 := n0_; have HB := n1_; have BK384 := n2_; have GW384 := n3_; have GE384 := n4_; clear n0_ n1_ n2_ n3_ n4_; clear hb hbox hg; obtain ⟨hcz21_0, hcz21_1, hfz21_0, hfz21_1⟩ := cz2_ BK384) | ((with_reducible refine gate_callee (f := 28) rfl ?_); refine goesL_ (some 15) rfl rfl Try.func28 (by kernel_rfl) rfl #[.slice A0 l0.length c0] rfl ar_ ?_; (with_reducible refine (flow_Validate.calls k _ _ l0 t385 t386 _ ?side1 ?side2 A4.out).mono ?_); (case side1 => exact cb_ HR0 HB); (case side2 => exact HC0.out); rintro e w22 ⟨rfl, hb⟩; refine ⟨_, rfl, ?_⟩; have n0_ := Aside0.mk (Kd.R_below (by (with_reducible repeat (first | apply Kd.R_alloc | apply Kd.R_drewN | apply Kd.R_drew)); exact (Kd.R_mono (Kd.R_far (p := ⟨gb384, 1, none⟩) (Kd.R_far (p := ⟨gb384, 0, none⟩) (Kd.R_types HO381.out BK384.out (by decide)) (fun _ hk => hk.2) (.int .i64 t382)) (fun _ hk => hk.2) (.int .i64 t383)) (fun _ h_ => h_.1))) hb); have n1_ := Aside0.mk (blk_below (g := gb384) (o := .cells #[.int .i64 t382, .int .i64 t383] 28 (0, 0)) (bk_ BK384) hb); have n2_ := Aside0.mk (below_step (bw_ HB) hb); clear HO381; clear BK384; clear HB; have HO381 := n0_; have BK384 := n1_; have HB := n2_; clear n0_ n1_ n2_; (try clear hb); (try clear hb2); (try clear hk); (try clear hi)) | ((with_reducible refine gate_callee (f := 29) rfl ?_); refine goesL_ (some 17) rfl rfl Try.func29 (by kernel_rfl) rfl #[.slice A0 l0.length c0] rfl ar_ ?_; (with_reducible refine (linkhouseref7_GraphFault.calls k _ _ l0 t387 t388 _ ?side1 ?side2 A5.out).mono ?_); (case side1 => exact cb_ HR0 HB); (case side2 => exact HC0.out); rintro e w23 ⟨rfl, hb⟩; refine ⟨_, rfl, ?_⟩; have n0_ := Aside0.mk (Kd.R_below (by (with_reducible repeat (first | apply Kd.R_alloc | apply Kd.R_drewN | apply Kd.R_drew)); exact HO381.out) hb); have n1_ := Aside0.mk (blk_below (g := gb384) (o := .cells #[.int .i64 t382, .int .i64 t383] 28 (0, 0)) (bk_ BK384) hb); have n2_ := Aside0.mk (below_step (bw_ HB) hb); clear HO381; clear BK384; clear HB; have HO381 := n0_; have BK384 := n1_; have HB := n2_; clear n0_ n1_ n2_; (try clear hb); (try clear hb2); (try clear hk); (try clear hi)) | ((with_reducible refine gate_callee (f := 20) rfl ?_); refine goesL_ (some 21) rfl rfl Try.func20 (by kernel_rfl) rfl #[.slice A0 l0.length c0, .int .i64 a1] rfl ar_ ?_; (with_reducible refine (linkhouselaw7_fromFault.calls k _ _ l0 a1 t389 t390 _ ?side1 ?side2 A12.out).mono ?_); (case side1 => exact cb_ HR0 HB); (case side2 => exact HC0.out); rintro e w24 ⟨rfl, hb⟩; refine ⟨_, rfl, ?_⟩; have n0_ := Aside0.mk (Kd.R_below (by (with_reducible repeat (first | apply Kd.R_alloc | apply Kd.R_drewN | apply Kd.R_drew)); exact HO381.out) hb); have n1_ := Aside0.mk (blk_below (g := gb384) (o := .cells #[.int .i64 t382, .int .i64 t383] 28 (0, 0)) (bk_ BK384) hb); have n2_ := Aside0.mk (below_step (bw_ HB) hb); clear HO381; clear BK384; clear HB; have HO381 := n0_; have BK384 := n1_; have HB := n2_; clear n0_ n1_ n2_; (try clear hb); (try clear hb2); (try clear hk); (try clear hi)) | ((with_reducible refine gate_dst (N := 7) rfl ?_); (try (refine gate_guard (by rfl) ?_; dsimp only)); refine bx_ (N := 7) (cs := #[.int .i64 0, .int .i64 0]) (t := 28) ?_; intro gb391 hg w25 hbox hb; have n0_ := Aside0.mk (Kd.R_below (by (with_reducible repeat (first | apply Kd.R_alloc | apply Kd.R_drewN | apply Kd.R_drew)); exact HO381.out) hb); have n1_ := Aside0.mk (blk_below (g := gb384) (o := .cells #[.int .i64 t382, .int .i64 t383] 28 (0, 0)) (bk_ BK384) hb); have n2_ := Aside0.mk (below_step (bw_ HB) hb); have n3_ := Aside0.mk (hbox); have n4_ := Aside0.mk ((by rw [hg]; exact (below_size (bw_ HB)) : w.heap.size ≤ gb391)); have n5_ := Aside0.mk ((by rw [hg]; exact (below_size (bw_ HB)) : w.heap.size ≤ gb391)); have n6_ := Aside0.mk ((by rw [hg]; exact Nat.ne_of_lt (blk_lt (g := gb384) (o := .cells #[.int .i64 t382, .int .i64 t383] 28 (0, 0)) (bk_ BK384)) : gb384 ≠ gb391)); have n7_ := Aside0.mk ((by rw [hg]; exact Nat.ne_of_gt (blk_lt (g := gb384) (o := .cells #[.int .i64 t382, .int .i64 t383] 28 (0, 0)) (bk_ BK384)) : gb391 ≠ gb384)); clear HO381; clear BK384; clear HB; have HO381 := n0_; have BK384 := n1_; have HB := n2_; have BK391 := n3_; have GW391 := n4_; have GE391 := n5_; have NB384_391 := n6_; have NB391_384 := n7_; clear n0_ n1_ n2_ n3_ n4_ n5_ n6_ n7_; clear hb hbox hg; have hnb26 := NB391_384.out; have hnc26 := NB384_391.out; obtain ⟨hcz27_0, hcz27_1, hfz27_0, hfz27_1⟩ := cz2_ BK391; obtain ⟨hcz28_0, hcz28_1, hfz28_0, hfz28_1⟩ := cz2_ BK384) | (go_at_call 31; (with_reducible refine (linkhouseref7_Reached.calls k _ _ l0 a1 (-1) t392 _ ?side1 ?side2 A15.out).mono ?_); (case side1 => exact cb_ HR0 HB); (case side2 => exact HC0.out); rintro e w29 ⟨v393, rfl, ho0, hb⟩; have n0_ := Aside0.mk (Kd.R_elder' (by (with_reducible repeat (first | apply Kd.R_alloc | apply Kd.R_drewN | apply Kd.R_drew)); exact (Kd.R_mono (Kd.R_far (p := ⟨gb391, 1, none⟩) (Kd.R_far (p := ⟨gb391, 0, none⟩) (Kd.R_types HO381.out BK391.out (by decide)) (fun _ hk => hk.2) (.int .i64 t389)) (fun _ hk => hk.2) (.int .i64 t390)) (fun _ h_ => h_.1))) (Kd.R_base ho0) hb); have n1_ := Aside0.mk (Kd.R_lower (Kd.R_new' ho0 (Kd.R_lt (by (with_reducible repeat (first | apply Kd.R_alloc | apply Kd.R_drewN | apply Kd.R_drew)); exact (Kd.R_mono (Kd.R_far (p := ⟨gb391, 1, none⟩) (Kd.R_far (p := ⟨gb391, 0, none⟩) (Kd.R_types HO381.out BK391.out (by decide)) (fun _ hk => hk.2) (.int .i64 t389)) (fun _ hk => hk.2) (.int .i64 t390)) (fun _ h_ => h_.1))))) (below_size (bw_ HB))); have n2_ := Aside0.mk (blk_below (g := gb384) (o := .cells #[.int .i64 t382, .int .i64 t383] 28 (0, 0)) (bk_ BK384) hb); have n3_ := Aside0.mk (blk_below (g := gb391) (o := .cells #[.int .i64 t389, .int .i64 t390] 28 (0, 0)) (bk_ BK391) hb); have n4_ := Aside0.mk (below_step (bw_ HB) hb); clear HO381; clear BK384; clear BK391; clear HB; have HO381 := n0_; have HO394 := n1_; have BK384 := n2_; have BK391 := n3_; have HB := n4_; clear n0_ n1_ n2_ n3_ n4_; (try clear hb); (try clear hb2); (try clear hk); (try clear hi); (try clear ho0); obtain ⟨Ao30, co30, eo30⟩ := Kd.R_slice HO381.out; subst eo30; obtain ⟨Ao31, co31, eo31⟩ := Kd.R_slice HO394.out; subst eo31) | (go_at_call 30; (with_reducible refine (linkhouseref7_SameBools.calls k _ _ t379 _ _ t392 true _ ?side1 ?side2 ?side3 ?side4 A16.out).mono ?_); (case side1 => repeat (first | exact (Kd.R_reads' HO381.out).2.2 | (with_reducible refine Kd.C_alloc ?_ _) | (with_reducible refine Kd.C_drewN ?_ _) | (with_reducible refine Kd.C_drew ?_))); (case side2 => exact (Kd.R_reads' HO381.out).2.1); (case side3 => repeat (first | exact (Kd.R_reads' HO394.out).2.2 | (with_reducible refine Kd.C_alloc ?_ _) | (with_reducible refine Kd.C_drewN ?_ _) | (with_reducible refine Kd.C_drew ?_))); (case side4 => exact (Kd.R_reads' HO394.out).2.1); rintro e w' ⟨rfl, ⟨nd, rfl⟩⟩) | (go_at_call 21; (with_reducible refine (linkhouselaw7_crossed.calls k  t396 _ A18.out).mono ?_); rintro e w32 ⟨rfl, hb⟩; have n0_ := Aside0.mk (Kd.R_below (by (with_reducible repeat (first | apply Kd.R_alloc | apply Kd.R_drewN | apply Kd.R_drew)); exact HO381.out) hb); have n1_ := Aside0.mk (Kd.R_below (by (with_reducible repeat (first | apply Kd.R_alloc | apply Kd.R_drewN | apply Kd.R_drew)); exact HO394.out) hb); have n2_ := Aside0.mk (blk_below (g := gb384) (o := .cells #[.int .i64 t382, .int .i64 t383] 28 (0, 0)) (bk_ BK384) hb); have n3_ := Aside0.mk (blk_below (g := gb391) (o := .cells #[.int .i64 t389, .int .i64 t390] 28 (0, 0)) (bk_ BK391) hb); have n4_ := Aside0.mk (below_step (bw_ HB) hb); clear HO381; clear HO394; clear BK384; clear BK391; clear HB; have HO381 := n0_; have HO394 := n1_; have BK384 := n2_; have BK391 := n3_; have HB := n4_; clear n0_ n1_ n2_ n3_ n4_; (try clear hb); (try clear hb2); (try clear hk); (try clear hi)))
     go_ret
     exact ⟨id_, bw_ HB⟩
    ·
     replace c17 := Bool.eq_false_iff.mpr c17
     subst c17
     have H1 : (some false) = some r := by rw [if_neg (show ¬ (false = true) by decide)] at H; exact H
     clear H
     have H := H1
     clear H1
     obtain rfl := Option.some.inj H
     go_enter Try.func7, Try.ntmps7
     go_wp2_with (first | ((with_reducible refine gate_callee (f := 27) rfl ?_); refine goesL_ (some 11) rfl rfl Try.func27 (by kernel_rfl) rfl #[.slice A0 l0.length c0, .int .i64 a1] rfl ar_ ?_; (with_reducible refine (flow_Reachable.calls k _ _ l0 a1 t379 t382 t383 _ ?side1 ?side2 A3.out).mono ?_); (case side1 => repeat (first | exact HR0.out | (with_reducible refine Kd.C_alloc ?_ _) | (with_reducible refine Kd.C_drewN ?_ _) | (with_reducible refine Kd.C_drew ?_))); (case side2 => exact HC0.out); rintro e w33 ⟨v380, rfl, ho0, hb⟩; refine ⟨_, rfl, ?_⟩; have n0_ := Aside0.mk (Kd.R_lower ho0 (below_size (bw_ HB))); have n1_ := Aside0.mk (below_step (bw_ HB) hb); clear HB; have HO381 := n0_; have HB := n1_; clear n0_ n1_; (try clear hb); (try clear hb2); (try clear hk); (try clear hi); (try clear ho0)) | ((with_reducible refine gate_dst (N := 6) rfl ?_); (try (refine gate_guard (by rfl) ?_; dsimp only)); refine bx_ (N := 6) (cs := #[.int .i64 0, .int .i64 0]) (t := 28) ?_; intro gb384 hg w34 hbox hb; have n0_ := Aside0.mk (Kd.R_below (by (with_reducible repeat (first | apply Kd.R_alloc | apply Kd.R_drewN | apply Kd.R_drew)); exact HO381.out) hb); have n1_ := Aside0.mk (below_step (bw_ HB) hb); have n2_ := Aside0.mk (hbox); have n3_ := Aside0.mk ((by rw [hg]; exact (below_size (bw_ HB)) : w.heap.size ≤ gb384)); have n4_ := Aside0.mk ((by rw [hg]; exact (below_size (bw_ HB)) : w.heap.size ≤ gb384)); clear HO381; clear HB; have HO381 := n0_; have HB := n1_; have BK384 := n2_; have GW384 := n3_; have GE384 := n4_; clear n0_ n1_ n2_ n3_ n4_; clear hb hbox hg; obtain ⟨hcz35_0, hcz35_1, hfz35_0, hfz35_1⟩ := cz2_ BK384) | ((with_reducible refine gate_callee (f := 28) rfl ?_); refine goesL_ (some 15) rfl rfl Try.func28 (by kernel_rfl) rfl #[.slice A0 l0.length c0] rfl ar_ ?_; (with_reducible refine (flow_Validate.calls k _ _ l0 t385 t386 _ ?side1 ?side2 A4.out).mono ?_); (case side1 => exact cb_ HR0 HB); (case side2 => exact HC0.out); rintro e w36 ⟨rfl, hb⟩; refine ⟨_, rfl, ?_⟩; have n0_ := Aside0.mk (Kd.R_below (by (with_reducible repeat (first | apply Kd.R_alloc | apply Kd.R_drewN | apply Kd.R_drew)); exact (Kd.R_mono (Kd.R_far (p := ⟨gb384, 1, none⟩) (Kd.R_far (p := ⟨gb384, 0, none⟩) (Kd.R_types HO381.out BK384.out (by decide)) (fun _ hk => hk.2) (.int .i64 t382)) (fun _ hk => hk.2) (.int .i64 t383)) (fun _ h_ => h_.1))) hb); have n1_ := Aside0.mk (blk_below (g := gb384) (o := .cells #[.int .i64 t382, .int .i64 t383] 28 (0, 0)) (bk_ BK384) hb); have n2_ := Aside0.mk (below_step (bw_ HB) hb); clear HO381; clear BK384; clear HB; have HO381 := n0_; have BK384 := n1_; have HB := n2_; clear n0_ n1_ n2_; (try clear hb); (try clear hb2); (try clear hk); (try clear hi)) | ((with_reducible refine gate_callee (f := 29) rfl ?_); refine goesL_ (some 17) rfl rfl Try.func29 (by kernel_rfl) rfl #[.slice A0 l0.length c0] rfl ar_ ?_; (with_reducible refine (linkhouseref7_GraphFault.calls k _ _ l0 t387 t388 _ ?side1 ?side2 A5.out).mono ?_); (case side1 => exact cb_ HR0 HB); (case side2 => exact HC0.out); rintro e w37 ⟨rfl, hb⟩; refine ⟨_, rfl, ?_⟩; have n0_ := Aside0.mk (Kd.R_below (by (with_reducible repeat (first | apply Kd.R_alloc | apply Kd.R_drewN | apply Kd.R_drew)); exact HO381.out) hb); have n1_ := Aside0.mk (blk_below (g := gb384) (o := .cells #[.int .i64 t382, .int .i64 t383] 28 (0, 0)) (bk_ BK384) hb); have n2_ := Aside0.mk (below_step (bw_ HB) hb); clear HO381; clear BK384; clear HB; have HO381 := n0_; have BK384 := n1_; have HB := n2_; clear n0_ n1_ n2_; (try clear hb); (try clear hb2); (try clear hk); (try clear hi)) | ((with_reducible refine gate_callee (f := 20) rfl ?_); refine goesL_ (some 21) rfl rfl Try.func20 (by kernel_rfl) rfl #[.slice A0 l0.length c0, .int .i64 a1] rfl ar_ ?_; (with_reducible refine (linkhouselaw7_fromFault.calls k _ _ l0 a1 t389 t390 _ ?side1 ?side2 A12.out).mono ?_); (case side1 => exact cb_ HR0 HB); (case side2 => exact HC0.out); rintro e w38 ⟨rfl, hb⟩; refine ⟨_, rfl, ?_⟩; have n0_ := Aside0.mk (Kd.R_below (by (with_reducible repeat (first | apply Kd.R_alloc | apply Kd.R_drewN | apply Kd.R_drew)); exact HO381.out) hb); have n1_ := Aside0.mk (blk_below (g := gb384) (o := .cells #[.int .i64 t382, .int .i64 t383] 28 (0, 0)) (bk_ BK384) hb); have n2_ := Aside0.mk (below_step (bw_ HB) hb); clear HO381; clear BK384; clear HB; have HO381 := n0_; have BK384 := n1_; have HB := n2_; clear n0_ n1_ n2_; (try clear hb); (try clear hb2); (try clear hk); (try clear hi)) | ((with_reducible refine gate_dst (N := 7) rfl ?_); (try (refine gate_guard (by rfl) ?_; dsimp only)); refine bx_ (N := 7) (cs := #[.int .i64 0, .int .i64 0]) (t := 28) ?_; intro gb391 hg w39 hbox hb; have n0_ := Aside0.mk (Kd.R_below (by (with_reducible repeat (first | apply Kd.R_alloc | apply Kd.R_drewN | apply Kd.R_drew)); exact HO381.out) hb); have n1_ := Aside0.mk (blk_below (g := gb384) (o := .cells #[.int .i64 t382, .int .i64 t383] 28 (0, 0)) (bk_ BK384) hb); have n2_ := Aside0.mk (below_step (bw_ HB) hb); have n3_ := Aside0.mk (hbox); have n4_ := Aside0.mk ((by rw [hg]; exact (below_size (bw_ HB)) : w.heap.size ≤ gb391)); have n5_ := Aside0.mk ((by rw [hg]; exact (below_size (bw_ HB)) : w.heap.size ≤ gb391)); have n6_ := Aside0.mk ((by rw [hg]; exact Nat.ne_of_lt (blk_lt (g := gb384) (o := .cells #[.int .i64 t382, .int .i64 t383] 28 (0, 0)) (bk_ BK384)) : gb384 ≠ gb391)); have n7_ := Aside0.mk ((by rw [hg]; exact Nat.ne_of_gt (blk_lt (g := gb384) (o := .cells #[.int .i64 t382, .int .i64 t383] 28 (0, 0)) (bk_ BK384)) : gb391 ≠ gb384)); clear HO381; clear BK384; clear HB; have HO381 := n0_; have BK384 := n1_; have HB := n2_; have BK391 := n3_; have GW391 := n4_; have GE391 := n5_; have NB384_391 := n6_; have NB391_384 := n7_; clear n0_ n1_ n2_ n3_ n4_ n5_ n6_ n7_; clear hb hbox hg; have hnb40 := NB391_384.out; have hnc40 := NB384_391.out; obtain ⟨hcz41_0, hcz41_1, hfz41_0, hfz41_1⟩ := cz2_ BK391; obtain ⟨hcz42_0, hcz42_1, hfz42_0, hfz42_1⟩ := cz2_ BK384) | (go_at_call 31; (with_reducible refine (linkhouseref7_Reached.calls k _ _ l0 a1 (-1) t392 _ ?side1 ?side2 A15.out).mono ?_); (case side1 => exact cb_ HR0 HB); (case side2 => exact HC0.out); rintro e w43 ⟨v393, rfl, ho0, hb⟩; have n0_ := Aside0.mk (Kd.R_elder' (by (with_reducible repeat (first | apply Kd.R_alloc | apply Kd.R_drewN | apply Kd.R_drew)); exact (Kd.R_mono (Kd.R_far (p := ⟨gb391, 1, none⟩) (Kd.R_far (p := ⟨gb391, 0, none⟩) (Kd.R_types HO381.out BK391.out (by decide)) (fun _ hk => hk.2) (.int .i64 t389)) (fun _ hk => hk.2) (.int .i64 t390)) (fun _ h_ => h_.1))) (Kd.R_base ho0) hb); have n1_ := Aside0.mk (Kd.R_lower (Kd.R_new' ho0 (Kd.R_lt (by (with_reducible repeat (first | apply Kd.R_alloc | apply Kd.R_drewN | apply Kd.R_drew)); exact (Kd.R_mono (Kd.R_far (p := ⟨gb391, 1, none⟩) (Kd.R_far (p := ⟨gb391, 0, none⟩) (Kd.R_types HO381.out BK391.out (by decide)) (fun _ hk => hk.2) (.int .i64 t389)) (fun _ hk => hk.2) (.int .i64 t390)) (fun _ h_ => h_.1))))) (below_size (bw_ HB))); have n2_ := Aside0.mk (blk_below (g := gb384) (o := .cells #[.int .i64 t382, .int .i64 t383] 28 (0, 0)) (bk_ BK384) hb); have n3_ := Aside0.mk (blk_below (g := gb391) (o := .cells #[.int .i64 t389, .int .i64 t390] 28 (0, 0)) (bk_ BK391) hb); have n4_ := Aside0.mk (below_step (bw_ HB) hb); clear HO381; clear BK384; clear BK391; clear HB; have HO381 := n0_; have HO394 := n1_; have BK384 := n2_; have BK391 := n3_; have HB := n4_; clear n0_ n1_ n2_ n3_ n4_; (try clear hb); (try clear hb2); (try clear hk); (try clear hi); (try clear ho0); obtain ⟨Ao44, co44, eo44⟩ := Kd.R_slice HO381.out; subst eo44; obtain ⟨Ao45, co45, eo45⟩ := Kd.R_slice HO394.out; subst eo45) | (go_at_call 30; (with_reducible refine (linkhouseref7_SameBools.calls k _ _ t379 _ _ t392 false _ ?side1 ?side2 ?side3 ?side4 A16.out).mono ?_); (case side1 => repeat (first | exact (Kd.R_reads' HO381.out).2.2 | (with_reducible refine Kd.C_alloc ?_ _) | (with_reducible refine Kd.C_drewN ?_ _) | (with_reducible refine Kd.C_drew ?_))); (case side2 => exact (Kd.R_reads' HO381.out).2.1); (case side3 => repeat (first | exact (Kd.R_reads' HO394.out).2.2 | (with_reducible refine Kd.C_alloc ?_ _) | (with_reducible refine Kd.C_drewN ?_ _) | (with_reducible refine Kd.C_drew ?_))); (case side4 => exact (Kd.R_reads' HO394.out).2.1); rintro e w' ⟨rfl, ⟨nd, rfl⟩⟩))
     go_ret
     exact ⟨id_, bw_ HB⟩
   ·
    rw [if_neg c14] at H
    have c14b0 : (t382 == 0) = false := beq_eq_false_iff_ne.mpr c14
    have c14b1 : (t382 != 0) = true := bne_iff_ne.mpr c14
    obtain rfl := Option.some.inj H
    go_enter Try.func7, Try.ntmps7
    go_wp2_with (first | ((with_reducible refine gate_callee (f := 27) rfl ?_); refine goesL_ (some 11) rfl rfl Try.func27 (by kernel_rfl) rfl #[.slice A0 l0.length c0, .int .i64 a1] rfl ar_ ?_; (with_reducible refine (flow_Reachable.calls k _ _ l0 a1 t379 t382 t383 _ ?side1 ?side2 A3.out).mono ?_); (case side1 => repeat (first | exact HR0.out | (with_reducible refine Kd.C_alloc ?_ _) | (with_reducible refine Kd.C_drewN ?_ _) | (with_reducible refine Kd.C_drew ?_))); (case side2 => exact HC0.out); rintro e w46 ⟨v380, rfl, ho0, hb⟩; refine ⟨_, rfl, ?_⟩; have n0_ := Aside0.mk (Kd.R_lower ho0 (below_size (bw_ HB))); have n1_ := Aside0.mk (below_step (bw_ HB) hb); clear HB; have HO381 := n0_; have HB := n1_; clear n0_ n1_; (try clear hb); (try clear hb2); (try clear hk); (try clear hi); (try clear ho0)) | ((with_reducible refine gate_dst (N := 6) rfl ?_); (try (refine gate_guard (by rfl) ?_; dsimp only)); refine bx_ (N := 6) (cs := #[.int .i64 0, .int .i64 0]) (t := 28) ?_; intro gb384 hg w47 hbox hb; have n0_ := Aside0.mk (Kd.R_below (by (with_reducible repeat (first | apply Kd.R_alloc | apply Kd.R_drewN | apply Kd.R_drew)); exact HO381.out) hb); have n1_ := Aside0.mk (below_step (bw_ HB) hb); have n2_ := Aside0.mk (hbox); have n3_ := Aside0.mk ((by rw [hg]; exact (below_size (bw_ HB)) : w.heap.size ≤ gb384)); have n4_ := Aside0.mk ((by rw [hg]; exact (below_size (bw_ HB)) : w.heap.size ≤ gb384)); clear HO381; clear HB; have HO381 := n0_; have HB := n1_; have BK384 := n2_; have GW384 := n3_; have GE384 := n4_; clear n0_ n1_ n2_ n3_ n4_; clear hb hbox hg; obtain ⟨hcz48_0, hcz48_1, hfz48_0, hfz48_1⟩ := cz2_ BK384) | ((with_reducible refine gate_callee (f := 28) rfl ?_); refine goesL_ (some 15) rfl rfl Try.func28 (by kernel_rfl) rfl #[.slice A0 l0.length c0] rfl ar_ ?_; (with_reducible refine (flow_Validate.calls k _ _ l0 t385 t386 _ ?side1 ?side2 A4.out).mono ?_); (case side1 => exact cb_ HR0 HB); (case side2 => exact HC0.out); rintro e w49 ⟨rfl, hb⟩; refine ⟨_, rfl, ?_⟩; have n0_ := Aside0.mk (Kd.R_below (by (with_reducible repeat (first | apply Kd.R_alloc | apply Kd.R_drewN | apply Kd.R_drew)); exact (Kd.R_mono (Kd.R_far (p := ⟨gb384, 1, none⟩) (Kd.R_far (p := ⟨gb384, 0, none⟩) (Kd.R_types HO381.out BK384.out (by decide)) (fun _ hk => hk.2) (.int .i64 t382)) (fun _ hk => hk.2) (.int .i64 t383)) (fun _ h_ => h_.1))) hb); have n1_ := Aside0.mk (blk_below (g := gb384) (o := .cells #[.int .i64 t382, .int .i64 t383] 28 (0, 0)) (bk_ BK384) hb); have n2_ := Aside0.mk (below_step (bw_ HB) hb); clear HO381; clear BK384; clear HB; have HO381 := n0_; have BK384 := n1_; have HB := n2_; clear n0_ n1_ n2_; (try clear hb); (try clear hb2); (try clear hk); (try clear hi)) | ((with_reducible refine gate_callee (f := 29) rfl ?_); refine goesL_ (some 17) rfl rfl Try.func29 (by kernel_rfl) rfl #[.slice A0 l0.length c0] rfl ar_ ?_; (with_reducible refine (linkhouseref7_GraphFault.calls k _ _ l0 t387 t388 _ ?side1 ?side2 A5.out).mono ?_); (case side1 => exact cb_ HR0 HB); (case side2 => exact HC0.out); rintro e w50 ⟨rfl, hb⟩; refine ⟨_, rfl, ?_⟩; have n0_ := Aside0.mk (Kd.R_below (by (with_reducible repeat (first | apply Kd.R_alloc | apply Kd.R_drewN | apply Kd.R_drew)); exact HO381.out) hb); have n1_ := Aside0.mk (blk_below (g := gb384) (o := .cells #[.int .i64 t382, .int .i64 t383] 28 (0, 0)) (bk_ BK384) hb); have n2_ := Aside0.mk (below_step (bw_ HB) hb); clear HO381; clear BK384; clear HB; have HO381 := n0_; have BK384 := n1_; have HB := n2_; clear n0_ n1_ n2_; (try clear hb); (try clear hb2); (try clear hk); (try clear hi)) | ((with_reducible refine gate_callee (f := 20) rfl ?_); refine goesL_ (some 21) rfl rfl Try.func20 (by kernel_rfl) rfl #[.slice A0 l0.length c0, .int .i64 a1] rfl ar_ ?_; (with_reducible refine (linkhouselaw7_fromFault.calls k _ _ l0 a1 t389 t390 _ ?side1 ?side2 A12.out).mono ?_); (case side1 => exact cb_ HR0 HB); (case side2 => exact HC0.out); rintro e w51 ⟨rfl, hb⟩; refine ⟨_, rfl, ?_⟩; have n0_ := Aside0.mk (Kd.R_below (by (with_reducible repeat (first | apply Kd.R_alloc | apply Kd.R_drewN | apply Kd.R_drew)); exact HO381.out) hb); have n1_ := Aside0.mk (blk_below (g := gb384) (o := .cells #[.int .i64 t382, .int .i64 t383] 28 (0, 0)) (bk_ BK384) hb); have n2_ := Aside0.mk (below_step (bw_ HB) hb); clear HO381; clear BK384; clear HB; have HO381 := n0_; have BK384 := n1_; have HB := n2_; clear n0_ n1_ n2_; (try clear hb); (try clear hb2); (try clear hk); (try clear hi)) | ((with_reducible refine gate_dst (N := 7) rfl ?_); (try (refine gate_guard (by rfl) ?_; dsimp only)); refine bx_ (N := 7) (cs := #[.int .i64 0, .int .i64 0]) (t := 28) ?_; intro gb391 hg w52 hbox hb; have n0_ := Aside0.mk (Kd.R_below (by (with_reducible repeat (first | apply Kd.R_alloc | apply Kd.R_drewN | apply Kd.R_drew)); exact HO381.out) hb); have n1_ := Aside0.mk (blk_below (g := gb384) (o := .cells #[.int .i64 t382, .int .i64 t383] 28 (0, 0)) (bk_ BK384) hb); have n2_ := Aside0.mk (below_step (bw_ HB) hb); have n3_ := Aside0.mk (hbox); have n4_ := Aside0.mk ((by rw [hg]; exact (below_size (bw_ HB)) : w.heap.size ≤ gb391)); have n5_ := Aside0.mk ((by rw [hg]; exact (below_size (bw_ HB)) : w.heap.size ≤ gb391)); have n6_ := Aside0.mk ((by rw [hg]; exact Nat.ne_of_lt (blk_lt (g := gb384) (o := .cells #[.int .i64 t382, .int .i64 t383] 28 (0, 0)) (bk_ BK384)) : gb384 ≠ gb391)); have n7_ := Aside0.mk ((by rw [hg]; exact Nat.ne_of_gt (blk_lt (g := gb384) (o := .cells #[.int .i64 t382, .int .i64 t383] 28 (0, 0)) (bk_ BK384)) : gb391 ≠ gb384)); clear HO381; clear BK384; clear HB; have HO381 := n0_; have BK384 := n1_; have HB := n2_; have BK391 := n3_; have GW391 := n4_; have GE391 := n5_; have NB384_391 := n6_; have NB391_384 := n7_; clear n0_ n1_ n2_ n3_ n4_ n5_ n6_ n7_; clear hb hbox hg; have hnb53 := NB391_384.out; have hnc53 := NB384_391.out; obtain ⟨hcz54_0, hcz54_1, hfz54_0, hfz54_1⟩ := cz2_ BK391; obtain ⟨hcz55_0, hcz55_1, hfz55_0, hfz55_1⟩ := cz2_ BK384))
    go_ret
    exact ⟨id_, bw_ HB⟩
  ·
   rw [if_neg c13] at H
   have c13b0 : (t389 == 0) = false := beq_eq_false_iff_ne.mpr c13
   have c13b1 : (t389 != 0) = true := bne_iff_ne.mpr c13
   by_cases c56 : (t382 == t389 && (t383 == t390)) = true
   ·
    rw [if_pos c56] at H
    have c56b0 : (t382 == t389 && (t383 == t390)) = true := c56
    (try (have c56b1 : decide (t382 = t389 && (t383 == t390)) = true := by simpa using c56))
    (try (have c56b2 : (t382 == t389 && (t383 == t390)) = true := by simpa using c56))
    clear c56
    by_cases c57 : (t379.length : Int) = 0
    ·
     rw [if_pos c57] at H
     have c57b0 : ((t379.length : Int) == 0) = true := beq_iff_eq.mpr c57
     have c57b1 : ((t379.length : Int) != 0) = false := bne_eq_false_iff_eq.mpr c57
     clear c57
     replace H := Option.bind_eq_some_iff.mp H
     obtain ⟨t397, A580, H⟩ := H
     replace H : (some t397) = some r := H
     have A58 := Aside0.mk A580
     clear A580
     obtain rfl := Option.some.inj H
     go_enter Try.func7, Try.ntmps7
     go_wp2_with (first | ((with_reducible refine gate_callee (f := 27) rfl ?_); refine goesL_ (some 11) rfl rfl Try.func27 (by kernel_rfl) rfl #[.slice A0 l0.length c0, .int .i64 a1] rfl ar_ ?_; (with_reducible refine (flow_Reachable.calls k _ _ l0 a1 t379 t382 t383 _ ?side1 ?side2 A3.out).mono ?_); (case side1 => repeat (first | exact HR0.out | (with_reducible refine Kd.C_alloc ?_ _) | (with_reducible refine Kd.C_drewN ?_ _) | (with_reducible refine Kd.C_drew ?_))); (case side2 => exact HC0.out); rintro e w59 ⟨v380, rfl, ho0, hb⟩; refine ⟨_, rfl, ?_⟩; have n0_ := Aside0.mk (Kd.R_lower ho0 (below_size (bw_ HB))); have n1_ := Aside0.mk (below_step (bw_ HB) hb); clear HB; have HO381 := n0_; have HB := n1_; clear n0_ n1_; (try clear hb); (try clear hb2); (try clear hk); (try clear hi); (try clear ho0)) | ((with_reducible refine gate_dst (N := 6) rfl ?_); (try (refine gate_guard (by rfl) ?_; dsimp only)); refine bx_ (N := 6) (cs := #[.int .i64 0, .int .i64 0]) (t := 28) ?_; intro gb384 hg w60 hbox hb; have n0_ := Aside0.mk (Kd.R_below (by (with_reducible repeat (first | apply Kd.R_alloc | apply Kd.R_drewN | apply Kd.R_drew)); exact HO381.out) hb); have n1_ := Aside0.mk (below_step (bw_ HB) hb); have n2_ := Aside0.mk (hbox); have n3_ := Aside0.mk ((by rw [hg]; exact (below_size (bw_ HB)) : w.heap.size ≤ gb384)); have n4_ := Aside0.mk ((by rw [hg]; exact (below_size (bw_ HB)) : w.heap.size ≤ gb384)); clear HO381; clear HB; have HO381 := n0_; have HB := n1_; have BK384 := n2_; have GW384 := n3_; have GE384 := n4_; clear n0_ n1_ n2_ n3_ n4_; clear hb hbox hg; obtain ⟨hcz61_0, hcz61_1, hfz61_0, hfz61_1⟩ := cz2_ BK384) | ((with_reducible refine gate_callee (f := 28) rfl ?_); refine goesL_ (some 15) rfl rfl Try.func28 (by kernel_rfl) rfl #[.slice A0 l0.length c0] rfl ar_ ?_; (with_reducible refine (flow_Validate.calls k _ _ l0 t385 t386 _ ?side1 ?side2 A4.out).mono ?_); (case side1 => exact cb_ HR0 HB); (case side2 => exact HC0.out); rintro e w62 ⟨rfl, hb⟩; refine ⟨_, rfl, ?_⟩; have n0_ := Aside0.mk (Kd.R_below (by (with_reducible repeat (first | apply Kd.R_alloc | apply Kd.R_drewN | apply Kd.R_drew)); exact (Kd.R_mono (Kd.R_far (p := ⟨gb384, 1, none⟩) (Kd.R_far (p := ⟨gb384, 0, none⟩) (Kd.R_types HO381.out BK384.out (by decide)) (fun _ hk => hk.2) (.int .i64 t382)) (fun _ hk => hk.2) (.int .i64 t383)) (fun _ h_ => h_.1))) hb); have n1_ := Aside0.mk (blk_below (g := gb384) (o := .cells #[.int .i64 t382, .int .i64 t383] 28 (0, 0)) (bk_ BK384) hb); have n2_ := Aside0.mk (below_step (bw_ HB) hb); clear HO381; clear BK384; clear HB; have HO381 := n0_; have BK384 := n1_; have HB := n2_; clear n0_ n1_ n2_; (try clear hb); (try clear hb2); (try clear hk); (try clear hi)) | ((with_reducible refine gate_callee (f := 29) rfl ?_); refine goesL_ (some 17) rfl rfl Try.func29 (by kernel_rfl) rfl #[.slice A0 l0.length c0] rfl ar_ ?_; (with_reducible refine (linkhouseref7_GraphFault.calls k _ _ l0 t387 t388 _ ?side1 ?side2 A5.out).mono ?_); (case side1 => exact cb_ HR0 HB); (case side2 => exact HC0.out); rintro e w63 ⟨rfl, hb⟩; refine ⟨_, rfl, ?_⟩; have n0_ := Aside0.mk (Kd.R_below (by (with_reducible repeat (first | apply Kd.R_alloc | apply Kd.R_drewN | apply Kd.R_drew)); exact HO381.out) hb); have n1_ := Aside0.mk (blk_below (g := gb384) (o := .cells #[.int .i64 t382, .int .i64 t383] 28 (0, 0)) (bk_ BK384) hb); have n2_ := Aside0.mk (below_step (bw_ HB) hb); clear HO381; clear BK384; clear HB; have HO381 := n0_; have BK384 := n1_; have HB := n2_; clear n0_ n1_ n2_; (try clear hb); (try clear hb2); (try clear hk); (try clear hi)) | ((with_reducible refine gate_callee (f := 20) rfl ?_); refine goesL_ (some 21) rfl rfl Try.func20 (by kernel_rfl) rfl #[.slice A0 l0.length c0, .int .i64 a1] rfl ar_ ?_; (with_reducible refine (linkhouselaw7_fromFault.calls k _ _ l0 a1 t389 t390 _ ?side1 ?side2 A12.out).mono ?_); (case side1 => exact cb_ HR0 HB); (case side2 => exact HC0.out); rintro e w64 ⟨rfl, hb⟩; refine ⟨_, rfl, ?_⟩; have n0_ := Aside0.mk (Kd.R_below (by (with_reducible repeat (first | apply Kd.R_alloc | apply Kd.R_drewN | apply Kd.R_drew)); exact HO381.out) hb); have n1_ := Aside0.mk (blk_below (g := gb384) (o := .cells #[.int .i64 t382, .int .i64 t383] 28 (0, 0)) (bk_ BK384) hb); have n2_ := Aside0.mk (below_step (bw_ HB) hb); clear HO381; clear BK384; clear HB; have HO381 := n0_; have BK384 := n1_; have HB := n2_; clear n0_ n1_ n2_; (try clear hb); (try clear hb2); (try clear hk); (try clear hi)) | ((with_reducible refine gate_dst (N := 7) rfl ?_); (try (refine gate_guard (by rfl) ?_; dsimp only)); refine bx_ (N := 7) (cs := #[.int .i64 0, .int .i64 0]) (t := 28) ?_; intro gb391 hg w65 hbox hb; have n0_ := Aside0.mk (Kd.R_below (by (with_reducible repeat (first | apply Kd.R_alloc | apply Kd.R_drewN | apply Kd.R_drew)); exact HO381.out) hb); have n1_ := Aside0.mk (blk_below (g := gb384) (o := .cells #[.int .i64 t382, .int .i64 t383] 28 (0, 0)) (bk_ BK384) hb); have n2_ := Aside0.mk (below_step (bw_ HB) hb); have n3_ := Aside0.mk (hbox); have n4_ := Aside0.mk ((by rw [hg]; exact (below_size (bw_ HB)) : w.heap.size ≤ gb391)); have n5_ := Aside0.mk ((by rw [hg]; exact (below_size (bw_ HB)) : w.heap.size ≤ gb391)); have n6_ := Aside0.mk ((by rw [hg]; exact Nat.ne_of_lt (blk_lt (g := gb384) (o := .cells #[.int .i64 t382, .int .i64 t383] 28 (0, 0)) (bk_ BK384)) : gb384 ≠ gb391)); have n7_ := Aside0.mk ((by rw [hg]; exact Nat.ne_of_gt (blk_lt (g := gb384) (o := .cells #[.int .i64 t382, .int .i64 t383] 28 (0, 0)) (bk_ BK384)) : gb391 ≠ gb384)); clear HO381; clear BK384; clear HB; have HO381 := n0_; have BK384 := n1_; have HB := n2_; have BK391 := n3_; have GW391 := n4_; have GE391 := n5_; have NB384_391 := n6_; have NB391_384 := n7_; clear n0_ n1_ n2_ n3_ n4_ n5_ n6_ n7_; clear hb hbox hg; have hnb66 := NB391_384.out; have hnc66 := NB384_391.out; obtain ⟨hcz67_0, hcz67_1, hfz67_0, hfz67_1⟩ := cz2_ BK391; obtain ⟨hcz68_0, hcz68_1, hfz68_0, hfz68_1⟩ := cz2_ BK384; obtain ⟨Ao69, co69, eo69⟩ := Kd.R_slice HO381.out; subst eo69) | (go_at_call 21; (with_reducible refine (linkhouselaw7_crossed.calls k  t397 _ A58.out).mono ?_); rintro e w70 ⟨rfl, hb⟩; have n0_ := Aside0.mk (Kd.R_below (by (with_reducible repeat (first | apply Kd.R_alloc | apply Kd.R_drewN | apply Kd.R_drew)); exact (Kd.R_mono (Kd.R_far (p := ⟨gb391, 1, none⟩) (Kd.R_far (p := ⟨gb391, 0, none⟩) (Kd.R_types HO381.out BK391.out (by decide)) (fun _ hk => hk.2) (.int .i64 t389)) (fun _ hk => hk.2) (.int .i64 t390)) (fun _ h_ => h_.1))) hb); have n1_ := Aside0.mk (blk_below (g := gb384) (o := .cells #[.int .i64 t382, .int .i64 t383] 28 (0, 0)) (bk_ BK384) hb); have n2_ := Aside0.mk (blk_below (g := gb391) (o := .cells #[.int .i64 t389, .int .i64 t390] 28 (0, 0)) (bk_ BK391) hb); have n3_ := Aside0.mk (below_step (bw_ HB) hb); clear HO381; clear BK384; clear BK391; clear HB; have HO381 := n0_; have BK384 := n1_; have BK391 := n2_; have HB := n3_; clear n0_ n1_ n2_ n3_; (try clear hb); (try clear hb2); (try clear hk); (try clear hi)))
     go_ret
     exact ⟨id_, bw_ HB⟩
    ·
     rw [if_neg c57] at H
     have c57b0 : ((t379.length : Int) == 0) = false := beq_eq_false_iff_ne.mpr c57
     have c57b1 : ((t379.length : Int) != 0) = true := bne_iff_ne.mpr c57
     have c57b2 : ¬ (t379 = []) := fun h_ => c57 (by rw [h_]; rfl)
     obtain rfl := Option.some.inj H
     go_enter Try.func7, Try.ntmps7
     go_wp2_with (first | ((with_reducible refine gate_callee (f := 27) rfl ?_); refine goesL_ (some 11) rfl rfl Try.func27 (by kernel_rfl) rfl #[.slice A0 l0.length c0, .int .i64 a1] rfl ar_ ?_; (with_reducible refine (flow_Reachable.calls k _ _ l0 a1 t379 t382 t383 _ ?side1 ?side2 A3.out).mono ?_); (case side1 => repeat (first | exact HR0.out | (with_reducible refine Kd.C_alloc ?_ _) | (with_reducible refine Kd.C_drewN ?_ _) | (with_reducible refine Kd.C_drew ?_))); (case side2 => exact HC0.out); rintro e w71 ⟨v380, rfl, ho0, hb⟩; refine ⟨_, rfl, ?_⟩; have n0_ := Aside0.mk (Kd.R_lower ho0 (below_size (bw_ HB))); have n1_ := Aside0.mk (below_step (bw_ HB) hb); clear HB; have HO381 := n0_; have HB := n1_; clear n0_ n1_; (try clear hb); (try clear hb2); (try clear hk); (try clear hi); (try clear ho0)) | ((with_reducible refine gate_dst (N := 6) rfl ?_); (try (refine gate_guard (by rfl) ?_; dsimp only)); refine bx_ (N := 6) (cs := #[.int .i64 0, .int .i64 0]) (t := 28) ?_; intro gb384 hg w72 hbox hb; have n0_ := Aside0.mk (Kd.R_below (by (with_reducible repeat (first | apply Kd.R_alloc | apply Kd.R_drewN | apply Kd.R_drew)); exact HO381.out) hb); have n1_ := Aside0.mk (below_step (bw_ HB) hb); have n2_ := Aside0.mk (hbox); have n3_ := Aside0.mk ((by rw [hg]; exact (below_size (bw_ HB)) : w.heap.size ≤ gb384)); have n4_ := Aside0.mk ((by rw [hg]; exact (below_size (bw_ HB)) : w.heap.size ≤ gb384)); clear HO381; clear HB; have HO381 := n0_; have HB := n1_; have BK384 := n2_; have GW384 := n3_; have GE384 := n4_; clear n0_ n1_ n2_ n3_ n4_; clear hb hbox hg; obtain ⟨hcz73_0, hcz73_1, hfz73_0, hfz73_1⟩ := cz2_ BK384) | ((with_reducible refine gate_callee (f := 28) rfl ?_); refine goesL_ (some 15) rfl rfl Try.func28 (by kernel_rfl) rfl #[.slice A0 l0.length c0] rfl ar_ ?_; (with_reducible refine (flow_Validate.calls k _ _ l0 t385 t386 _ ?side1 ?side2 A4.out).mono ?_); (case side1 => exact cb_ HR0 HB); (case side2 => exact HC0.out); rintro e w74 ⟨rfl, hb⟩; refine ⟨_, rfl, ?_⟩; have n0_ := Aside0.mk (Kd.R_below (by (with_reducible repeat (first | apply Kd.R_alloc | apply Kd.R_drewN | apply Kd.R_drew)); exact (Kd.R_mono (Kd.R_far (p := ⟨gb384, 1, none⟩) (Kd.R_far (p := ⟨gb384, 0, none⟩) (Kd.R_types HO381.out BK384.out (by decide)) (fun _ hk => hk.2) (.int .i64 t382)) (fun _ hk => hk.2) (.int .i64 t383)) (fun _ h_ => h_.1))) hb); have n1_ := Aside0.mk (blk_below (g := gb384) (o := .cells #[.int .i64 t382, .int .i64 t383] 28 (0, 0)) (bk_ BK384) hb); have n2_ := Aside0.mk (below_step (bw_ HB) hb); clear HO381; clear BK384; clear HB; have HO381 := n0_; have BK384 := n1_; have HB := n2_; clear n0_ n1_ n2_; (try clear hb); (try clear hb2); (try clear hk); (try clear hi)) | ((with_reducible refine gate_callee (f := 29) rfl ?_); refine goesL_ (some 17) rfl rfl Try.func29 (by kernel_rfl) rfl #[.slice A0 l0.length c0] rfl ar_ ?_; (with_reducible refine (linkhouseref7_GraphFault.calls k _ _ l0 t387 t388 _ ?side1 ?side2 A5.out).mono ?_); (case side1 => exact cb_ HR0 HB); (case side2 => exact HC0.out); rintro e w75 ⟨rfl, hb⟩; refine ⟨_, rfl, ?_⟩; have n0_ := Aside0.mk (Kd.R_below (by (with_reducible repeat (first | apply Kd.R_alloc | apply Kd.R_drewN | apply Kd.R_drew)); exact HO381.out) hb); have n1_ := Aside0.mk (blk_below (g := gb384) (o := .cells #[.int .i64 t382, .int .i64 t383] 28 (0, 0)) (bk_ BK384) hb); have n2_ := Aside0.mk (below_step (bw_ HB) hb); clear HO381; clear BK384; clear HB; have HO381 := n0_; have BK384 := n1_; have HB := n2_; clear n0_ n1_ n2_; (try clear hb); (try clear hb2); (try clear hk); (try clear hi)) | ((with_reducible refine gate_callee (f := 20) rfl ?_); refine goesL_ (some 21) rfl rfl Try.func20 (by kernel_rfl) rfl #[.slice A0 l0.length c0, .int .i64 a1] rfl ar_ ?_; (with_reducible refine (linkhouselaw7_fromFault.calls k _ _ l0 a1 t389 t390 _ ?side1 ?side2 A12.out).mono ?_); (case side1 => exact cb_ HR0 HB); (case side2 => exact HC0.out); rintro e w76 ⟨rfl, hb⟩; refine ⟨_, rfl, ?_⟩; have n0_ := Aside0.mk (Kd.R_below (by (with_reducible repeat (first | apply Kd.R_alloc | apply Kd.R_drewN | apply Kd.R_drew)); exact HO381.out) hb); have n1_ := Aside0.mk (blk_below (g := gb384) (o := .cells #[.int .i64 t382, .int .i64 t383] 28 (0, 0)) (bk_ BK384) hb); have n2_ := Aside0.mk (below_step (bw_ HB) hb); clear HO381; clear BK384; clear HB; have HO381 := n0_; have BK384 := n1_; have HB := n2_; clear n0_ n1_ n2_; (try clear hb); (try clear hb2); (try clear hk); (try clear hi)) | ((with_reducible refine gate_dst (N := 7) rfl ?_); (try (refine gate_guard (by rfl) ?_; dsimp only)); refine bx_ (N := 7) (cs := #[.int .i64 0, .int .i64 0]) (t := 28) ?_; intro gb391 hg w77 hbox hb; have n0_ := Aside0.mk (Kd.R_below (by (with_reducible repeat (first | apply Kd.R_alloc | apply Kd.R_drewN | apply Kd.R_drew)); exact HO381.out) hb); have n1_ := Aside0.mk (blk_below (g := gb384) (o := .cells #[.int .i64 t382, .int .i64 t383] 28 (0, 0)) (bk_ BK384) hb); have n2_ := Aside0.mk (below_step (bw_ HB) hb); have n3_ := Aside0.mk (hbox); have n4_ := Aside0.mk ((by rw [hg]; exact (below_size (bw_ HB)) : w.heap.size ≤ gb391)); have n5_ := Aside0.mk ((by rw [hg]; exact (below_size (bw_ HB)) : w.heap.size ≤ gb391)); have n6_ := Aside0.mk ((by rw [hg]; exact Nat.ne_of_lt (blk_lt (g := gb384) (o := .cells #[.int .i64 t382, .int .i64 t383] 28 (0, 0)) (bk_ BK384)) : gb384 ≠ gb391)); have n7_ := Aside0.mk ((by rw [hg]; exact Nat.ne_of_gt (blk_lt (g := gb384) (o := .cells #[.int .i64 t382, .int .i64 t383] 28 (0, 0)) (bk_ BK384)) : gb391 ≠ gb384)); clear HO381; clear BK384; clear HB; have HO381 := n0_; have BK384 := n1_; have HB := n2_; have BK391 := n3_; have GW391 := n4_; have GE391 := n5_; have NB384_391 := n6_; have NB391_384 := n7_; clear n0_ n1_ n2_ n3_ n4_ n5_ n6_ n7_; clear hb hbox hg; have hnb78 := NB391_384.out; have hnc78 := NB384_391.out; obtain ⟨hcz79_0, hcz79_1, hfz79_0, hfz79_1⟩ := cz2_ BK391; obtain ⟨hcz80_0, hcz80_1, hfz80_0, hfz80_1⟩ := cz2_ BK384; obtain ⟨Ao81, co81, eo81⟩ := Kd.R_slice HO381.out; subst eo81))
     go_ret
     exact ⟨id_, bw_ HB⟩
   ·
    rw [if_neg c56] at H
    have c56b0 : (t382 == t389 && (t383 == t390)) = false := by simpa using c56
    (try (have c56b1 : decide (t382 = t389 && (t383 == t390)) = false := by simpa using c56))
    (try (have c56b2 : (t382 == t389 && (t383 == t390)) = false := by simpa using c56))
    (try (have c56b3 : ¬ (t382 = t389 && (t383 == t390)) := by simpa using c56))
    clear c56
    obtain rfl := Option.some.inj H
    go_enter Try.func7, Try.ntmps7
    go_wp2_with (first | ((with_reducible refine gate_callee (f := 27) rfl ?_); refine goesL_ (some 11) rfl rfl Try.func27 (by kernel_rfl) rfl #[.slice A0 l0.length c0, .int .i64 a1] rfl ar_ ?_; (with_reducible refine (flow_Reachable.calls k _ _ l0 a1 t379 t382 t383 _ ?side1 ?side2 A3.out).mono ?_); (case side1 => repeat (first | exact HR0.out | (with_reducible refine Kd.C_alloc ?_ _) | (with_reducible refine Kd.C_drewN ?_ _) | (with_reducible refine Kd.C_drew ?_))); (case side2 => exact HC0.out); rintro e w82 ⟨v380, rfl, ho0, hb⟩; refine ⟨_, rfl, ?_⟩; have n0_ := Aside0.mk (Kd.R_lower ho0 (below_size (bw_ HB))); have n1_ := Aside0.mk (below_step (bw_ HB) hb); clear HB; have HO381 := n0_; have HB := n1_; clear n0_ n1_; (try clear hb); (try clear hb2); (try clear hk); (try clear hi); (try clear ho0)) | ((with_reducible refine gate_dst (N := 6) rfl ?_); (try (refine gate_guard (by rfl) ?_; dsimp only)); refine bx_ (N := 6) (cs := #[.int .i64 0, .int .i64 0]) (t := 28) ?_; intro gb384 hg w83 hbox hb; have n0_ := Aside0.mk (Kd.R_below (by (with_reducible repeat (first | apply Kd.R_alloc | apply Kd.R_drewN | apply Kd.R_drew)); exact HO381.out) hb); have n1_ := Aside0.mk (below_step (bw_ HB) hb); have n2_ := Aside0.mk (hbox); have n3_ := Aside0.mk ((by rw [hg]; exact (below_size (bw_ HB)) : w.heap.size ≤ gb384)); have n4_ := Aside0.mk ((by rw [hg]; exact (below_size (bw_ HB)) : w.heap.size ≤ gb384)); clear HO381; clear HB; have HO381 := n0_; have HB := n1_; have BK384 := n2_; have GW384 := n3_; have GE384 := n4_; clear n0_ n1_ n2_ n3_ n4_; clear hb hbox hg; obtain ⟨hcz84_0, hcz84_1, hfz84_0, hfz84_1⟩ := cz2_ BK384) | ((with_reducible refine gate_callee (f := 28) rfl ?_); refine goesL_ (some 15) rfl rfl Try.func28 (by kernel_rfl) rfl #[.slice A0 l0.length c0] rfl ar_ ?_; (with_reducible refine (flow_Validate.calls k _ _ l0 t385 t386 _ ?side1 ?side2 A4.out).mono ?_); (case side1 => exact cb_ HR0 HB); (case side2 => exact HC0.out); rintro e w85 ⟨rfl, hb⟩; refine ⟨_, rfl, ?_⟩; have n0_ := Aside0.mk (Kd.R_below (by (with_reducible repeat (first | apply Kd.R_alloc | apply Kd.R_drewN | apply Kd.R_drew)); exact (Kd.R_mono (Kd.R_far (p := ⟨gb384, 1, none⟩) (Kd.R_far (p := ⟨gb384, 0, none⟩) (Kd.R_types HO381.out BK384.out (by decide)) (fun _ hk => hk.2) (.int .i64 t382)) (fun _ hk => hk.2) (.int .i64 t383)) (fun _ h_ => h_.1))) hb); have n1_ := Aside0.mk (blk_below (g := gb384) (o := .cells #[.int .i64 t382, .int .i64 t383] 28 (0, 0)) (bk_ BK384) hb); have n2_ := Aside0.mk (below_step (bw_ HB) hb); clear HO381; clear BK384; clear HB; have HO381 := n0_; have BK384 := n1_; have HB := n2_; clear n0_ n1_ n2_; (try clear hb); (try clear hb2); (try clear hk); (try clear hi)) | ((with_reducible refine gate_callee (f := 29) rfl ?_); refine goesL_ (some 17) rfl rfl Try.func29 (by kernel_rfl) rfl #[.slice A0 l0.length c0] rfl ar_ ?_; (with_reducible refine (linkhouseref7_GraphFault.calls k _ _ l0 t387 t388 _ ?side1 ?side2 A5.out).mono ?_); (case side1 => exact cb_ HR0 HB); (case side2 => exact HC0.out); rintro e w86 ⟨rfl, hb⟩; refine ⟨_, rfl, ?_⟩; have n0_ := Aside0.mk (Kd.R_below (by (with_reducible repeat (first | apply Kd.R_alloc | apply Kd.R_drewN | apply Kd.R_drew)); exact HO381.out) hb); have n1_ := Aside0.mk (blk_below (g := gb384) (o := .cells #[.int .i64 t382, .int .i64 t383] 28 (0, 0)) (bk_ BK384) hb); have n2_ := Aside0.mk (below_step (bw_ HB) hb); clear HO381; clear BK384; clear HB; have HO381 := n0_; have BK384 := n1_; have HB := n2_; clear n0_ n1_ n2_; (try clear hb); (try clear hb2); (try clear hk); (try clear hi)) | ((with_reducible refine gate_callee (f := 20) rfl ?_); refine goesL_ (some 21) rfl rfl Try.func20 (by kernel_rfl) rfl #[.slice A0 l0.length c0, .int .i64 a1] rfl ar_ ?_; (with_reducible refine (linkhouselaw7_fromFault.calls k _ _ l0 a1 t389 t390 _ ?side1 ?side2 A12.out).mono ?_); (case side1 => exact cb_ HR0 HB); (case side2 => exact HC0.out); rintro e w87 ⟨rfl, hb⟩; refine ⟨_, rfl, ?_⟩; have n0_ := Aside0.mk (Kd.R_below (by (with_reducible repeat (first | apply Kd.R_alloc | apply Kd.R_drewN | apply Kd.R_drew)); exact HO381.out) hb); have n1_ := Aside0.mk (blk_below (g := gb384) (o := .cells #[.int .i64 t382, .int .i64 t383] 28 (0, 0)) (bk_ BK384) hb); have n2_ := Aside0.mk (below_step (bw_ HB) hb); clear HO381; clear BK384; clear HB; have HO381 := n0_; have BK384 := n1_; have HB := n2_; clear n0_ n1_ n2_; (try clear hb); (try clear hb2); (try clear hk); (try clear hi)) | ((with_reducible refine gate_dst (N := 7) rfl ?_); (try (refine gate_guard (by rfl) ?_; dsimp only)); refine bx_ (N := 7) (cs := #[.int .i64 0, .int .i64 0]) (t := 28) ?_; intro gb391 hg w88 hbox hb; have n0_ := Aside0.mk (Kd.R_below (by (with_reducible repeat (first | apply Kd.R_alloc | apply Kd.R_drewN | apply Kd.R_drew)); exact HO381.out) hb); have n1_ := Aside0.mk (blk_below (g := gb384) (o := .cells #[.int .i64 t382, .int .i64 t383] 28 (0, 0)) (bk_ BK384) hb); have n2_ := Aside0.mk (below_step (bw_ HB) hb); have n3_ := Aside0.mk (hbox); have n4_ := Aside0.mk ((by rw [hg]; exact (below_size (bw_ HB)) : w.heap.size ≤ gb391)); have n5_ := Aside0.mk ((by rw [hg]; exact (below_size (bw_ HB)) : w.heap.size ≤ gb391)); have n6_ := Aside0.mk ((by rw [hg]; exact Nat.ne_of_lt (blk_lt (g := gb384) (o := .cells #[.int .i64 t382, .int .i64 t383] 28 (0, 0)) (bk_ BK384)) : gb384 ≠ gb391)); have n7_ := Aside0.mk ((by rw [hg]; exact Nat.ne_of_gt (blk_lt (g := gb384) (o := .cells #[.int .i64 t382, .int .i64 t383] 28 (0, 0)) (bk_ BK384)) : gb391 ≠ gb384)); clear HO381; clear BK384; clear HB; have HO381 := n0_; have BK384 := n1_; have HB := n2_; have BK391 := n3_; have GW391 := n4_; have GE391 := n5_; have NB384_391 := n6_; have NB391_384 := n7_; clear n0_ n1_ n2_ n3_ n4_ n5_ n6_ n7_; clear hb hbox hg; have hnb89 := NB391_384.out; have hnc89 := NB384_391.out; obtain ⟨hcz90_0, hcz90_1, hfz90_0, hfz90_1⟩ := cz2_ BK391; obtain ⟨hcz91_0, hcz91_1, hfz91_0, hfz91_1⟩ := cz2_ BK384))
    go_ret
    exact ⟨id_, bw_ HB⟩

end Go.Proofs.Ytaellapacoikaaa.PB
