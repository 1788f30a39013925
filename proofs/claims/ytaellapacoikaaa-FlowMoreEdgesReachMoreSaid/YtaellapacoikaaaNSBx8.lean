import Derived.Test.YtaellapacoikaaaN0
import Derived.Test.YtaellapacoikaaaNSBx0
import Derived.Test.YtaellapacoikaaaNSBx7
namespace Go.Proofs.Ytaellapacoikaaa.PB
open Go.RowKit Go.Proofs.YtaellapacoikaaaW.PrintWords Go.Proofs.YtaellapacoikaaaW.PrintLast Go.Proofs.YtaellapacoikaaaW.PrintMore
attribute [local go_sem] max2_int min2_int max_two min_two max_three min_three max_four min_four   -- for this text's walks alone
set_option linter.unusedVariables false
set_option linter.unusedSimpArgs false

/-! ### linkhouseref7_Reached: function 31 -/
set_option maxRecDepth 100000 in
mutual
def linkhouseref7_Reached.l0 : Nat → List (S62) → Int → List Bool → Int → Option (List Bool)
 | 0, _, _, _, _ => none
 | k + 1, x0, x2, x7, x8 => if x8 < (x0.length : Int) then (linkhouseref7_Reached.l1 k x0 x2 x7 x8 0) else (some x7)
def linkhouseref7_Reached.l1 : Nat → List (S62) → Int → List Bool → Int → Int → Option (List Bool)
 | 0, _, _, _, _, _ => none
 | k + 1, x0, x2, x7, x8, x9 => if x9 < (x0.length : Int) then (linkhouseref7_Reached.l2 k x0 x2 x7 x8 x9 0) else (linkhouseref7_Reached.l0 k x0 x2 x7 (wrap64 (x8 + 1)))
def linkhouseref7_Reached.l2 : Nat → List (S62) → Int → List Bool → Int → Int → Int → Option (List Bool)
 | 0, _, _, _, _, _, _ => none
 | k + 1, x0, x2, x7, x8, x9, x10 => if x10 < (x0.length : Int) then (if 0 ≤ x9 then (if x9 < (x7.length : Int) then (linkhouseref7_Reached.j3 k x0 x2 x7 x8 x9 x10 (rdOf false x7 x9)) else (none)) else (none)) else (linkhouseref7_Reached.j3 k x0 x2 x7 x8 x9 x10 false)
def linkhouseref7_Reached.j3 : Nat → List (S62) → Int → List Bool → Int → Int → Int → Bool → Option (List Bool)
 | 0, _, _, _, _, _, _, _ => none
 | k + 1, x0, x2, x7, x8, x9, x10, x42 => if x42 = true then (if x10 = x2 then (linkhouseref7_Reached.l2 k x0 x2 x7 x8 x9 (wrap64 (x10 + 1))) else ((linkhouseref7_Leads.f k x0 x9 x10).bind fun t273 => (if t273 = true then (if 0 ≤ x10 then (if x10 < (x7.length : Int) then (linkhouseref7_Reached.l2 k x0 x2 (x7.set (x10 : Int).toNat true) x8 x9 (wrap64 (x10 + 1))) else (none)) else (none)) else (linkhouseref7_Reached.l2 k x0 x2 x7 x8 x9 (wrap64 (x10 + 1)))))) else (linkhouseref7_Reached.l1 k x0 x2 x7 x8 (wrap64 (x9 + 1)))
end
set_option maxRecDepth 100000 in
def linkhouseref7_Reached.f (k : Nat) (l0 : List (S62)) (a1 : Int) (a2 : Int) : Option (List Bool) := if 0 ≤ (l0.length : Int) then (if ((l0.length : Int) : Int).toNat ≤ 281474976710656 then ((some (List.replicate ((l0.length : Int) : Int).toNat false : List Bool)).bind fun y268 => (if a1 = a2 then (some y268) else (if 0 ≤ a1 then (if a1 < (y268.length : Int) then (linkhouseref7_Reached.l0 k l0 a2 (y268.set (a1 : Int).toNat true) 0) else (none)) else (none)))) else (none)) else (none)
set_option maxRecDepth 100000 in
theorem linkhouseref7_Reached.mono_l : ∀ k, (∀ y0 y1 y2 y3, LeO (linkhouseref7_Reached.l0 k y0 y1 y2 y3) (linkhouseref7_Reached.l0 (k + 1) y0 y1 y2 y3)) ∧ (∀ y0 y1 y2 y3 y4, LeO (linkhouseref7_Reached.l1 k y0 y1 y2 y3 y4) (linkhouseref7_Reached.l1 (k + 1) y0 y1 y2 y3 y4)) ∧ (∀ y0 y1 y2 y3 y4 y5, LeO (linkhouseref7_Reached.l2 k y0 y1 y2 y3 y4 y5) (linkhouseref7_Reached.l2 (k + 1) y0 y1 y2 y3 y4 y5)) ∧ (∀ y0 y1 y2 y3 y4 y5 y6, LeO (linkhouseref7_Reached.j3 k y0 y1 y2 y3 y4 y5 y6) (linkhouseref7_Reached.j3 (k + 1) y0 y1 y2 y3 y4 y5 y6))
 | 0 => ⟨fun _ _ _ _ r h => by simp [linkhouseref7_Reached.l0] at h, fun _ _ _ _ _ r h => by simp [linkhouseref7_Reached.l1] at h, fun _ _ _ _ _ _ r h => by simp [linkhouseref7_Reached.l2] at h, fun _ _ _ _ _ _ _ r h => by simp [linkhouseref7_Reached.j3] at h⟩
 | k + 1 => by
  obtain ⟨ih0, ih1, ih2, ih3⟩ := linkhouseref7_Reached.mono_l k
  refine ⟨?_, ?_, ?_, ?_⟩
  ·
   intro y0 y1 y2 y3
   unfold linkhouseref7_Reached.l0
   repeat' first
   | (with_reducible exact ih0 _ _ _ _)
   | (with_reducible exact ih1 _ _ _ _ _)
   | (with_reducible exact ih2 _ _ _ _ _ _)
   | (with_reducible exact ih3 _ _ _ _ _ _ _)
   | (with_reducible exact linkhouseref7_Leads.mono _ _ _ _)
   | (with_reducible exact LeO.refl _)
   | (with_reducible exact LeO.none _)
   | (with_reducible refine LeO.ite ?_ ?_)
   | (with_reducible refine LeO.bind ?_ (fun _ => ?_))
   | exact ih0 _ _ _ _
   | exact ih1 _ _ _ _ _
   | exact ih2 _ _ _ _ _ _
   | exact ih3 _ _ _ _ _ _ _
   | exact linkhouseref7_Leads.mono _ _ _ _
   | exact LeO.none _
   | refine LeO.ite ?_ ?_
   | refine LeO.bind ?_ (fun _ => ?_)
  ·
   intro y0 y1 y2 y3 y4
   unfold linkhouseref7_Reached.l1
   repeat' first
   | (with_reducible exact ih0 _ _ _ _)
   | (with_reducible exact ih1 _ _ _ _ _)
   | (with_reducible exact ih2 _ _ _ _ _ _)
   | (with_reducible exact ih3 _ _ _ _ _ _ _)
   | (with_reducible exact linkhouseref7_Leads.mono _ _ _ _)
   | (with_reducible exact LeO.refl _)
   | (with_reducible exact LeO.none _)
   | (with_reducible refine LeO.ite ?_ ?_)
   | (with_reducible refine LeO.bind ?_ (fun _ => ?_))
   | exact ih0 _ _ _ _
   | exact ih1 _ _ _ _ _
   | exact ih2 _ _ _ _ _ _
   | exact ih3 _ _ _ _ _ _ _
   | exact linkhouseref7_Leads.mono _ _ _ _
   | exact LeO.none _
   | refine LeO.ite ?_ ?_
   | refine LeO.bind ?_ (fun _ => ?_)
  ·
   intro y0 y1 y2 y3 y4 y5
   unfold linkhouseref7_Reached.l2
   repeat' first
   | (with_reducible exact ih0 _ _ _ _)
   | (with_reducible exact ih1 _ _ _ _ _)
   | (with_reducible exact ih2 _ _ _ _ _ _)
   | (with_reducible exact ih3 _ _ _ _ _ _ _)
   | (with_reducible exact linkhouseref7_Leads.mono _ _ _ _)
   | (with_reducible exact LeO.refl _)
   | (with_reducible exact LeO.none _)
   | (with_reducible refine LeO.ite ?_ ?_)
   | (with_reducible refine LeO.bind ?_ (fun _ => ?_))
   | exact ih0 _ _ _ _
   | exact ih1 _ _ _ _ _
   | exact ih2 _ _ _ _ _ _
   | exact ih3 _ _ _ _ _ _ _
   | exact linkhouseref7_Leads.mono _ _ _ _
   | exact LeO.none _
   | refine LeO.ite ?_ ?_
   | refine LeO.bind ?_ (fun _ => ?_)
  ·
   intro y0 y1 y2 y3 y4 y5 y6
   unfold linkhouseref7_Reached.j3
   repeat' first
   | (with_reducible exact ih0 _ _ _ _)
   | (with_reducible exact ih1 _ _ _ _ _)
   | (with_reducible exact ih2 _ _ _ _ _ _)
   | (with_reducible exact ih3 _ _ _ _ _ _ _)
   | (with_reducible exact linkhouseref7_Leads.mono _ _ _ _)
   | (with_reducible exact LeO.refl _)
   | (with_reducible exact LeO.none _)
   | (with_reducible refine LeO.ite ?_ ?_)
   | (with_reducible refine LeO.bind ?_ (fun _ => ?_))
   | exact ih0 _ _ _ _
   | exact ih1 _ _ _ _ _
   | exact ih2 _ _ _ _ _ _
   | exact ih3 _ _ _ _ _ _ _
   | exact linkhouseref7_Leads.mono _ _ _ _
   | exact LeO.none _
   | refine LeO.ite ?_ ?_
   | refine LeO.bind ?_ (fun _ => ?_)
set_option maxRecDepth 100000 in
theorem linkhouseref7_Reached.mono : ∀ a0 a1 a2 k, LeO (linkhouseref7_Reached.f k a0 a1 a2) (linkhouseref7_Reached.f (k + 1) a0 a1 a2) := by
 intro a0 a1 a2 k
 obtain ⟨ih0, ih1, ih2, ih3⟩ := linkhouseref7_Reached.mono_l k
 unfold linkhouseref7_Reached.f
 repeat' first
   | (with_reducible exact ih0 _ _ _ _)
   | (with_reducible exact ih1 _ _ _ _ _)
   | (with_reducible exact ih2 _ _ _ _ _ _)
   | (with_reducible exact ih3 _ _ _ _ _ _ _)
   | (with_reducible exact linkhouseref7_Leads.mono _ _ _ _)
   | (with_reducible exact LeO.refl _)
   | (with_reducible exact LeO.none _)
   | (with_reducible refine LeO.ite ?_ ?_)
   | (with_reducible refine LeO.bind ?_ (fun _ => ?_))
   | exact ih0 _ _ _ _
   | exact ih1 _ _ _ _ _
   | exact ih2 _ _ _ _ _ _
   | exact ih3 _ _ _ _ _ _ _
   | exact linkhouseref7_Leads.mono _ _ _ _
   | exact LeO.none _
   | refine LeO.ite ?_ ?_
   | refine LeO.bind ?_ (fun _ => ?_)
set_option maxHeartbeats 8000000 in
set_option maxRecDepth 100000 in
theorem linkhouseref7_Reached.calls (k : Nat) (A0 : Option Addr) (c0 : Nat) (l0 : List (S62)) (a1 : Int) (a2 : Int) (r : List Bool) (w : World) (hr0 : Kd.C k62 w A0 l0.length l0) (hc0 : l0.length ≤ c0) (h : linkhouseref7_Reached.f k l0 a1 a2 = some r) :
  Calls Try.prog 31 #[.slice A0 l0.length c0, .int .i64 a1, .int .i64 a2] w fun e w' => ∃ v0_ : Value, e = .returned (v0_) ∧ Kd.R Kd.bool 4 w' w.heap.size (fun _ => True) v0_ r ∧ Below w.heap.size w w' := by
 have HR0 := Aside0.mk hr0
 have HC0 := Aside0.mk hc0
 clear hr0 hc0
 have HB := Aside0.mk (Below.refl w.heap.size w)
 have H : (if 0 ≤ (l0.length : Int) then (if ((l0.length : Int) : Int).toNat ≤ 281474976710656 then ((some (List.replicate ((l0.length : Int) : Int).toNat false : List Bool)).bind fun y268 => (if a1 = a2 then (some y268) else (if 0 ≤ a1 then (if a1 < (y268.length : Int) then (linkhouseref7_Reached.l0 k l0 a2 (y268.set (a1 : Int).toNat true) 0) else (none)) else (none)))) else (none)) else (none)) = some r := h
 clear h
 by_cases c4 : 0 ≤ (l0.length : Int)
 ·
  rw [if_pos c4] at H
  have c4b0 := eq_true c4
  have c4b1 : decide (0 ≤ (l0.length : Int)) = true := decide_eq_true c4
  clear c4
  by_cases c5 : ((l0.length : Int) : Int).toNat ≤ 281474976710656
  ·
   rw [if_pos c5] at H
   have c5b0 := eq_true c5
   have c5b1 : decide (((l0.length : Int) : Int).toNat ≤ 281474976710656) = true := decide_eq_true c5
   clear c5
   obtain ⟨y268, hy268⟩ : ∃ y_ : List Bool, y_ = (List.replicate ((l0.length : Int) : Int).toNat false) := ⟨_, rfl⟩
   replace H : (if a1 = a2 then (some y268) else (if 0 ≤ a1 then (if a1 < (y268.length : Int) then (linkhouseref7_Reached.l0 k l0 a2 (y268.set (a1 : Int).toNat true) 0) else (none)) else (none))) = some r := by first | (rw [hy268]; with_reducible exact H) | (have H2_ := (Option.bind_some _ _).symm.trans H; rw [hy268]; with_reducible exact H2_) | (have H2_ := (Option.bind_some _ _).symm.trans H; with_reducible exact H2_) | with_reducible exact H | (rw [hy268]; exact H) | exact H
   have Ny268 := Aside0.mk hy268
   clear hy268
   by_cases c6 : a1 = a2
   ·
    rw [if_pos c6] at H
    have c6b0 : (a1 == a2) = true := beq_iff_eq.mpr c6
    have c6b1 : (a1 != a2) = false := bne_eq_false_iff_eq.mpr c6
    clear c6
    obtain rfl := Option.some.inj H
    go_enter Try.func31, Try.ntmps31
    go_wp2_with (first | ((with_reducible refine gate_dst (N := 13) rfl ?_); refine Kd.R_make Kd.bool _ 4 rfl (N := 13) rfl 54 _ _ rfl (l0.length : Int) rfl rfl Try.underlying54 (.bool false) 1 info4 rfl (by decide) (by omega) false (ok := fun _ => True) (okp := fun _ => True) rfl (fun _ hk => hk) trivial (of_decide_eq_true (by first | (with_reducible assumption) | assumption)) (Nat.le_trans (Nat.mul_le_mul_right _ (of_decide_eq_true (by first | (with_reducible assumption) | assumption) : (l0.length : Int).toNat ≤ 281474976710656)) (by omega)) (Below.refl _ _) (Nat.le_refl _) ?_; intro v269 w7 ho8 hb hg_ hnew_; clear hg_ hnew_; (first | rw [← Ny268.out] at ho8 | (simp only [Int.reduceToNat] at ho8; rw [← Ny268.out] at ho8)); have n0_ := Aside0.mk (Kd.R_lower ho8 (below_size (bw_ HB))); have n1_ := Aside0.mk (below_step (bw_ HB) hb); clear HB; have HO270 := n0_; have HB := n1_; clear n0_ n1_; clear hb ho8))
    go_ret
    exact ⟨_, by first | rfl | (simp [errW_none, errW_some] <;> rfl) | (simp [*, errW_none, errW_some] <;> rfl), by (with_reducible repeat (first | apply Kd.R_alloc | apply Kd.R_drewN | apply Kd.R_drew)); exact HO270.out, bw_ HB⟩
   ·
    rw [if_neg c6] at H
    have c6b0 : (a1 == a2) = false := beq_eq_false_iff_ne.mpr c6
    have c6b1 : (a1 != a2) = true := bne_iff_ne.mpr c6
    by_cases c9 : 0 ≤ a1
    ·
     rw [if_pos c9] at H
     have c9b0 : decide (0 ≤ a1) = true := decide_eq_true c9
     clear c9
     by_cases c10 : a1 < (y268.length : Int)
     ·
      rw [if_pos c10] at H
      have c10b0 : decide (a1 < (y268.length : Int)) = true := decide_eq_true c10
      clear c10
      obtain ⟨y271, hy271⟩ : ∃ y_ : List Bool, y_ = (y268.set (a1 : Int).toNat true) := ⟨_, rfl⟩
      replace H : (linkhouseref7_Reached.l0 k l0 a2 y271 0) = some r := by first | (rw [hy271]; with_reducible exact H) | (have H2_ := (Option.bind_some _ _).symm.trans H; rw [hy271]; with_reducible exact H2_) | (have H2_ := (Option.bind_some _ _).symm.trans H; with_reducible exact H2_) | with_reducible exact H | (rw [hy271]; exact H) | exact H
      have Ny271 := Aside0.mk hy271
      clear hy271
      have H' := Aside0.mk H
      clear H
      go_enter Try.func31, Try.ntmps31
      go_wp2_with (first | ((with_reducible refine gate_dst (N := 13) rfl ?_); refine Kd.R_make Kd.bool _ 4 rfl (N := 13) rfl 54 _ _ rfl (l0.length : Int) rfl rfl Try.underlying54 (.bool false) 1 info4 rfl (by decide) (by omega) false (ok := fun _ => True) (okp := fun _ => True) rfl (fun _ hk => hk) trivial (of_decide_eq_true (by first | (with_reducible assumption) | assumption)) (Nat.le_trans (Nat.mul_le_mul_right _ (of_decide_eq_true (by first | (with_reducible assumption) | assumption) : (l0.length : Int).toNat ≤ 281474976710656)) (by omega)) (Below.refl _ _) (Nat.le_refl _) ?_; intro v269 w12 ho13 hb hg_ hnew_; clear hg_ hnew_; (first | rw [← Ny268.out] at ho13 | (simp only [Int.reduceToNat] at ho13; rw [← Ny268.out] at ho13)); have n0_ := Aside0.mk (Kd.R_lower ho13 (below_size (bw_ HB))); have n1_ := Aside0.mk (below_step (bw_ HB) hb); clear HB; have HO270 := n0_; have HB := n1_; clear n0_ n1_; clear hb ho13; have p11 : 0 ≤ (a1 : Int) := of_decide_eq_true (by first | (with_reducible assumption) | assumption); have q11 : (a1 : Int) < ((y268.length : Int) : Int) := of_decide_eq_true (by first | (with_reducible assumption) | assumption); obtain ⟨go11, co11, eo11, gb11, gl11, cl11, HG11⟩ := Kd.R_form HO270.out (by omega); (first | cases eo11 | (injection eo11 with ea_ en_ ec_; (first | subst ea_ | (injection ea_ with ea_; subst ea_)); subst ec_; clear en_)); have GB11 := Aside0.mk gb11; have GG11 := Aside0.mk HG11; clear gb11 gl11 HG11; obtain ⟨hx11_0, hf11_0⟩ := Kd.R_celln false HO270.out (a1 : Int) p11 q11; replace p11 := eq_true p11; replace q11 := eq_true q11; obtain ⟨hy14_, hz14_⟩ := Kd.R_celln false HO270.out (a1 : Int) (of_decide_eq_true (by first | (with_reducible assumption) | assumption)) (of_decide_eq_true (by first | (with_reducible assumption) | assumption)); have HP14 := Kd.R_putg HO270.out (a1 : Int) true) | ((with_reducible refine gate_store (t := 4) (p := 20) rfl ?_); refine store_event (t := 4) (p := 20) (v := ?vo_w15) (w1 := (w12.setCell ⟨go11, (a1 : Int).toNat, none⟩ (.bool true))) ?hg ?ho ?hn ?hr ?_; (case ho => rfl); (case hg => rfl); (case hn => rfl); (case hr => first | (go_simp; done) | (go_simp; rfl)); intro w15 hw; have hg : w12.grownBy w15 (some go11) := (by rw [hw]; exact HP14.2); have hp_ : Kd.R Kd.bool 4 w15 w.heap.size (fun _ => True) (.slice (some ⟨go11, 0, none⟩) y268.length co11) y271 := (by rw [hw, Ny271.out]; exact HP14.1); clear HP14; have n0_ := Aside0.mk (hp_); have n1_ := Aside0.mk ((by rw [hw]; exact below_set (HB.out) GB11.out : Below w.heap.size w w15)); clear HO270; clear HB; have HO270 := n0_; have HB := n1_; clear n0_ n1_; clear hg hw hp_))
      go_loopg [8] k (fun kq v8 w' => ∃ (x7_1 : List Bool) (x8_1 : Int), v8 = .int .i64 x8_1 ∧ Aside0 (linkhouseref7_Reached.l0 kq l0 a2 x7_1 x8_1 = some r) ∧ Aside0 (kq ≤ k) ∧ Aside0 (Kd.R Kd.bool 4 w' w.heap.size (fun _ => True) (.slice (some ⟨go11, 0, none⟩) y268.length co11) x7_1) ∧ Aside0 (Below w.heap.size w w'))
      case atStart => exact ⟨(y271), (0), rs_, H', ⟨Nat.le_refl _⟩, ⟨by (with_reducible repeat (first | apply Kd.R_alloc | apply Kd.R_drewN | apply Kd.R_drew)); exact HO270.out⟩, ⟨bw_ HB⟩⟩
      case round =>
       clear H'
       (try clear c1); (try clear p1); (try clear q1); (try clear hx1); (try clear p2); (try clear c3); (try clear c4); (try clear c4b0); (try clear c4b1); (try clear c5); (try clear c5b0); (try clear c5b1); (try clear c6); (try clear c6b0); (try clear c6b1); (try clear c9); (try clear c9b0); (try clear c10); (try clear c10b0); (try clear p11); (try clear q11); (try clear hx11); (try clear hf11); (try clear hx11_0); (try clear p11); (try clear q11)
       obtain ⟨x7_1, x8_1, rfl, HA, HK1, HO_7, HB⟩ := hrel
       have hl7_1 := (Kd.R_reads' HO_7.out).1
       rw [hl7_1] at HO_7
       (try simp only [hl7_1])
       cases gk with
       | zero => exact absurd HA.out (by simp [linkhouseref7_Reached.l0])
       | succ k1 =>
        have H := HA.out
        clear HA
        simp only [linkhouseref7_Reached.l0] at H
        by_cases c16 : x8_1 < (l0.length : Int)
        ·
         rw [if_pos c16] at H
         have c16b0 : decide (x8_1 < (l0.length : Int)) = true := decide_eq_true c16
         clear c16
         have H' := Aside0.mk H
         clear H
         go_wp2
         go_loopg [9] k1 (fun kq v9 w' => ∃ (x7_2 : List Bool) (x9_2 : Int), v9 = .int .i64 x9_2 ∧ Aside0 (linkhouseref7_Reached.l1 kq l0 a2 x7_2 x8_1 x9_2 = some r) ∧ Aside0 (kq ≤ k1) ∧ Aside0 (Kd.R Kd.bool 4 w' w.heap.size (fun _ => True) (.slice (some ⟨go11, 0, none⟩) x7_1.length co11) x7_2) ∧ Aside0 (Below w.heap.size w w'))
         case atStart => exact ⟨(x7_1), (0), rs_, H', ⟨Nat.le_refl _⟩, ⟨by (try simp only [hl7_1]); (with_reducible repeat (first | apply Kd.R_alloc | apply Kd.R_drewN | apply Kd.R_drew)); exact HO_7.out⟩, ⟨bw_ HB⟩⟩
         case round =>
          clear H'
          (try clear c1); (try clear p1); (try clear q1); (try clear hx1); (try clear p2); (try clear c3); (try clear c4); (try clear c4b0); (try clear c4b1); (try clear c5); (try clear c5b0); (try clear c5b1); (try clear c6); (try clear c6b0); (try clear c6b1); (try clear c9); (try clear c9b0); (try clear c10); (try clear c10b0); (try clear p11); (try clear q11); (try clear hx11); (try clear hf11); (try clear c16); (try clear c16b0); (try clear hx11_0); (try clear p1); (try clear p11); (try clear p2); (try clear q1); (try clear q11)
          obtain ⟨x7_2, x9_2, rfl, HA, HK2, HO_7, HB⟩ := hrel
          have hl7_2 := (Kd.R_reads' HO_7.out).1
          rw [hl7_2] at HO_7
          (try simp only [hl7_2])
          cases gk with
          | zero => exact absurd HA.out (by simp [linkhouseref7_Reached.l1])
          | succ k2 =>
           have H := HA.out
           clear HA
           simp only [linkhouseref7_Reached.l1] at H
           by_cases c17 : x9_2 < (l0.length : Int)
           ·
            rw [if_pos c17] at H
            have c17b0 : decide (x9_2 < (l0.length : Int)) = true := decide_eq_true c17
            clear c17
            have H' := Aside0.mk H
            clear H
            go_wp2
            go_loopg [10] k2 (fun kq v10 w' => ∃ (x7_3 : List Bool) (x10_3 : Int), v10 = .int .i64 x10_3 ∧ Aside0 (linkhouseref7_Reached.l2 kq l0 a2 x7_3 x8_1 x9_2 x10_3 = some r) ∧ Aside0 (kq ≤ k2) ∧ Aside0 (Kd.R Kd.bool 4 w' w.heap.size (fun _ => True) (.slice (some ⟨go11, 0, none⟩) x7_2.length co11) x7_3) ∧ Aside0 (Below w.heap.size w w'))
            case atStart => exact ⟨(x7_2), (0), rs_, H', ⟨Nat.le_refl _⟩, ⟨by (try simp only [hl7_1]); (try simp only [hl7_2]); (with_reducible repeat (first | apply Kd.R_alloc | apply Kd.R_drewN | apply Kd.R_drew)); exact HO_7.out⟩, ⟨bw_ HB⟩⟩
            case round =>
             clear H'
             (try clear c1); (try clear p1); (try clear q1); (try clear hx1); (try clear p2); (try clear c3); (try clear c4); (try clear c4b0); (try clear c4b1); (try clear c5); (try clear c5b0); (try clear c5b1); (try clear c6); (try clear c6b0); (try clear c6b1); (try clear c9); (try clear c9b0); (try clear c10); (try clear c10b0); (try clear p11); (try clear q11); (try clear hx11); (try clear hf11); (try clear c16); (try clear c16b0); (try clear c17); (try clear c17b0); (try clear hx11_0); (try clear p1); (try clear p11); (try clear p2); (try clear q1); (try clear q11)
             obtain ⟨x7_3, x10_3, rfl, HA, HK3, HO_7, HB⟩ := hrel
             have hl7_3 := (Kd.R_reads' HO_7.out).1
             rw [hl7_3] at HO_7
             (try simp only [hl7_3])
             cases gk with
             | zero => exact absurd HA.out (by simp [linkhouseref7_Reached.l2])
             | succ k3 =>
              have H := HA.out
              clear HA
              simp only [linkhouseref7_Reached.l2] at H
              have HC18 := Aside0.mk H
              clear H
              go_upto_region 12 with (fail)
              go_cut [42] (fun v42 wc => ∃ (kq : Nat) (x42_17 : Bool), v42 = .bool x42_17 ∧ Aside0 (linkhouseref7_Reached.j3 kq l0 a2 x7_3 x8_1 x9_2 x10_3 x42_17 = some r) ∧ Aside0 (kq ≤ k3) ∧ Aside0 (Kd.R Kd.bool 4 wc w.heap.size (fun _ => True) (.slice (some ⟨go11, 0, none⟩) x7_3.length co11) x7_3) ∧ Aside0 (Below w.heap.size w wc))
              case first =>
               have H := HC18.out
               clear HC18
               by_cases c19 : x10_3 < (l0.length : Int)
               ·
                rw [if_pos c19] at H
                have c19b0 : decide (x10_3 < (l0.length : Int)) = true := decide_eq_true c19
                clear c19
                (first | rw [c19b0] | (simp only [i64_w, i32_w]; rw [c19b0]) | skip)
                by_cases c20 : 0 ≤ x9_2
                ·
                 rw [if_pos c20] at H
                 have c20b0 : decide (0 ≤ x9_2) = true := decide_eq_true c20
                 clear c20
                 by_cases c21 : x9_2 < (x7_3.length : Int)
                 ·
                  rw [if_pos c21] at H
                  have c21b0 : decide (x9_2 < (x7_3.length : Int)) = true := decide_eq_true c21
                  clear c21
                  have H' := Aside0.mk H
                  clear H
                  have p272 : 0 ≤ (x9_2 : Int) := of_decide_eq_true (by first | (with_reducible assumption) | assumption)
                  have q272 : x9_2 < (x7_3.length : Int) := of_decide_eq_true (by first | (with_reducible assumption) | assumption)
                  obtain ⟨ad272, e272, hx272_0⟩ := Kd.at_bool (Kd.R_reads' HO_7.out).2.2 x9_2 p272 q272
                  obtain rfl : (⟨go11, 0, none⟩ : Addr) = ad272 := (by injection e272)
                  (first | simp only [add_plain] at hx272_0 | simp only [add_at] at hx272_0 | simp only [Addr.add, Nat.zero_add] at hx272_0 | skip)
                  replace p272 := eq_true p272
                  replace q272 := eq_true q272
                  go_wp2
                  go_meet
                  case rel => exact ⟨_, (rdOf false x7_3 x9_2), rs_, H', ⟨by have := HK1.out; have := HK2.out; have := HK3.out; first | omega | exact Nat.le_refl _⟩, ⟨by (try simp only [hl7_1]); (try simp only [hl7_2]); (try simp only [hl7_3]); (with_reducible repeat (first | apply Kd.R_alloc | apply Kd.R_drewN | apply Kd.R_drew)); exact HO_7.out⟩, ⟨bw_ HB⟩⟩
                 ·
                  rw [if_neg c21] at H
                  exact absurd H (by simp)
                ·
                 rw [if_neg c20] at H
                 exact absurd H (by simp)
               ·
                rw [if_neg c19] at H
                have c19b0 : decide (x10_3 < (l0.length : Int)) = false := decide_eq_false c19
                clear c19
                (first | rw [c19b0] | (simp only [i64_w, i32_w]; rw [c19b0]) | skip)
                have H' := Aside0.mk H
                clear H
                go_wp2
                go_meet
                case rel => exact ⟨_, (false), rs_, H', ⟨by have := HK1.out; have := HK2.out; have := HK3.out; first | omega | exact Nat.le_refl _⟩, ⟨by (try simp only [hl7_1]); (try simp only [hl7_2]); (try simp only [hl7_3]); (with_reducible repeat (first | apply Kd.R_alloc | apply Kd.R_drewN | apply Kd.R_drew)); exact HO_7.out⟩, ⟨bw_ HB⟩⟩
              case rest =>
               clear HC18
               (try clear c1); (try clear p1); (try clear q1); (try clear hx1); (try clear c2); (try clear p2); (try clear q2); (try clear hx2); (try clear c3); (try clear c4); (try clear c4b0); (try clear c4b1); (try clear c5); (try clear c5b0); (try clear c5b1); (try clear c6); (try clear c6b0); (try clear c6b1); (try clear c9); (try clear c9b0); (try clear c10); (try clear c10b0); (try clear p11); (try clear q11); (try clear hx11); (try clear hf11); (try clear c16); (try clear c16b0); (try clear c17); (try clear c17b0); (try clear c19); (try clear c19b0); (try clear c20); (try clear c20b0); (try clear c21); (try clear c21b0); (try clear hx11_0); (try clear hx272_0); (try clear p1); (try clear p11); (try clear p2); (try clear p272); (try clear q1); (try clear q11); (try clear q272)
               obtain ⟨kq, x42_17, rfl, HA, HJ17, HO_7, HB⟩ := hcut
               cases kq with
               | zero => exact absurd HA.out (by simp [linkhouseref7_Reached.j3])
               | succ kj17 =>
                have H := HA.out
                clear HA
                simp only [linkhouseref7_Reached.j3] at H
                by_cases c22 : x42_17 = true
                ·
                 subst c22
                 have H1 : (if x10_3 = a2 then (linkhouseref7_Reached.l2 kj17 l0 a2 x7_3 x8_1 x9_2 (wrap64 (x10_3 + 1))) else ((linkhouseref7_Leads.f kj17 l0 x9_2 x10_3).bind fun t273 => (if t273 = true then (if 0 ≤ x10_3 then (if x10_3 < (x7_3.length : Int) then (linkhouseref7_Reached.l2 kj17 l0 a2 (x7_3.set (x10_3 : Int).toNat true) x8_1 x9_2 (wrap64 (x10_3 + 1))) else (none)) else (none)) else (linkhouseref7_Reached.l2 kj17 l0 a2 x7_3 x8_1 x9_2 (wrap64 (x10_3 + 1)))))) = some r := by rw [if_pos rfl] at H; exact H
                 clear H
                 have H := H1
                 clear H1
                 by_cases c23 : x10_3 = a2
                 ·
                  rw [if_pos c23] at H
                  have c23b0 : (x10_3 == a2) = true := beq_iff_eq.mpr c23
                  have c23b1 : (x10_3 != a2) = false := bne_eq_false_iff_eq.mpr c23
                  clear c23
                  have H' := Aside0.mk H
                  clear H
                  go_wp2
                  (try simp only [← hl7_3])
                  go_roundg kj17
                  case measure => have := HK1.out; have := HK2.out; have := HK3.out; have := HJ17.out; omega
                  case rel => exact ⟨(x7_3), (wrap64 (x10_3 + 1)), rs_, H', ⟨by have := HK1.out; have := HK2.out; have := HK3.out; have := HJ17.out; omega⟩, ⟨by (try simp only [hl7_1]); (try simp only [hl7_2]); (try simp only [hl7_3]); (with_reducible repeat (first | apply Kd.R_alloc | apply Kd.R_drewN | apply Kd.R_drew)); exact HO_7.out⟩, ⟨bw_ HB⟩⟩
                 ·
                  rw [if_neg c23] at H
                  have c23b0 : (x10_3 == a2) = false := beq_eq_false_iff_ne.mpr c23
                  have c23b1 : (x10_3 != a2) = true := bne_iff_ne.mpr c23
                  replace H := Option.bind_eq_some_iff.mp H
                  obtain ⟨t273, A240, H⟩ := H
                  replace H : (if t273 = true then (if 0 ≤ x10_3 then (if x10_3 < (x7_3.length : Int) then (linkhouseref7_Reached.l2 kj17 l0 a2 (x7_3.set (x10_3 : Int).toNat true) x8_1 x9_2 (wrap64 (x10_3 + 1))) else (none)) else (none)) else (linkhouseref7_Reached.l2 kj17 l0 a2 x7_3 x8_1 x9_2 (wrap64 (x10_3 + 1)))) = some r := H
                  have A24 := Aside0.mk A240
                  clear A240
                  by_cases c25 : t273 = true
                  ·
                   subst c25
                   have H1 : (if 0 ≤ x10_3 then (if x10_3 < (x7_3.length : Int) then (linkhouseref7_Reached.l2 kj17 l0 a2 (x7_3.set (x10_3 : Int).toNat true) x8_1 x9_2 (wrap64 (x10_3 + 1))) else (none)) else (none)) = some r := by rw [if_pos rfl] at H; exact H
                   clear H
                   have H := H1
                   clear H1
                   by_cases c26 : 0 ≤ x10_3
                   ·
                    rw [if_pos c26] at H
                    have c26b0 : decide (0 ≤ x10_3) = true := decide_eq_true c26
                    clear c26
                    by_cases c27 : x10_3 < (x7_3.length : Int)
                    ·
                     rw [if_pos c27] at H
                     have c27b0 : decide (x10_3 < (x7_3.length : Int)) = true := decide_eq_true c27
                     clear c27
                     obtain ⟨y274, hy274⟩ : ∃ y_ : List Bool, y_ = (x7_3.set (x10_3 : Int).toNat true) := ⟨_, rfl⟩
                     replace H : (linkhouseref7_Reached.l2 kj17 l0 a2 y274 x8_1 x9_2 (wrap64 (x10_3 + 1))) = some r := by first | (rw [hy274]; with_reducible exact H) | (have H2_ := (Option.bind_some _ _).symm.trans H; rw [hy274]; with_reducible exact H2_) | (have H2_ := (Option.bind_some _ _).symm.trans H; with_reducible exact H2_) | with_reducible exact H | (rw [hy274]; exact H) | exact H
                     have Ny274 := Aside0.mk hy274
                     clear hy274
                     have H' := Aside0.mk H
                     clear H
                     go_wp2_with (first | (go_at_call 49; (with_reducible refine (linkhouseref7_Leads.calls kj17 _ _ l0 x9_2 x10_3 true _ ?side1 ?side2 A24.out).mono ?_); (case side1 => exact cb_ HR0 HB); (case side2 => exact HC0.out); rintro e w29 ⟨rfl, hb⟩; have n0_ := Aside0.mk (Kd.R_below (by (with_reducible repeat (first | apply Kd.R_alloc | apply Kd.R_drewN | apply Kd.R_drew)); exact HO_7.out) hb); have n1_ := Aside0.mk (below_step (bw_ HB) hb); clear HO_7; clear HB; have HO_7 := n0_; have HB := n1_; clear n0_ n1_; (try clear hb); (try clear hb2); (try clear hk); (try clear hi); have p28 : 0 ≤ (x10_3 : Int) := of_decide_eq_true (by first | (with_reducible assumption) | assumption); have q28 : (x10_3 : Int) < ((x7_3.length : Int) : Int) := of_decide_eq_true (by first | (with_reducible assumption) | assumption); obtain ⟨hx28_0, hf28_0⟩ := Kd.R_celln false HO_7.out (x10_3 : Int) p28 q28; replace p28 := eq_true p28; replace q28 := eq_true q28; obtain ⟨hy30_, hz30_⟩ := Kd.R_celln false HO_7.out (x10_3 : Int) (of_decide_eq_true (by first | (with_reducible assumption) | assumption)) (of_decide_eq_true (by first | (with_reducible assumption) | assumption)); have HP30 := Kd.R_putg HO_7.out (x10_3 : Int) true) | ((with_reducible refine gate_store (t := 4) (p := 56) rfl ?_); refine store_event (t := 4) (p := 56) (v := ?vo_w31) (w1 := (w29.setCell ⟨go11, (x10_3 : Int).toNat, none⟩ (.bool true))) ?hg ?ho ?hn ?hr ?_; (case ho => rfl); (case hg => rfl); (case hn => rfl); (case hr => first | (go_simp; done) | (go_simp; rfl)); intro w31 hw; have hg : w29.grownBy w31 (some go11) := (by rw [hw]; exact HP30.2); have hp_ : Kd.R Kd.bool 4 w31 w.heap.size (fun _ => True) (.slice (some ⟨go11, 0, none⟩) x7_3.length co11) y274 := (by rw [hw, Ny274.out]; exact HP30.1); clear HP30; have n0_ := Aside0.mk (hp_); have n1_ := Aside0.mk ((by rw [hw]; exact below_set (HB.out) GB11.out : Below w.heap.size w w31)); clear HO_7; clear HB; have HO_7 := n0_; have HB := n1_; clear n0_ n1_; clear hg hw hp_))
                     (try simp only [← hl7_3])
                     go_roundg kj17
                     case measure => have := HK1.out; have := HK2.out; have := HK3.out; have := HJ17.out; omega
                     case rel => exact ⟨(y274), (wrap64 (x10_3 + 1)), rs_, H', ⟨by have := HK1.out; have := HK2.out; have := HK3.out; have := HJ17.out; omega⟩, ⟨by (try simp only [hl7_1]); (try simp only [hl7_2]); (try simp only [hl7_3]); (with_reducible repeat (first | apply Kd.R_alloc | apply Kd.R_drewN | apply Kd.R_drew)); exact HO_7.out⟩, ⟨bw_ HB⟩⟩
                    ·
                     rw [if_neg c27] at H
                     exact absurd H (by simp)
                   ·
                    rw [if_neg c26] at H
                    exact absurd H (by simp)
                  ·
                   replace c25 := Bool.eq_false_iff.mpr c25
                   subst c25
                   have H1 : (linkhouseref7_Reached.l2 kj17 l0 a2 x7_3 x8_1 x9_2 (wrap64 (x10_3 + 1))) = some r := by rw [if_neg (show ¬ (false = true) by decide)] at H; exact H
                   clear H
                   have H := H1
                   clear H1
                   have H' := Aside0.mk H
                   clear H
                   go_wp2_with (first | (go_at_call 49; (with_reducible refine (linkhouseref7_Leads.calls kj17 _ _ l0 x9_2 x10_3 false _ ?side1 ?side2 A24.out).mono ?_); (case side1 => exact cb_ HR0 HB); (case side2 => exact HC0.out); rintro e w32 ⟨rfl, hb⟩; have n0_ := Aside0.mk (Kd.R_below (by (with_reducible repeat (first | apply Kd.R_alloc | apply Kd.R_drewN | apply Kd.R_drew)); exact HO_7.out) hb); have n1_ := Aside0.mk (below_step (bw_ HB) hb); clear HO_7; clear HB; have HO_7 := n0_; have HB := n1_; clear n0_ n1_; (try clear hb); (try clear hb2); (try clear hk); (try clear hi)))
                   (try simp only [← hl7_3])
                   go_roundg kj17
                   case measure => have := HK1.out; have := HK2.out; have := HK3.out; have := HJ17.out; omega
                   case rel => exact ⟨(x7_3), (wrap64 (x10_3 + 1)), rs_, H', ⟨by have := HK1.out; have := HK2.out; have := HK3.out; have := HJ17.out; omega⟩, ⟨by (try simp only [hl7_1]); (try simp only [hl7_2]); (try simp only [hl7_3]); (with_reducible repeat (first | apply Kd.R_alloc | apply Kd.R_drewN | apply Kd.R_drew)); exact HO_7.out⟩, ⟨bw_ HB⟩⟩
                ·
                 replace c22 := Bool.eq_false_iff.mpr c22
                 subst c22
                 have H1 : (linkhouseref7_Reached.l1 kj17 l0 a2 x7_3 x8_1 (wrap64 (x9_2 + 1))) = some r := by rw [if_neg (show ¬ (false = true) by decide)] at H; exact H
                 clear H
                 have H := H1
                 clear H1
                 have H' := Aside0.mk H
                 clear H
                 go_wp2
                 (try simp only [← hl7_2, ← hl7_3])
                 go_roundg kj17
                 case measure => have := HK1.out; have := HK2.out; have := HK3.out; have := HJ17.out; omega
                 case rel => exact ⟨(x7_3), (wrap64 (x9_2 + 1)), rs_, H', ⟨by have := HK1.out; have := HK2.out; have := HK3.out; have := HJ17.out; omega⟩, ⟨by (try simp only [hl7_1]); (try simp only [hl7_2]); (try simp only [hl7_3]); (with_reducible repeat (first | apply Kd.R_alloc | apply Kd.R_drewN | apply Kd.R_drew)); exact HO_7.out⟩, ⟨bw_ HB⟩⟩
           ·
            rw [if_neg c17] at H
            have c17b0 : decide (x9_2 < (l0.length : Int)) = false := decide_eq_false c17
            clear c17
            have H' := Aside0.mk H
            clear H
            go_wp2
            (try simp only [← hl7_1, ← hl7_2])
            go_roundg k2
            case measure => have := HK1.out; have := HK2.out; omega
            case rel => exact ⟨(x7_2), (wrap64 (x8_1 + 1)), rs_, H', ⟨by have := HK1.out; have := HK2.out; omega⟩, ⟨by (try simp only [hl7_1]); (try simp only [hl7_2]); (with_reducible repeat (first | apply Kd.R_alloc | apply Kd.R_drewN | apply Kd.R_drew)); exact HO_7.out⟩, ⟨bw_ HB⟩⟩
        ·
         rw [if_neg c16] at H
         have c16b0 : decide (x8_1 < (l0.length : Int)) = false := decide_eq_false c16
         clear c16
         obtain rfl := Option.some.inj H
         go_wp2
         go_ret
         exact ⟨_, by first | rfl | (simp [errW_none, errW_some] <;> rfl) | (simp [*, errW_none, errW_some] <;> rfl), by (with_reducible repeat (first | apply Kd.R_alloc | apply Kd.R_drewN | apply Kd.R_drew)); exact HO_7.out, bw_ HB⟩
     ·
      rw [if_neg c10] at H
      exact absurd H (by simp)
    ·
     rw [if_neg c9] at H
     exact absurd H (by simp)
  ·
   rw [if_neg c5] at H
   exact absurd H (by simp)
 ·
  rw [if_neg c4] at H
  exact absurd H (by simp)

/-! ### linkhouseref7_Dominates: function 45 -/
set_option maxRecDepth 100000 in
def linkhouseref7_Dominates.f (k : Nat) (l0 : List (S62)) (a1 : Int) (a2 : Int) (a3 : Int) : Option (Bool) := (linkhouseref7_Reached.f k l0 a1 (-1)).bind fun t275 => (if 0 ≤ a3 then (if a3 < (t275.length : Int) then (if rdOf false t275 a3 = true then (if a2 = a3 then (some true) else ((linkhouseref7_Reached.f k l0 a1 a2).bind fun t279 => (if a3 < (t279.length : Int) then (some (!(rdOf false t279 a3))) else (none)))) else (some false)) else (none)) else (none))
set_option maxRecDepth 100000 in
theorem linkhouseref7_Dominates.mono : ∀ a0 a1 a2 a3 k, LeO (linkhouseref7_Dominates.f k a0 a1 a2 a3) (linkhouseref7_Dominates.f (k + 1) a0 a1 a2 a3) := by
 intro a0 a1 a2 a3 k
 unfold linkhouseref7_Dominates.f
 repeat' first
   | (with_reducible exact linkhouseref7_Reached.mono _ _ _ _)
   | (with_reducible exact LeO.refl _)
   | (with_reducible exact LeO.none _)
   | (with_reducible refine LeO.ite ?_ ?_)
   | (with_reducible refine LeO.bind ?_ (fun _ => ?_))
   | exact linkhouseref7_Reached.mono _ _ _ _
   | exact LeO.none _
   | refine LeO.ite ?_ ?_
   | refine LeO.bind ?_ (fun _ => ?_)
set_option maxHeartbeats 8000000 in
set_option maxRecDepth 100000 in
theorem linkhouseref7_Dominates.calls (k : Nat) (A0 : Option Addr) (c0 : Nat) (l0 : List (S62)) (a1 : Int) (a2 : Int) (a3 : Int) (r : Bool) (w : World) (hr0 : Kd.C k62 w A0 l0.length l0) (hc0 : l0.length ≤ c0) (h : linkhouseref7_Dominates.f k l0 a1 a2 a3 = some r) :
  Calls Try.prog 45 #[.slice A0 l0.length c0, .int .i64 a1, .int .i64 a2, .int .i64 a3] w fun e w' => e = .returned (.bool r) ∧ Below w.heap.size w w' := by
 have HR0 := Aside0.mk hr0
 have HC0 := Aside0.mk hc0
 clear hr0 hc0
 have HB := Aside0.mk (Below.refl w.heap.size w)
 have H : ((linkhouseref7_Reached.f k l0 a1 (-1)).bind fun t275 => (if 0 ≤ a3 then (if a3 < (t275.length : Int) then (if rdOf false t275 a3 = true then (if a2 = a3 then (some true) else ((linkhouseref7_Reached.f k l0 a1 a2).bind fun t279 => (if a3 < (t279.length : Int) then (some (!(rdOf false t279 a3))) else (none)))) else (some false)) else (none)) else (none))) = some r := h
 clear h
 replace H := Option.bind_eq_some_iff.mp H
 obtain ⟨t275, A50, H⟩ := H
 replace H : (if 0 ≤ a3 then (if a3 < (t275.length : Int) then (if rdOf false t275 a3 = true then (if a2 = a3 then (some true) else ((linkhouseref7_Reached.f k l0 a1 a2).bind fun t279 => (if a3 < (t279.length : Int) then (some (!(rdOf false t279 a3))) else (none)))) else (some false)) else (none)) else (none)) = some r := H
 have A5 := Aside0.mk A50
 clear A50
 by_cases c6 : 0 ≤ a3
 ·
  rw [if_pos c6] at H
  have c6b0 : decide (0 ≤ a3) = true := decide_eq_true c6
  clear c6
  by_cases c7 : a3 < (t275.length : Int)
  ·
   rw [if_pos c7] at H
   have c7b0 : decide (a3 < (t275.length : Int)) = true := decide_eq_true c7
   clear c7
   obtain ⟨bq8, hbq8⟩ : ∃ b_ : Bool, b_ = (rdOf false t275 a3) := ⟨_, rfl⟩
   replace H : (if bq8 = true then (if a2 = a3 then (some true) else ((linkhouseref7_Reached.f k l0 a1 a2).bind fun t279 => (if a3 < (t279.length : Int) then (some (!(rdOf false t279 a3))) else (none)))) else (some false)) = some r := by rw [← hbq8] at H; exact H
   have Nbq8 := Aside0.mk hbq8
   clear hbq8
   by_cases c9 : bq8 = true
   ·
    subst c9
    have H1 : (if a2 = a3 then (some true) else ((linkhouseref7_Reached.f k l0 a1 a2).bind fun t279 => (if a3 < (t279.length : Int) then (some (!(rdOf false t279 a3))) else (none)))) = some r := by rw [if_pos rfl] at H; exact H
    clear H
    have H := H1
    clear H1
    by_cases c10 : a2 = a3
    ·
     rw [if_pos c10] at H
     have c10b0 : (a2 == a3) = true := beq_iff_eq.mpr c10
     have c10b1 : (a2 != a3) = false := bne_eq_false_iff_eq.mpr c10
     clear c10
     obtain rfl := Option.some.inj H
     go_enter Try.func45, Try.ntmps45
     go_wp2_with (first | ((with_reducible refine gate_callee (f := 31) rfl ?_); refine goesL_ (some 11) rfl rfl Try.func31 (by kernel_rfl) rfl #[.slice A0 l0.length c0, .int .i64 a1, .int .i64 (-1)] rfl ar_ ?_; (with_reducible refine (linkhouseref7_Reached.calls k _ _ l0 a1 (-1) t275 _ ?side1 ?side2 A5.out).mono ?_); (case side1 => repeat (first | exact HR0.out | (with_reducible refine Kd.C_alloc ?_ _) | (with_reducible refine Kd.C_drewN ?_ _) | (with_reducible refine Kd.C_drew ?_))); (case side2 => exact HC0.out); rintro e w11 ⟨v276, rfl, ho0, hb⟩; refine ⟨_, rfl, ?_⟩; have n0_ := Aside0.mk (Kd.R_lower ho0 (below_size (bw_ HB))); have n1_ := Aside0.mk (below_step (bw_ HB) hb); clear HB; have HO277 := n0_; have HB := n1_; clear n0_ n1_; (try clear hb); (try clear hb2); (try clear hk); (try clear hi); (try clear ho0); obtain ⟨Ao12, co12, eo12⟩ := Kd.R_slice HO277.out; subst eo12; have p278 : 0 ≤ (a3 : Int) := of_decide_eq_true (by first | (with_reducible assumption) | assumption); have q278 : a3 < (t275.length : Int) := of_decide_eq_true (by first | (with_reducible assumption) | assumption); obtain ⟨ad278, e278, hx278_0⟩ := Kd.at_bool (Kd.R_reads' HO277.out).2.2 a3 p278 q278; (try rw [← Nbq8.out] at hx278_0); cases e278; replace p278 := eq_true p278; replace q278 := eq_true q278))
     go_ret
     exact ⟨id_, bw_ HB⟩
    ·
     rw [if_neg c10] at H
     have c10b0 : (a2 == a3) = false := beq_eq_false_iff_ne.mpr c10
     have c10b1 : (a2 != a3) = true := bne_iff_ne.mpr c10
     replace H := Option.bind_eq_some_iff.mp H
     obtain ⟨t279, A130, H⟩ := H
     replace H : (if a3 < (t279.length : Int) then (some (!(rdOf false t279 a3))) else (none)) = some r := H
     have A13 := Aside0.mk A130
     clear A130
     by_cases c14 : a3 < (t279.length : Int)
     ·
      rw [if_pos c14] at H
      have c14b0 : decide (a3 < (t279.length : Int)) = true := decide_eq_true c14
      clear c14
      obtain rfl := Option.some.inj H
      go_enter Try.func45, Try.ntmps45
      go_wp2_with (first | ((with_reducible refine gate_callee (f := 31) rfl ?_); refine goesL_ (some 11) rfl rfl Try.func31 (by kernel_rfl) rfl #[.slice A0 l0.length c0, .int .i64 a1, .int .i64 (-1)] rfl ar_ ?_; (with_reducible refine (linkhouseref7_Reached.calls k _ _ l0 a1 (-1) t275 _ ?side1 ?side2 A5.out).mono ?_); (case side1 => repeat (first | exact HR0.out | (with_reducible refine Kd.C_alloc ?_ _) | (with_reducible refine Kd.C_drewN ?_ _) | (with_reducible refine Kd.C_drew ?_))); (case side2 => exact HC0.out); rintro e w15 ⟨v276, rfl, ho0, hb⟩; refine ⟨_, rfl, ?_⟩; have n0_ := Aside0.mk (Kd.R_lower ho0 (below_size (bw_ HB))); have n1_ := Aside0.mk (below_step (bw_ HB) hb); clear HB; have HO277 := n0_; have HB := n1_; clear n0_ n1_; (try clear hb); (try clear hb2); (try clear hk); (try clear hi); (try clear ho0); obtain ⟨Ao16, co16, eo16⟩ := Kd.R_slice HO277.out; subst eo16; have p278 : 0 ≤ (a3 : Int) := of_decide_eq_true (by first | (with_reducible assumption) | assumption); have q278 : a3 < (t275.length : Int) := of_decide_eq_true (by first | (with_reducible assumption) | assumption); obtain ⟨ad278, e278, hx278_0⟩ := Kd.at_bool (Kd.R_reads' HO277.out).2.2 a3 p278 q278; (try rw [← Nbq8.out] at hx278_0); cases e278; replace p278 := eq_true p278; replace q278 := eq_true q278) | (go_at_call 31; (with_reducible refine (linkhouseref7_Reached.calls k _ _ l0 a1 a2 t279 _ ?side1 ?side2 A13.out).mono ?_); (case side1 => exact cb_ HR0 HB); (case side2 => exact HC0.out); rintro e w17 ⟨v280, rfl, ho0, hb⟩; have n0_ := Aside0.mk (Kd.R_elder' (by (with_reducible repeat (first | apply Kd.R_alloc | apply Kd.R_drewN | apply Kd.R_drew)); exact HO277.out) (Kd.R_base ho0) hb); have n1_ := Aside0.mk (Kd.R_lower (Kd.R_new' ho0 (Kd.R_lt (by (with_reducible repeat (first | apply Kd.R_alloc | apply Kd.R_drewN | apply Kd.R_drew)); exact HO277.out))) (below_size (bw_ HB))); have n2_ := Aside0.mk (below_step (bw_ HB) hb); clear HO277; clear HB; have HO277 := n0_; have HO281 := n1_; have HB := n2_; clear n0_ n1_ n2_; (try clear hb); (try clear hb2); (try clear hk); (try clear hi); (try clear ho0); obtain ⟨Ao18, co18, eo18⟩ := Kd.R_slice HO281.out; subst eo18; have p282 : 0 ≤ (a3 : Int) := of_decide_eq_true (by first | (with_reducible assumption) | assumption); have q282 : a3 < (t279.length : Int) := of_decide_eq_true (by first | (with_reducible assumption) | assumption); obtain ⟨ad282, e282, hx282_0⟩ := Kd.at_bool (Kd.R_reads' HO281.out).2.2 a3 p282 q282; (try rw [← Nbq8.out] at hx282_0); cases e282; replace p282 := eq_true p282; replace q282 := eq_true q282))
      go_ret
      exact ⟨id_, bw_ HB⟩
     ·
      rw [if_neg c14] at H
      exact absurd H (by simp)
   ·
    replace c9 := Bool.eq_false_iff.mpr c9
    subst c9
    have H1 : (some false) = some r := by rw [if_neg (show ¬ (false = true) by decide)] at H; exact H
    clear H
    have H := H1
    clear H1
    obtain rfl := Option.some.inj H
    go_enter Try.func45, Try.ntmps45
    go_wp2_with (first | ((with_reducible refine gate_callee (f := 31) rfl ?_); refine goesL_ (some 11) rfl rfl Try.func31 (by kernel_rfl) rfl #[.slice A0 l0.length c0, .int .i64 a1, .int .i64 (-1)] rfl ar_ ?_; (with_reducible refine (linkhouseref7_Reached.calls k _ _ l0 a1 (-1) t275 _ ?side1 ?side2 A5.out).mono ?_); (case side1 => repeat (first | exact HR0.out | (with_reducible refine Kd.C_alloc ?_ _) | (with_reducible refine Kd.C_drewN ?_ _) | (with_reducible refine Kd.C_drew ?_))); (case side2 => exact HC0.out); rintro e w19 ⟨v276, rfl, ho0, hb⟩; refine ⟨_, rfl, ?_⟩; have n0_ := Aside0.mk (Kd.R_lower ho0 (below_size (bw_ HB))); have n1_ := Aside0.mk (below_step (bw_ HB) hb); clear HB; have HO277 := n0_; have HB := n1_; clear n0_ n1_; (try clear hb); (try clear hb2); (try clear hk); (try clear hi); (try clear ho0); obtain ⟨Ao20, co20, eo20⟩ := Kd.R_slice HO277.out; subst eo20; have p278 : 0 ≤ (a3 : Int) := of_decide_eq_true (by first | (with_reducible assumption) | assumption); have q278 : a3 < (t275.length : Int) := of_decide_eq_true (by first | (with_reducible assumption) | assumption); obtain ⟨ad278, e278, hx278_0⟩ := Kd.at_bool (Kd.R_reads' HO277.out).2.2 a3 p278 q278; (try rw [← Nbq8.out] at hx278_0); cases e278; replace p278 := eq_true p278; replace q278 := eq_true q278))
    go_ret
    exact ⟨id_, bw_ HB⟩
  ·
   rw [if_neg c7] at H
   exact absurd H (by simp)
 ·
  rw [if_neg c6] at H
  exact absurd H (by simp)

/-! ### linkhouseref7_Immediate: function 22 -/
set_option maxRecDepth 100000 in
mutual
def linkhouseref7_Immediate.l0 : Nat → List (S62) → Int → Int → Int → Option (Int)
 | 0, _, _, _, _ => none
 | k + 1, x0, x1, x2, x7 => if x7 < (x0.length : Int) then (if x7 = x2 then (linkhouseref7_Immediate.j1 k x0 x1 x2 x7 true) else ((linkhouseref7_Dominates.f k x0 x1 x7 x2).bind fun t287 => (linkhouseref7_Immediate.j1 k x0 x1 x2 x7 (!t287)))) else (some (-1))
def linkhouseref7_Immediate.j1 : Nat → List (S62) → Int → Int → Int → Bool → Option (Int)
 | 0, _, _, _, _, _ => none
 | k + 1, x0, x1, x2, x7, x37 => if x37 = true then (linkhouseref7_Immediate.l0 k x0 x1 x2 (wrap64 (x7 + 1))) else (linkhouseref7_Immediate.l1 k x0 x1 x2 x7 true 0)
def linkhouseref7_Immediate.l1 : Nat → List (S62) → Int → Int → Int → Bool → Int → Option (Int)
 | 0, _, _, _, _, _, _ => none
 | k + 1, x0, x1, x2, x7, x8, x9 => if x9 < (x0.length : Int) then (if x9 = x2 then (linkhouseref7_Immediate.l1 k x0 x1 x2 x7 x8 (wrap64 (x9 + 1))) else ((linkhouseref7_Dominates.f k x0 x1 x9 x2).bind fun t288 => (if t288 = true then ((linkhouseref7_Dominates.f k x0 x1 x9 x7).bind fun t289 => (if t289 = true then (linkhouseref7_Immediate.l1 k x0 x1 x2 x7 x8 (wrap64 (x9 + 1))) else (linkhouseref7_Immediate.l1 k x0 x1 x2 x7 false (wrap64 (x9 + 1))))) else (linkhouseref7_Immediate.l1 k x0 x1 x2 x7 x8 (wrap64 (x9 + 1)))))) else (if x8 = true then (some x7) else (linkhouseref7_Immediate.l0 k x0 x1 x2 (wrap64 (x7 + 1))))
end
set_option maxRecDepth 100000 in
def linkhouseref7_Immediate.f (k : Nat) (l0 : List (S62)) (a1 : Int) (a2 : Int) : Option (Int) := (linkhouseref7_Reached.f k l0 a1 (-1)).bind fun t283 => (if 0 ≤ a2 then (if a2 < (t283.length : Int) then (if rdOf false t283 a2 = true then (if a2 = a1 then (some a2) else (linkhouseref7_Immediate.l0 k l0 a1 a2 0)) else (some (-1))) else (none)) else (none))
set_option maxRecDepth 100000 in
theorem linkhouseref7_Immediate.mono_l : ∀ k, (∀ y0 y1 y2 y3, LeO (linkhouseref7_Immediate.l0 k y0 y1 y2 y3) (linkhouseref7_Immediate.l0 (k + 1) y0 y1 y2 y3)) ∧ (∀ y0 y1 y2 y3 y4, LeO (linkhouseref7_Immediate.j1 k y0 y1 y2 y3 y4) (linkhouseref7_Immediate.j1 (k + 1) y0 y1 y2 y3 y4)) ∧ (∀ y0 y1 y2 y3 y4 y5, LeO (linkhouseref7_Immediate.l1 k y0 y1 y2 y3 y4 y5) (linkhouseref7_Immediate.l1 (k + 1) y0 y1 y2 y3 y4 y5))
 | 0 => ⟨fun _ _ _ _ r h => by simp [linkhouseref7_Immediate.l0] at h, fun _ _ _ _ _ r h => by simp [linkhouseref7_Immediate.j1] at h, fun _ _ _ _ _ _ r h => by simp [linkhouseref7_Immediate.l1] at h⟩
 | k + 1 => by
  obtain ⟨ih0, ih1, ih2⟩ := linkhouseref7_Immediate.mono_l k
  refine ⟨?_, ?_, ?_⟩
  ·
   intro y0 y1 y2 y3
   unfold linkhouseref7_Immediate.l0
   repeat' first
   | (with_reducible exact ih0 _ _ _ _)
   | (with_reducible exact ih1 _ _ _ _ _)
   | (with_reducible exact ih2 _ _ _ _ _ _)
   | (with_reducible exact linkhouseref7_Dominates.mono _ _ _ _ _)
   | (with_reducible exact linkhouseref7_Reached.mono _ _ _ _)
   | (with_reducible exact LeO.refl _)
   | (with_reducible exact LeO.none _)
   | (with_reducible refine LeO.ite ?_ ?_)
   | (with_reducible refine LeO.bind ?_ (fun _ => ?_))
   | exact ih0 _ _ _ _
   | exact ih1 _ _ _ _ _
   | exact ih2 _ _ _ _ _ _
   | exact linkhouseref7_Dominates.mono _ _ _ _ _
   | exact linkhouseref7_Reached.mono _ _ _ _
   | exact LeO.none _
   | refine LeO.ite ?_ ?_
   | refine LeO.bind ?_ (fun _ => ?_)
  ·
   intro y0 y1 y2 y3 y4
   unfold linkhouseref7_Immediate.j1
   repeat' first
   | (with_reducible exact ih0 _ _ _ _)
   | (with_reducible exact ih1 _ _ _ _ _)
   | (with_reducible exact ih2 _ _ _ _ _ _)
   | (with_reducible exact linkhouseref7_Dominates.mono _ _ _ _ _)
   | (with_reducible exact linkhouseref7_Reached.mono _ _ _ _)
   | (with_reducible exact LeO.refl _)
   | (with_reducible exact LeO.none _)
   | (with_reducible refine LeO.ite ?_ ?_)
   | (with_reducible refine LeO.bind ?_ (fun _ => ?_))
   | exact ih0 _ _ _ _
   | exact ih1 _ _ _ _ _
   | exact ih2 _ _ _ _ _ _
   | exact linkhouseref7_Dominates.mono _ _ _ _ _
   | exact linkhouseref7_Reached.mono _ _ _ _
   | exact LeO.none _
   | refine LeO.ite ?_ ?_
   | refine LeO.bind ?_ (fun _ => ?_)
  ·
   intro y0 y1 y2 y3 y4 y5
   unfold linkhouseref7_Immediate.l1
   repeat' first
   | (with_reducible exact ih0 _ _ _ _)
   | (with_reducible exact ih1 _ _ _ _ _)
   | (with_reducible exact ih2 _ _ _ _ _ _)
   | (with_reducible exact linkhouseref7_Dominates.mono _ _ _ _ _)
   | (with_reducible exact linkhouseref7_Reached.mono _ _ _ _)
   | (with_reducible exact LeO.refl _)
   | (with_reducible exact LeO.none _)
   | (with_reducible refine LeO.ite ?_ ?_)
   | (with_reducible refine LeO.bind ?_ (fun _ => ?_))
   | exact ih0 _ _ _ _
   | exact ih1 _ _ _ _ _
   | exact ih2 _ _ _ _ _ _
   | exact linkhouseref7_Dominates.mono _ _ _ _ _
   | exact linkhouseref7_Reached.mono _ _ _ _
   | exact LeO.none _
   | refine LeO.ite ?_ ?_
   | refine LeO.bind ?_ (fun _ => ?_)
set_option maxRecDepth 100000 in
theorem linkhouseref7_Immediate.mono : ∀ a0 a1 a2 k, LeO (linkhouseref7_Immediate.f k a0 a1 a2) (linkhouseref7_Immediate.f (k + 1) a0 a1 a2) := by
 intro a0 a1 a2 k
 obtain ⟨ih0, ih1, ih2⟩ := linkhouseref7_Immediate.mono_l k
 unfold linkhouseref7_Immediate.f
 repeat' first
   | (with_reducible exact ih0 _ _ _ _)
   | (with_reducible exact ih1 _ _ _ _ _)
   | (with_reducible exact ih2 _ _ _ _ _ _)
   | (with_reducible exact linkhouseref7_Dominates.mono _ _ _ _ _)
   | (with_reducible exact linkhouseref7_Reached.mono _ _ _ _)
   | (with_reducible exact LeO.refl _)
   | (with_reducible exact LeO.none _)
   | (with_reducible refine LeO.ite ?_ ?_)
   | (with_reducible refine LeO.bind ?_ (fun _ => ?_))
   | exact ih0 _ _ _ _
   | exact ih1 _ _ _ _ _
   | exact ih2 _ _ _ _ _ _
   | exact linkhouseref7_Dominates.mono _ _ _ _ _
   | exact linkhouseref7_Reached.mono _ _ _ _
   | exact LeO.none _
   | refine LeO.ite ?_ ?_
   | refine LeO.bind ?_ (fun _ => ?_)
set_option maxHeartbeats 8000000 in
set_option maxRecDepth 100000 in
theorem linkhouseref7_Immediate.calls (k : Nat) (A0 : Option Addr) (c0 : Nat) (l0 : List (S62)) (a1 : Int) (a2 : Int) (r : Int) (w : World) (hr0 : Kd.C k62 w A0 l0.length l0) (hc0 : l0.length ≤ c0) (h : linkhouseref7_Immediate.f k l0 a1 a2 = some r) :
  Calls Try.prog 22 #[.slice A0 l0.length c0, .int .i64 a1, .int .i64 a2] w fun e w' => e = .returned (.int .i64 r) ∧ Below w.heap.size w w' := by
 have HR0 := Aside0.mk hr0
 have HC0 := Aside0.mk hc0
 clear hr0 hc0
 have HB := Aside0.mk (Below.refl w.heap.size w)
 have H : ((linkhouseref7_Reached.f k l0 a1 (-1)).bind fun t283 => (if 0 ≤ a2 then (if a2 < (t283.length : Int) then (if rdOf false t283 a2 = true then (if a2 = a1 then (some a2) else (linkhouseref7_Immediate.l0 k l0 a1 a2 0)) else (some (-1))) else (none)) else (none))) = some r := h
 clear h
 replace H := Option.bind_eq_some_iff.mp H
 obtain ⟨t283, A40, H⟩ := H
 replace H : (if 0 ≤ a2 then (if a2 < (t283.length : Int) then (if rdOf false t283 a2 = true then (if a2 = a1 then (some a2) else (linkhouseref7_Immediate.l0 k l0 a1 a2 0)) else (some (-1))) else (none)) else (none)) = some r := H
 have A4 := Aside0.mk A40
 clear A40
 by_cases c5 : 0 ≤ a2
 ·
  rw [if_pos c5] at H
  have c5b0 : decide (0 ≤ a2) = true := decide_eq_true c5
  clear c5
  by_cases c6 : a2 < (t283.length : Int)
  ·
   rw [if_pos c6] at H
   have c6b0 : decide (a2 < (t283.length : Int)) = true := decide_eq_true c6
   clear c6
   obtain ⟨bq7, hbq7⟩ : ∃ b_ : Bool, b_ = (rdOf false t283 a2) := ⟨_, rfl⟩
   replace H : (if bq7 = true then (if a2 = a1 then (some a2) else (linkhouseref7_Immediate.l0 k l0 a1 a2 0)) else (some (-1))) = some r := by rw [← hbq7] at H; exact H
   have Nbq7 := Aside0.mk hbq7
   clear hbq7
   by_cases c8 : bq7 = true
   ·
    subst c8
    have H1 : (if a2 = a1 then (some a2) else (linkhouseref7_Immediate.l0 k l0 a1 a2 0)) = some r := by rw [if_pos rfl] at H; exact H
    clear H
    have H := H1
    clear H1
    by_cases c9 : a2 = a1
    ·
     rw [if_pos c9] at H
     have c9b0 : (a2 == a1) = true := beq_iff_eq.mpr c9
     have c9b1 : (a2 != a1) = false := bne_eq_false_iff_eq.mpr c9
     clear c9
     obtain rfl := Option.some.inj H
     go_enter Try.func22, Try.ntmps22
     go_wp2_with (first | ((with_reducible refine gate_callee (f := 31) rfl ?_); refine goesL_ (some 12) rfl rfl Try.func31 (by kernel_rfl) rfl #[.slice A0 l0.length c0, .int .i64 a1, .int .i64 (-1)] rfl ar_ ?_; (with_reducible refine (linkhouseref7_Reached.calls k _ _ l0 a1 (-1) t283 _ ?side1 ?side2 A4.out).mono ?_); (case side1 => repeat (first | exact HR0.out | (with_reducible refine Kd.C_alloc ?_ _) | (with_reducible refine Kd.C_drewN ?_ _) | (with_reducible refine Kd.C_drew ?_))); (case side2 => exact HC0.out); rintro e w10 ⟨v284, rfl, ho0, hb⟩; refine ⟨_, rfl, ?_⟩; have n0_ := Aside0.mk (Kd.R_lower ho0 (below_size (bw_ HB))); have n1_ := Aside0.mk (below_step (bw_ HB) hb); clear HB; have HO285 := n0_; have HB := n1_; clear n0_ n1_; (try clear hb); (try clear hb2); (try clear hk); (try clear hi); (try clear ho0); obtain ⟨Ao11, co11, eo11⟩ := Kd.R_slice HO285.out; subst eo11; have p286 : 0 ≤ (a2 : Int) := of_decide_eq_true (by first | (with_reducible assumption) | assumption); have q286 : a2 < (t283.length : Int) := of_decide_eq_true (by first | (with_reducible assumption) | assumption); obtain ⟨ad286, e286, hx286_0⟩ := Kd.at_bool (Kd.R_reads' HO285.out).2.2 a2 p286 q286; (try rw [← Nbq7.out] at hx286_0); cases e286; replace p286 := eq_true p286; replace q286 := eq_true q286))
     go_ret
     exact ⟨id_, bw_ HB⟩
    ·
     rw [if_neg c9] at H
     have c9b0 : (a2 == a1) = false := beq_eq_false_iff_ne.mpr c9
     have c9b1 : (a2 != a1) = true := bne_iff_ne.mpr c9
     have H' := Aside0.mk H
     clear H
     go_enter Try.func22, Try.ntmps22
     go_wp2_with (first | ((with_reducible refine gate_callee (f := 31) rfl ?_); refine goesL_ (some 12) rfl rfl Try.func31 (by kernel_rfl) rfl #[.slice A0 l0.length c0, .int .i64 a1, .int .i64 (-1)] rfl ar_ ?_; (with_reducible refine (linkhouseref7_Reached.calls k _ _ l0 a1 (-1) t283 _ ?side1 ?side2 A4.out).mono ?_); (case side1 => repeat (first | exact HR0.out | (with_reducible refine Kd.C_alloc ?_ _) | (with_reducible refine Kd.C_drewN ?_ _) | (with_reducible refine Kd.C_drew ?_))); (case side2 => exact HC0.out); rintro e w12 ⟨v284, rfl, ho0, hb⟩; refine ⟨_, rfl, ?_⟩; have n0_ := Aside0.mk (Kd.R_lower ho0 (below_size (bw_ HB))); have n1_ := Aside0.mk (below_step (bw_ HB) hb); clear HB; have HO285 := n0_; have HB := n1_; clear n0_ n1_; (try clear hb); (try clear hb2); (try clear hk); (try clear hi); (try clear ho0); obtain ⟨Ao13, co13, eo13⟩ := Kd.R_slice HO285.out; subst eo13; have p286 : 0 ≤ (a2 : Int) := of_decide_eq_true (by first | (with_reducible assumption) | assumption); have q286 : a2 < (t283.length : Int) := of_decide_eq_true (by first | (with_reducible assumption) | assumption); obtain ⟨ad286, e286, hx286_0⟩ := Kd.at_bool (Kd.R_reads' HO285.out).2.2 a2 p286 q286; (try rw [← Nbq7.out] at hx286_0); cases e286; replace p286 := eq_true p286; replace q286 := eq_true q286))
     go_loopg [7] k (fun kq v7 w' => ∃ (x7_1 : Int), v7 = .int .i64 x7_1 ∧ Aside0 (linkhouseref7_Immediate.l0 kq l0 a1 a2 x7_1 = some r) ∧ Aside0 (kq ≤ k) ∧ Aside0 (Below w.heap.size w w'))
     case atStart => exact ⟨(0), rs_, H', ⟨Nat.le_refl _⟩, ⟨bw_ HB⟩⟩
     case round =>
      clear H'
      (try clear c2); (try clear p2); (try clear q2); (try clear hx2); (try clear c3); (try clear c5); (try clear c5b0); (try clear c6); (try clear c6b0); (try clear q7); (try clear c8); (try clear c9); (try clear c9b0); (try clear c9b1); (try clear hx286_0); (try clear p286); (try clear q286)
      obtain ⟨x7_1, rfl, HA, HK1, HB⟩ := hrel
      cases gk with
      | zero => exact absurd HA.out (by simp [linkhouseref7_Immediate.l0])
      | succ k1 =>
       have H := HA.out
       clear HA
       simp only [linkhouseref7_Immediate.l0] at H
       by_cases c14 : x7_1 < (l0.length : Int)
       ·
        rw [if_pos c14] at H
        have c14b0 : decide (x7_1 < (l0.length : Int)) = true := decide_eq_true c14
        clear c14
        have HC15 := Aside0.mk H
        clear H
        go_upto_region 8 with (fail)
        go_cut [37] (fun v37 wc => ∃ (kq : Nat) (x37_14 : Bool), v37 = .bool x37_14 ∧ Aside0 (linkhouseref7_Immediate.j1 kq l0 a1 a2 x7_1 x37_14 = some r) ∧ Aside0 (kq ≤ k1) ∧ Aside0 (Below w.heap.size w wc))
        case first =>
         have H := HC15.out
         clear HC15
         by_cases c16 : x7_1 = a2
         ·
          rw [if_pos c16] at H
          have c16b0 : (x7_1 == a2) = true := beq_iff_eq.mpr c16
          have c16b1 : (x7_1 != a2) = false := bne_eq_false_iff_eq.mpr c16
          clear c16
          (first | rw [c16b0] | (simp only [i64_w, i32_w]; rw [c16b0]) | skip)
          have H' := Aside0.mk H
          clear H
          go_wp2
          go_meet
          case rel => exact ⟨_, (true), rs_, H', ⟨by have := HK1.out; first | omega | exact Nat.le_refl _⟩, ⟨bw_ HB⟩⟩
         ·
          rw [if_neg c16] at H
          have c16b0 : (x7_1 == a2) = false := beq_eq_false_iff_ne.mpr c16
          have c16b1 : (x7_1 != a2) = true := bne_iff_ne.mpr c16
          (first | rw [c16b0] | (simp only [i64_w, i32_w]; rw [c16b0]) | skip)
          replace H := Option.bind_eq_some_iff.mp H
          obtain ⟨t287, A170, H⟩ := H
          replace H : (linkhouseref7_Immediate.j1 k1 l0 a1 a2 x7_1 (!t287)) = some r := H
          have A17 := Aside0.mk A170
          clear A170
          have H' := Aside0.mk H
          clear H
          go_wp2_with (first | (go_at_call 45; (with_reducible refine (linkhouseref7_Dominates.calls k1 _ _ l0 a1 x7_1 a2 t287 _ ?side1 ?side2 A17.out).mono ?_); (case side1 => exact cb_ HR0 HB); (case side2 => exact HC0.out); rintro e w18 ⟨rfl, hb⟩; replace HB := hs_ HB hb; (try clear hb); (try clear hb2); (try clear hk); (try clear hi)))
          go_meet
          case rel => exact ⟨_, (!t287), rs_, H', ⟨by have := HK1.out; first | omega | exact Nat.le_refl _⟩, ⟨bw_ HB⟩⟩
        case rest =>
         clear HC15
         (try clear c1); (try clear c2); (try clear p2); (try clear q2); (try clear hx2); (try clear c3); (try clear c5); (try clear c5b0); (try clear c6); (try clear c6b0); (try clear q7); (try clear c8); (try clear c9); (try clear c9b0); (try clear c9b1); (try clear c14); (try clear c14b0); (try clear c16); (try clear c16b0); (try clear c16b1); (try clear hx286_0); (try clear p2); (try clear p286); (try clear q2); (try clear q286); (try clear q7)
         obtain ⟨kq, x37_14, rfl, HA, HJ14, HB⟩ := hcut
         cases kq with
         | zero => exact absurd HA.out (by simp [linkhouseref7_Immediate.j1])
         | succ kj14 =>
          have H := HA.out
          clear HA
          simp only [linkhouseref7_Immediate.j1] at H
          by_cases c19 : x37_14 = true
          ·
           subst c19
           have H1 : (linkhouseref7_Immediate.l0 kj14 l0 a1 a2 (wrap64 (x7_1 + 1))) = some r := by rw [if_pos rfl] at H; exact H
           clear H
           have H := H1
           clear H1
           have H' := Aside0.mk H
           clear H
           go_wp2
           go_roundg kj14
           case measure => have := HK1.out; have := HJ14.out; omega
           case rel => exact ⟨(wrap64 (x7_1 + 1)), rs_, H', ⟨by have := HK1.out; have := HJ14.out; omega⟩, ⟨bw_ HB⟩⟩
          ·
           replace c19 := Bool.eq_false_iff.mpr c19
           subst c19
           have H1 : (linkhouseref7_Immediate.l1 kj14 l0 a1 a2 x7_1 true 0) = some r := by rw [if_neg (show ¬ (false = true) by decide)] at H; exact H
           clear H
           have H := H1
           clear H1
           have H' := Aside0.mk H
           clear H
           go_wp2
           go_loopg [8, 9] kj14 (fun kq v8 v9 w' => ∃ (x8_3 : Bool) (x9_3 : Int), v8 = .bool x8_3 ∧ v9 = .int .i64 x9_3 ∧ Aside0 (linkhouseref7_Immediate.l1 kq l0 a1 a2 x7_1 x8_3 x9_3 = some r) ∧ Aside0 (kq ≤ kj14) ∧ Aside0 (Below w.heap.size w w'))
           case atStart => exact ⟨(true), (0), rs_, rs_, H', ⟨Nat.le_refl _⟩, ⟨bw_ HB⟩⟩
           case round =>
            clear H'
            (try clear c1); (try clear c2); (try clear p2); (try clear q2); (try clear hx2); (try clear c3); (try clear c5); (try clear c5b0); (try clear c6); (try clear c6b0); (try clear p6); (try clear q7); (try clear c8); (try clear c9); (try clear c9b0); (try clear c9b1); (try clear c14); (try clear c14b0); (try clear c16); (try clear c16b0); (try clear c16b1); (try clear c19); (try clear hx286_0); (try clear p2); (try clear p286); (try clear q2); (try clear q286); (try clear q7)
            obtain ⟨x8_3, x9_3, rfl, rfl, HA, HK3, HB⟩ := hrel
            cases gk with
            | zero => exact absurd HA.out (by simp [linkhouseref7_Immediate.l1])
            | succ k3 =>
             have H := HA.out
             clear HA
             simp only [linkhouseref7_Immediate.l1] at H
             by_cases c20 : x9_3 < (l0.length : Int)
             ·
              rw [if_pos c20] at H
              have c20b0 : decide (x9_3 < (l0.length : Int)) = true := decide_eq_true c20
              clear c20
              by_cases c21 : x9_3 = a2
              ·
               rw [if_pos c21] at H
               have c21b0 : (x9_3 == a2) = true := beq_iff_eq.mpr c21
               have c21b1 : (x9_3 != a2) = false := bne_eq_false_iff_eq.mpr c21
               clear c21
               have H' := Aside0.mk H
               clear H
               go_wp2
               go_roundg k3
               case measure => have := HK1.out; have := HJ14.out; have := HK3.out; omega
               case rel => exact ⟨(x8_3), (wrap64 (x9_3 + 1)), rs_, rs_, H', ⟨by have := HK1.out; have := HJ14.out; have := HK3.out; omega⟩, ⟨bw_ HB⟩⟩
              ·
               rw [if_neg c21] at H
               have c21b0 : (x9_3 == a2) = false := beq_eq_false_iff_ne.mpr c21
               have c21b1 : (x9_3 != a2) = true := bne_iff_ne.mpr c21
               replace H := Option.bind_eq_some_iff.mp H
               obtain ⟨t288, A220, H⟩ := H
               replace H : (if t288 = true then ((linkhouseref7_Dominates.f k3 l0 a1 x9_3 x7_1).bind fun t289 => (if t289 = true then (linkhouseref7_Immediate.l1 k3 l0 a1 a2 x7_1 x8_3 (wrap64 (x9_3 + 1))) else (linkhouseref7_Immediate.l1 k3 l0 a1 a2 x7_1 false (wrap64 (x9_3 + 1))))) else (linkhouseref7_Immediate.l1 k3 l0 a1 a2 x7_1 x8_3 (wrap64 (x9_3 + 1)))) = some r := H
               have A22 := Aside0.mk A220
               clear A220
               by_cases c23 : t288 = true
               ·
                subst c23
                have H1 : ((linkhouseref7_Dominates.f k3 l0 a1 x9_3 x7_1).bind fun t289 => (if t289 = true then (linkhouseref7_Immediate.l1 k3 l0 a1 a2 x7_1 x8_3 (wrap64 (x9_3 + 1))) else (linkhouseref7_Immediate.l1 k3 l0 a1 a2 x7_1 false (wrap64 (x9_3 + 1))))) = some r := by rw [if_pos rfl] at H; exact H
                clear H
                have H := H1
                clear H1
                replace H := Option.bind_eq_some_iff.mp H
                obtain ⟨t289, A240, H⟩ := H
                replace H : (if t289 = true then (linkhouseref7_Immediate.l1 k3 l0 a1 a2 x7_1 x8_3 (wrap64 (x9_3 + 1))) else (linkhouseref7_Immediate.l1 k3 l0 a1 a2 x7_1 false (wrap64 (x9_3 + 1)))) = some r := H
                have A24 := Aside0.mk A240
                clear A240
                by_cases c25 : t289 = true
                ·
                 subst c25
                 have H1 : (linkhouseref7_Immediate.l1 k3 l0 a1 a2 x7_1 x8_3 (wrap64 (x9_3 + 1))) = some r := by rw [if_pos rfl] at H; exact H
                 clear H
                 have H := H1
                 clear H1
                 have H' := Aside0.mk H
                 clear H
                 go_wp2_with (first | (go_at_call 45; (with_reducible refine (linkhouseref7_Dominates.calls k3 _ _ l0 a1 x9_3 a2 true _ ?side1 ?side2 A22.out).mono ?_); (case side1 => exact cb_ HR0 HB); (case side2 => exact HC0.out); rintro e w26 ⟨rfl, hb⟩; replace HB := hs_ HB hb; (try clear hb); (try clear hb2); (try clear hk); (try clear hi)) | (go_at_call 45; (with_reducible refine (linkhouseref7_Dominates.calls k3 _ _ l0 a1 x9_3 x7_1 true _ ?side1 ?side2 A24.out).mono ?_); (case side1 => exact cb_ HR0 HB); (case side2 => exact HC0.out); rintro e w27 ⟨rfl, hb⟩; replace HB := hs_ HB hb; (try clear hb); (try clear hb2); (try clear hk); (try clear hi)))
                 go_roundg k3
                 case measure => have := HK1.out; have := HJ14.out; have := HK3.out; omega
                 case rel => exact ⟨(x8_3), (wrap64 (x9_3 + 1)), rs_, rs_, H', ⟨by have := HK1.out; have := HJ14.out; have := HK3.out; omega⟩, ⟨bw_ HB⟩⟩
                ·
                 replace c25 := Bool.eq_false_iff.mpr c25
                 subst c25
                 have H1 : (linkhouseref7_Immediate.l1 k3 l0 a1 a2 x7_1 false (wrap64 (x9_3 + 1))) = some r := by rw [if_neg (show ¬ (false = true) by decide)] at H; exact H
                 clear H
                 have H := H1
                 clear H1
                 have H' := Aside0.mk H
                 clear H
                 go_wp2_with (first | (go_at_call 45; (with_reducible refine (linkhouseref7_Dominates.calls k3 _ _ l0 a1 x9_3 a2 true _ ?side1 ?side2 A22.out).mono ?_); (case side1 => exact cb_ HR0 HB); (case side2 => exact HC0.out); rintro e w28 ⟨rfl, hb⟩; replace HB := hs_ HB hb; (try clear hb); (try clear hb2); (try clear hk); (try clear hi)) | (go_at_call 45; (with_reducible refine (linkhouseref7_Dominates.calls k3 _ _ l0 a1 x9_3 x7_1 false _ ?side1 ?side2 A24.out).mono ?_); (case side1 => exact cb_ HR0 HB); (case side2 => exact HC0.out); rintro e w29 ⟨rfl, hb⟩; replace HB := hs_ HB hb; (try clear hb); (try clear hb2); (try clear hk); (try clear hi)))
                 go_roundg k3
                 case measure => have := HK1.out; have := HJ14.out; have := HK3.out; omega
                 case rel => exact ⟨(false), (wrap64 (x9_3 + 1)), rs_, rs_, H', ⟨by have := HK1.out; have := HJ14.out; have := HK3.out; omega⟩, ⟨bw_ HB⟩⟩
               ·
                replace c23 := Bool.eq_false_iff.mpr c23
                subst c23
                have H1 : (linkhouseref7_Immediate.l1 k3 l0 a1 a2 x7_1 x8_3 (wrap64 (x9_3 + 1))) = some r := by rw [if_neg (show ¬ (false = true) by decide)] at H; exact H
                clear H
                have H := H1
                clear H1
                have H' := Aside0.mk H
                clear H
                go_wp2_with (first | (go_at_call 45; (with_reducible refine (linkhouseref7_Dominates.calls k3 _ _ l0 a1 x9_3 a2 false _ ?side1 ?side2 A22.out).mono ?_); (case side1 => exact cb_ HR0 HB); (case side2 => exact HC0.out); rintro e w30 ⟨rfl, hb⟩; replace HB := hs_ HB hb; (try clear hb); (try clear hb2); (try clear hk); (try clear hi)))
                go_roundg k3
                case measure => have := HK1.out; have := HJ14.out; have := HK3.out; omega
                case rel => exact ⟨(x8_3), (wrap64 (x9_3 + 1)), rs_, rs_, H', ⟨by have := HK1.out; have := HJ14.out; have := HK3.out; omega⟩, ⟨bw_ HB⟩⟩
             ·
              rw [if_neg c20] at H
              have c20b0 : decide (x9_3 < (l0.length : Int)) = false := decide_eq_false c20
              clear c20
              by_cases c31 : x8_3 = true
              ·
               subst c31
               have H1 : (some x7_1) = some r := by rw [if_pos rfl] at H; exact H
               clear H
               have H := H1
               clear H1
               obtain rfl := Option.some.inj H
               go_wp2
               go_ret
               exact ⟨id_, bw_ HB⟩
              ·
               replace c31 := Bool.eq_false_iff.mpr c31
               subst c31
               have H1 : (linkhouseref7_Immediate.l0 k3 l0 a1 a2 (wrap64 (x7_1 + 1))) = some r := by rw [if_neg (show ¬ (false = true) by decide)] at H; exact H
               clear H
               have H := H1
               clear H1
               have H' := Aside0.mk H
               clear H
               go_wp2
               go_roundg k3
               case measure => have := HK1.out; have := HJ14.out; have := HK3.out; omega
               case rel => exact ⟨(wrap64 (x7_1 + 1)), rs_, H', ⟨by have := HK1.out; have := HJ14.out; have := HK3.out; omega⟩, ⟨bw_ HB⟩⟩
       ·
        rw [if_neg c14] at H
        have c14b0 : decide (x7_1 < (l0.length : Int)) = false := decide_eq_false c14
        clear c14
        obtain rfl := Option.some.inj H
        go_wp2
        go_ret
        exact ⟨id_, bw_ HB⟩
   ·
    replace c8 := Bool.eq_false_iff.mpr c8
    subst c8
    have H1 : (some (-1)) = some r := by rw [if_neg (show ¬ (false = true) by decide)] at H; exact H
    clear H
    have H := H1
    clear H1
    obtain rfl := Option.some.inj H
    go_enter Try.func22, Try.ntmps22
    go_wp2_with (first | ((with_reducible refine gate_callee (f := 31) rfl ?_); refine goesL_ (some 12) rfl rfl Try.func31 (by kernel_rfl) rfl #[.slice A0 l0.length c0, .int .i64 a1, .int .i64 (-1)] rfl ar_ ?_; (with_reducible refine (linkhouseref7_Reached.calls k _ _ l0 a1 (-1) t283 _ ?side1 ?side2 A4.out).mono ?_); (case side1 => repeat (first | exact HR0.out | (with_reducible refine Kd.C_alloc ?_ _) | (with_reducible refine Kd.C_drewN ?_ _) | (with_reducible refine Kd.C_drew ?_))); (case side2 => exact HC0.out); rintro e w32 ⟨v284, rfl, ho0, hb⟩; refine ⟨_, rfl, ?_⟩; have n0_ := Aside0.mk (Kd.R_lower ho0 (below_size (bw_ HB))); have n1_ := Aside0.mk (below_step (bw_ HB) hb); clear HB; have HO285 := n0_; have HB := n1_; clear n0_ n1_; (try clear hb); (try clear hb2); (try clear hk); (try clear hi); (try clear ho0); obtain ⟨Ao33, co33, eo33⟩ := Kd.R_slice HO285.out; subst eo33; have p286 : 0 ≤ (a2 : Int) := of_decide_eq_true (by first | (with_reducible assumption) | assumption); have q286 : a2 < (t283.length : Int) := of_decide_eq_true (by first | (with_reducible assumption) | assumption); obtain ⟨ad286, e286, hx286_0⟩ := Kd.at_bool (Kd.R_reads' HO285.out).2.2 a2 p286 q286; (try rw [← Nbq7.out] at hx286_0); cases e286; replace p286 := eq_true p286; replace q286 := eq_true q286))
    go_ret
    exact ⟨id_, bw_ HB⟩
  ·
   rw [if_neg c6] at H
   exact absurd H (by simp)
 ·
  rw [if_neg c5] at H
  exact absurd H (by simp)

end Go.Proofs.Ytaellapacoikaaa.PB
