import Derived.Test.YtaellapacoikaaaN0
import Derived.Test.YtaellapacoikaaaNSBx0
import Derived.Test.YtaellapacoikaaaNSBx1
import Derived.Test.YtaellapacoikaaaNSBx2
import Derived.Test.YtaellapacoikaaaNSBx5
import Derived.Test.YtaellapacoikaaaNSBx3
namespace Go.Proofs.Ytaellapacoikaaa.PB
open Go.RowKit Go.Proofs.YtaellapacoikaaaW.PrintWords Go.Proofs.YtaellapacoikaaaW.PrintLast Go.Proofs.YtaellapacoikaaaW.PrintMore
attribute [local go_sem] max2_int min2_int max_two min_two max_three min_three max_four min_four   -- for this text's walks alone
set_option linter.unusedVariables false
set_option linter.unusedSimpArgs false

attribute [local go_sem high] eqA28
/-! ### flow_Loops: function 24 -/
set_option maxRecDepth 100000 in
mutual
def flow_Loops.l0 : Nat → List (S62) → List (S68) → Int → Int → List Int → Option ((List (S68)) × Int × Int)
 | 0, _, _, _, _, _ => none
 | k + 1, x0, x9, x30, x31, x171000 => if x31 < x30 then (if 0 ≤ (x0.length : Int) then (if ((x0.length : Int) : Int).toNat ≤ 281474976710656 then (flow_Loops.l1 k x0 x9 x31 (List.replicate ((x0.length : Int) : Int).toNat false) ([] : List Int) x30 x31 (x0.length : Int) 0 x171000) else (none)) else (none)) else (some (x9, 0, 0))
def flow_Loops.l1 : Nat → List (S62) → List (S68) → Int → List Bool → List Int → Int → Int → Int → Int → List Int → Option ((List (S68)) × Int × Int)
 | 0, _, _, _, _, _, _, _, _, _, _ => none
 | k + 1, x0, x9, x10, x11, x12, x30, x31, x38, x39, x171000 => if x39 < x38 then (if 0 ≤ x39 then (if x39 < (x171000.length : Int) then (if (rd x171000 x39) ≥ 0 then (if 0 ≤ x10 then (if x10 < (x171000.length : Int) then (if (rd x171000 x10) ≥ 0 then (if x39 < (x0.length : Int) then ((flow_Inner.f k ((rd_T62 x0 x39).f0) ((rd_T62 x0 x39).f1) ((rd_T62 x0 x39).f2) ((rd_T62 x0 x39).f3)).bind fun t177 => ((slices_Contains_int_int.f k t177 x10).bind fun t180 => (if t180 = true then ((flow_Loops_1.f k x10 x39 x171000).bind fun t181 => (if t181 = true then (if x39 < (x11.length : Int) then (if rdOf false x11 x39 = true then (flow_Loops.l1 k x0 x9 x10 x11 x12 x30 x31 x38 (wrap64 (x39 + 1)) x171000) else (if x12.length < 17592186044416 then (flow_Loops.l1 k x0 x9 x10 (x11.set (x39 : Int).toNat true) (x12 ++ [x39]) x30 x31 x38 (wrap64 (x39 + 1)) x171000) else (none))) else (none)) else (flow_Loops.l1 k x0 x9 x10 x11 x12 x30 x31 x38 (wrap64 (x39 + 1)) x171000))) else (flow_Loops.l1 k x0 x9 x10 x11 x12 x30 x31 x38 (wrap64 (x39 + 1)) x171000)))) else (none)) else (flow_Loops.l1 k x0 x9 x10 x11 x12 x30 x31 x38 (wrap64 (x39 + 1)) x171000)) else (none)) else (none)) else (flow_Loops.l1 k x0 x9 x10 x11 x12 x30 x31 x38 (wrap64 (x39 + 1)) x171000)) else (none)) else (none)) else (if (x12.length : Int) = 0 then (flow_Loops.l0 k x0 x9 x30 (wrap64 (x31 + 1)) x171000) else (if 0 ≤ x10 then (if x10 < (x11.length : Int) then (flow_Loops.l2 k x0 x9 x10 (x11.set (x10 : Int).toNat true) x12 x30 x31 x171000) else (none)) else (none)))
def flow_Loops.l2 : Nat → List (S62) → List (S68) → Int → List Bool → List Int → Int → Int → List Int → Option ((List (S68)) × Int × Int)
 | 0, _, _, _, _, _, _, _, _ => none
 | k + 1, x0, x9, x10, x11, x12, x30, x31, x171000 => if (x12.length : Int) > 0 then (if 0 < (x12.length : Int) then (if (rd x12 0) = x10 then (if 1 ≤ (x12.length : Int) then (flow_Loops.l2 k x0 x9 x10 x11 (x12.drop (1 : Int).toNat) x30 x31 x171000) else (none)) else (flow_Loops.l3 k x0 x9 x10 x11 x12 x30 x31 (x0.length : Int) 0 x171000)) else (none)) else (flow_Loops.l4 k x0 x9 x30 x31 x11 (x11.length : Int) 0 x171000 x10 ([] : List Int))
def flow_Loops.l3 : Nat → List (S62) → List (S68) → Int → List Bool → List Int → Int → Int → Int → Int → List Int → Option ((List (S68)) × Int × Int)
 | 0, _, _, _, _, _, _, _, _, _, _ => none
 | k + 1, x0, x9, x10, x11, x12, x30, x31, x101, x102, x171000 => if x102 < x101 then (if 0 ≤ x102 then (if x102 < (x11.length : Int) then (if rdOf false x11 x102 = true then (flow_Loops.l3 k x0 x9 x10 x11 x12 x30 x31 x101 (wrap64 (x102 + 1)) x171000) else (if x102 < (x171000.length : Int) then (if (rd x171000 x102) ≥ 0 then (if x102 < (x0.length : Int) then ((flow_Inner.f k ((rd_T62 x0 x102).f0) ((rd_T62 x0 x102).f1) ((rd_T62 x0 x102).f2) ((rd_T62 x0 x102).f3)).bind fun t195 => (if 0 < (x12.length : Int) then ((slices_Contains_int_int.f k t195 (rd x12 0)).bind fun t199 => (if t199 = true then (if x12.length < 17592186044416 then (flow_Loops.l3 k x0 x9 x10 (x11.set (x102 : Int).toNat true) (x12 ++ [x102]) x30 x31 x101 (wrap64 (x102 + 1)) x171000) else (none)) else (flow_Loops.l3 k x0 x9 x10 x11 x12 x30 x31 x101 (wrap64 (x102 + 1)) x171000))) else (none))) else (none)) else (flow_Loops.l3 k x0 x9 x10 x11 x12 x30 x31 x101 (wrap64 (x102 + 1)) x171000)) else (none))) else (none)) else (none)) else (if 1 ≤ (x12.length : Int) then (flow_Loops.l2 k x0 x9 x10 x11 (x12.drop (1 : Int).toNat) x30 x31 x171000) else (none))
def flow_Loops.l4 : Nat → List (S62) → List (S68) → Int → Int → List Bool → Int → Int → List Int → Int → List Int → Option ((List (S68)) × Int × Int)
 | 0, _, _, _, _, _, _, _, _, _, _ => none
 | k + 1, x0, x9, x30, x31, x138, x139, x140, x171000, x208000, x208001 => if x140 < x139 then (if 0 ≤ x140 then (if x140 < (x138.length : Int) then (if rdOf false x138 x140 = true then (if x208001.length < 17592186044416 then (flow_Loops.l4 k x0 x9 x30 x31 x138 x139 (wrap64 (x140 + 1)) x171000 x208000 (x208001 ++ [x140])) else (none)) else (flow_Loops.l4 k x0 x9 x30 x31 x138 x139 (wrap64 (x140 + 1)) x171000 x208000 x208001)) else (none)) else (none)) else (if x9.length < 4398046511104 then (flow_Loops.l0 k x0 (x9 ++ [(⟨x208000, x208001⟩ : S68)]) x30 (wrap64 (x31 + 1)) x171000) else (none))
end
set_option maxRecDepth 100000 in
def flow_Loops.f (k : Nat) (l0 : List (S62)) (a1 : Int) : Option ((List (S68)) × Int × Int) := (flow_check.f k l0 a1).bind fun bt164 => (if (!(bt164.1 == 0) || (!(bt164.2 == 0))) = true then (some (([] : List (S68)), bt164.1, bt164.2)) else ((flow_dominators.f k l0 a1).bind fun t167 => (flow_Loops.l0 k l0 ([] : List (S68)) (l0.length : Int) 0 t167)))
set_option maxRecDepth 100000 in
theorem flow_Loops.mono_l : ∀ k, (∀ y0 y1 y2 y3 y4, LeO (flow_Loops.l0 k y0 y1 y2 y3 y4) (flow_Loops.l0 (k + 1) y0 y1 y2 y3 y4)) ∧ (∀ y0 y1 y2 y3 y4 y5 y6 y7 y8 y9, LeO (flow_Loops.l1 k y0 y1 y2 y3 y4 y5 y6 y7 y8 y9) (flow_Loops.l1 (k + 1) y0 y1 y2 y3 y4 y5 y6 y7 y8 y9)) ∧ (∀ y0 y1 y2 y3 y4 y5 y6 y7, LeO (flow_Loops.l2 k y0 y1 y2 y3 y4 y5 y6 y7) (flow_Loops.l2 (k + 1) y0 y1 y2 y3 y4 y5 y6 y7)) ∧ (∀ y0 y1 y2 y3 y4 y5 y6 y7 y8 y9, LeO (flow_Loops.l3 k y0 y1 y2 y3 y4 y5 y6 y7 y8 y9) (flow_Loops.l3 (k + 1) y0 y1 y2 y3 y4 y5 y6 y7 y8 y9)) ∧ (∀ y0 y1 y2 y3 y4 y5 y6 y7 y8 y9, LeO (flow_Loops.l4 k y0 y1 y2 y3 y4 y5 y6 y7 y8 y9) (flow_Loops.l4 (k + 1) y0 y1 y2 y3 y4 y5 y6 y7 y8 y9))
 | 0 => ⟨fun _ _ _ _ _ r h => by simp [flow_Loops.l0] at h, fun _ _ _ _ _ _ _ _ _ _ r h => by simp [flow_Loops.l1] at h, fun _ _ _ _ _ _ _ _ r h => by simp [flow_Loops.l2] at h, fun _ _ _ _ _ _ _ _ _ _ r h => by simp [flow_Loops.l3] at h, fun _ _ _ _ _ _ _ _ _ _ r h => by simp [flow_Loops.l4] at h⟩
 | k + 1 => by
  obtain ⟨ih0, ih1, ih2, ih3, ih4⟩ := flow_Loops.mono_l k
  refine ⟨?_, ?_, ?_, ?_, ?_⟩
  ·
   intro y0 y1 y2 y3 y4
   unfold flow_Loops.l0
   repeat' first
   | (with_reducible exact ih0 _ _ _ _ _)
   | (with_reducible exact ih1 _ _ _ _ _ _ _ _ _ _)
   | (with_reducible exact ih2 _ _ _ _ _ _ _ _)
   | (with_reducible exact ih3 _ _ _ _ _ _ _ _ _ _)
   | (with_reducible exact ih4 _ _ _ _ _ _ _ _ _ _)
   | (with_reducible exact flow_Inner.mono _ _ _ _ _)
   | (with_reducible exact flow_Loops_1.mono _ _ _ _)
   | (with_reducible exact flow_check.mono _ _ _)
   | (with_reducible exact flow_dominators.mono _ _ _)
   | (with_reducible exact slices_Contains_int_int.mono _ _ _)
   | (with_reducible exact LeO.refl _)
   | (with_reducible exact LeO.none _)
   | (with_reducible refine LeO.ite ?_ ?_)
   | (with_reducible refine LeO.bind ?_ (fun _ => ?_))
   | exact ih0 _ _ _ _ _
   | exact ih1 _ _ _ _ _ _ _ _ _ _
   | exact ih2 _ _ _ _ _ _ _ _
   | exact ih3 _ _ _ _ _ _ _ _ _ _
   | exact ih4 _ _ _ _ _ _ _ _ _ _
   | exact flow_Inner.mono _ _ _ _ _
   | exact flow_Loops_1.mono _ _ _ _
   | exact flow_check.mono _ _ _
   | exact flow_dominators.mono _ _ _
   | exact slices_Contains_int_int.mono _ _ _
   | exact LeO.none _
   | refine LeO.ite ?_ ?_
   | refine LeO.bind ?_ (fun _ => ?_)
  ·
   intro y0 y1 y2 y3 y4 y5 y6 y7 y8 y9
   unfold flow_Loops.l1
   repeat' first
   | (with_reducible exact ih0 _ _ _ _ _)
   | (with_reducible exact ih1 _ _ _ _ _ _ _ _ _ _)
   | (with_reducible exact ih2 _ _ _ _ _ _ _ _)
   | (with_reducible exact ih3 _ _ _ _ _ _ _ _ _ _)
   | (with_reducible exact ih4 _ _ _ _ _ _ _ _ _ _)
   | (with_reducible exact flow_Inner.mono _ _ _ _ _)
   | (with_reducible exact flow_Loops_1.mono _ _ _ _)
   | (with_reducible exact flow_check.mono _ _ _)
   | (with_reducible exact flow_dominators.mono _ _ _)
   | (with_reducible exact slices_Contains_int_int.mono _ _ _)
   | (with_reducible exact LeO.refl _)
   | (with_reducible exact LeO.none _)
   | (with_reducible refine LeO.ite ?_ ?_)
   | (with_reducible refine LeO.bind ?_ (fun _ => ?_))
   | exact ih0 _ _ _ _ _
   | exact ih1 _ _ _ _ _ _ _ _ _ _
   | exact ih2 _ _ _ _ _ _ _ _
   | exact ih3 _ _ _ _ _ _ _ _ _ _
   | exact ih4 _ _ _ _ _ _ _ _ _ _
   | exact flow_Inner.mono _ _ _ _ _
   | exact flow_Loops_1.mono _ _ _ _
   | exact flow_check.mono _ _ _
   | exact flow_dominators.mono _ _ _
   | exact slices_Contains_int_int.mono _ _ _
   | exact LeO.none _
   | refine LeO.ite ?_ ?_
   | refine LeO.bind ?_ (fun _ => ?_)
  ·
   intro y0 y1 y2 y3 y4 y5 y6 y7
   unfold flow_Loops.l2
   repeat' first
   | (with_reducible exact ih0 _ _ _ _ _)
   | (with_reducible exact ih1 _ _ _ _ _ _ _ _ _ _)
   | (with_reducible exact ih2 _ _ _ _ _ _ _ _)
   | (with_reducible exact ih3 _ _ _ _ _ _ _ _ _ _)
   | (with_reducible exact ih4 _ _ _ _ _ _ _ _ _ _)
   | (with_reducible exact flow_Inner.mono _ _ _ _ _)
   | (with_reducible exact flow_Loops_1.mono _ _ _ _)
   | (with_reducible exact flow_check.mono _ _ _)
   | (with_reducible exact flow_dominators.mono _ _ _)
   | (with_reducible exact slices_Contains_int_int.mono _ _ _)
   | (with_reducible exact LeO.refl _)
   | (with_reducible exact LeO.none _)
   | (with_reducible refine LeO.ite ?_ ?_)
   | (with_reducible refine LeO.bind ?_ (fun _ => ?_))
   | exact ih0 _ _ _ _ _
   | exact ih1 _ _ _ _ _ _ _ _ _ _
   | exact ih2 _ _ _ _ _ _ _ _
   | exact ih3 _ _ _ _ _ _ _ _ _ _
   | exact ih4 _ _ _ _ _ _ _ _ _ _
   | exact flow_Inner.mono _ _ _ _ _
   | exact flow_Loops_1.mono _ _ _ _
   | exact flow_check.mono _ _ _
   | exact flow_dominators.mono _ _ _
   | exact slices_Contains_int_int.mono _ _ _
   | exact LeO.none _
   | refine LeO.ite ?_ ?_
   | refine LeO.bind ?_ (fun _ => ?_)
  ·
   intro y0 y1 y2 y3 y4 y5 y6 y7 y8 y9
   unfold flow_Loops.l3
   repeat' first
   | (with_reducible exact ih0 _ _ _ _ _)
   | (with_reducible exact ih1 _ _ _ _ _ _ _ _ _ _)
   | (with_reducible exact ih2 _ _ _ _ _ _ _ _)
   | (with_reducible exact ih3 _ _ _ _ _ _ _ _ _ _)
   | (with_reducible exact ih4 _ _ _ _ _ _ _ _ _ _)
   | (with_reducible exact flow_Inner.mono _ _ _ _ _)
   | (with_reducible exact flow_Loops_1.mono _ _ _ _)
   | (with_reducible exact flow_check.mono _ _ _)
   | (with_reducible exact flow_dominators.mono _ _ _)
   | (with_reducible exact slices_Contains_int_int.mono _ _ _)
   | (with_reducible exact LeO.refl _)
   | (with_reducible exact LeO.none _)
   | (with_reducible refine LeO.ite ?_ ?_)
   | (with_reducible refine LeO.bind ?_ (fun _ => ?_))
   | exact ih0 _ _ _ _ _
   | exact ih1 _ _ _ _ _ _ _ _ _ _
   | exact ih2 _ _ _ _ _ _ _ _
   | exact ih3 _ _ _ _ _ _ _ _ _ _
   | exact ih4 _ _ _ _ _ _ _ _ _ _
   | exact flow_Inner.mono _ _ _ _ _
   | exact flow_Loops_1.mono _ _ _ _
   | exact flow_check.mono _ _ _
   | exact flow_dominators.mono _ _ _
   | exact slices_Contains_int_int.mono _ _ _
   | exact LeO.none _
   | refine LeO.ite ?_ ?_
   | refine LeO.bind ?_ (fun _ => ?_)
  ·
   intro y0 y1 y2 y3 y4 y5 y6 y7 y8 y9
   unfold flow_Loops.l4
   repeat' first
   | (with_reducible exact ih0 _ _ _ _ _)
   | (with_reducible exact ih1 _ _ _ _ _ _ _ _ _ _)
   | (with_reducible exact ih2 _ _ _ _ _ _ _ _)
   | (with_reducible exact ih3 _ _ _ _ _ _ _ _ _ _)
   | (with_reducible exact ih4 _ _ _ _ _ _ _ _ _ _)
   | (with_reducible exact flow_Inner.mono _ _ _ _ _)
   | (with_reducible exact flow_Loops_1.mono _ _ _ _)
   | (with_reducible exact flow_check.mono _ _ _)
   | (with_reducible exact flow_dominators.mono _ _ _)
   | (with_reducible exact slices_Contains_int_int.mono _ _ _)
   | (with_reducible exact LeO.refl _)
   | (with_reducible exact LeO.none _)
   | (with_reducible refine LeO.ite ?_ ?_)
   | (with_reducible refine LeO.bind ?_ (fun _ => ?_))
   | exact ih0 _ _ _ _ _
   | exact ih1 _ _ _ _ _ _ _ _ _ _
   | exact ih2 _ _ _ _ _ _ _ _
   | exact ih3 _ _ _ _ _ _ _ _ _ _
   | exact ih4 _ _ _ _ _ _ _ _ _ _
   | exact flow_Inner.mono _ _ _ _ _
   | exact flow_Loops_1.mono _ _ _ _
   | exact flow_check.mono _ _ _
   | exact flow_dominators.mono _ _ _
   | exact slices_Contains_int_int.mono _ _ _
   | exact LeO.none _
   | refine LeO.ite ?_ ?_
   | refine LeO.bind ?_ (fun _ => ?_)
set_option maxRecDepth 100000 in
theorem flow_Loops.mono : ∀ a0 a1 k, LeO (flow_Loops.f k a0 a1) (flow_Loops.f (k + 1) a0 a1) := by
 intro a0 a1 k
 obtain ⟨ih0, ih1, ih2, ih3, ih4⟩ := flow_Loops.mono_l k
 unfold flow_Loops.f
 repeat' first
   | (with_reducible exact ih0 _ _ _ _ _)
   | (with_reducible exact ih1 _ _ _ _ _ _ _ _ _ _)
   | (with_reducible exact ih2 _ _ _ _ _ _ _ _)
   | (with_reducible exact ih3 _ _ _ _ _ _ _ _ _ _)
   | (with_reducible exact ih4 _ _ _ _ _ _ _ _ _ _)
   | (with_reducible exact flow_Inner.mono _ _ _ _ _)
   | (with_reducible exact flow_Loops_1.mono _ _ _ _)
   | (with_reducible exact flow_check.mono _ _ _)
   | (with_reducible exact flow_dominators.mono _ _ _)
   | (with_reducible exact slices_Contains_int_int.mono _ _ _)
   | (with_reducible exact LeO.refl _)
   | (with_reducible exact LeO.none _)
   | (with_reducible refine LeO.ite ?_ ?_)
   | (with_reducible refine LeO.bind ?_ (fun _ => ?_))
   | exact ih0 _ _ _ _ _
   | exact ih1 _ _ _ _ _ _ _ _ _ _
   | exact ih2 _ _ _ _ _ _ _ _
   | exact ih3 _ _ _ _ _ _ _ _ _ _
   | exact ih4 _ _ _ _ _ _ _ _ _ _
   | exact flow_Inner.mono _ _ _ _ _
   | exact flow_Loops_1.mono _ _ _ _
   | exact flow_check.mono _ _ _
   | exact flow_dominators.mono _ _ _
   | exact slices_Contains_int_int.mono _ _ _
   | exact LeO.none _
   | refine LeO.ite ?_ ?_
   | refine LeO.bind ?_ (fun _ => ?_)
def flow_Loops.T27 : Bool × List (List Nat × List Nat) := (true, [([], []), ([], []), ([0, 1], [0, 1]), ([2], [2]), ([3], [3]), ([4], [4]), ([5], [5]), ([5], [5]), ([6, 7, 5], [5, 6, 7]), ([8, 5], [5, 8]), ([9, 5], [5, 9]), ([5, 10], [5, 10]), ([11, 5], [11]), ([12], [12]), ([12], [12]), ([13, 14, 12], [12, 13, 14]), ([15, 12], [12, 15]), ([16, 12, 12], [12, 16]), ([12], [12]), ([18, 12], [12, 18]), ([19, 12], [12, 19]), ([17, 20, 17, 12], [12, 17, 20]), ([12, 21], [12, 21])])
def flow_Loops.B27 : List Nat := [0, 0, 3, 7, 15, 31, 63, 63, 255, 511, 1023, 2047, 4095, 8191, 8191, 32767, 65535, 131071, 8191, 270335, 794623, 2097151, 4194303]
theorem flow_Loops.tab27 : rtab .any (opsOf Try.f24 27) = flow_Loops.T27 := by kernel_rfl
theorem flow_Loops.bits27 : waitsOk flow_Loops.T27.2 flow_Loops.B27 = true := by kernel_rfl
set_option maxHeartbeats 8000000 in
set_option maxRecDepth 100000 in
theorem flow_Loops.calls (k : Nat) (A0 : Option Addr) (c0 : Nat) (l0 : List (S62)) (a1 : Int) (r1 : List (S68)) (r2 : Int) (r3 : Int) (w : World) (hr0 : Kd.C k62 w A0 l0.length l0) (hc0 : l0.length ≤ c0) (h : flow_Loops.f k l0 a1 = some (r1, r2, r3)) :
  Calls Try.prog 24 #[.slice A0 l0.length c0, .int .i64 a1] w fun e w' => ∃ v0_ : Value, e = .returned (.tuple #[v0_, .agg #[.int .i64 r2, .int .i64 r3]]) ∧ Kd.S k68 68 w' w.heap.size (fun _ => True) v0_ r1 ∧ Below w.heap.size w w' := by
 have hu28 := Try.underlying28
 have hu22 := Try.underlying22
 have hu62 := Try.underlying62
 have hu68 := Try.underlying68
 have HR0 := Aside0.mk hr0
 have HC0 := Aside0.mk hc0
 clear hr0 hc0
 have HB := Aside0.mk (Below.refl w.heap.size w)
 have H : ((flow_check.f k l0 a1).bind fun bt164 => (if (!(bt164.1 == 0) || (!(bt164.2 == 0))) = true then (some (([] : List (S68)), bt164.1, bt164.2)) else ((flow_dominators.f k l0 a1).bind fun t167 => (flow_Loops.l0 k l0 ([] : List (S68)) (l0.length : Int) 0 t167)))) = some (r1, r2, r3) := h
 clear h
 replace H := Option.bind_eq_some_iff.mp H
 obtain ⟨⟨t164, t165⟩, A30, H⟩ := H
 replace H : (if (!(t164 == 0) || (!(t165 == 0))) = true then (some (([] : List (S68)), t164, t165)) else ((flow_dominators.f k l0 a1).bind fun t167 => (flow_Loops.l0 k l0 ([] : List (S68)) (l0.length : Int) 0 t167))) = some (r1, r2, r3) := H
 have A3 := Aside0.mk A30
 clear A30
 by_cases c4 : (!(t164 == 0) || (!(t165 == 0))) = true
 ·
  rw [if_pos c4] at H
  have c4b0 : (!(t164 == 0) || (!(t165 == 0))) = true := c4
  clear c4
  simp only [Option.some.injEq, Prod.mk.injEq] at H
  obtain ⟨rfl, rfl, rfl⟩ := H
  go_enter Try.func24, Try.ntmps24
  try go_wp2_with (first | ((with_reducible refine gate_dst (N := 5) rfl ?_); refine bx_ (N := 5) (cs := #[.int .i64 0, .int .i64 0]) (t := 28) ?_; intro gb163 hg w5 hbox hb; have BK163 := Aside0.mk hbox; have GW163 := bs_ HB hg; have GE163 := bs_ HB hg; replace HB := hs_ HB hb; clear hb hbox hg) | ((with_reducible refine gate_callee (f := 42) rfl ?_); refine goesL_ (some 20) rfl rfl Try.func42 (by kernel_rfl) rfl #[.slice A0 l0.length c0, .int .i64 a1] rfl ar_ ?_; (with_reducible refine (flow_check.calls k _ _ l0 a1 t164 t165 _ ?side1 ?side2 A3.out).mono ?_); (case side1 => exact cb_ HR0 HB); (case side2 => exact HC0.out); rintro e w6 ⟨rfl, hb⟩; refine ⟨_, rfl, ?_⟩; replace BK163 := bb_ BK163 hb; replace HB := hs_ HB hb; (try clear hb); (try clear hb2); (try clear hk); (try clear hi)) | ((with_reducible refine gate_dst (N := 6) rfl ?_); refine bx_ (N := 6) (cs := #[.int .i64 0, .int .i64 0]) (t := 28) ?_; intro gb166 hg w7 hbox hb; have BK166 := Aside0.mk hbox; have GW166 := bs_ HB hg; have GE166 := bs_ HB hg; have NB163_166 := nl_ BK163 hg; have NB166_163 := ng_ BK163 hg; replace BK163 := bb_ BK163 hb; replace HB := hs_ HB hb; clear hb hbox hg; have hnb8 := NB166_163.out; have hnc8 := NB163_166.out; obtain ⟨hcz9_0, hcz9_1, hfz9_0, hfz9_1⟩ := cz2_ BK166))
  have n0_ : Aside0 (((w7.setCell ⟨gb166, 0, none⟩ (.int .i64 t164)).setCell ⟨gb166, 1, none⟩ (.int .i64 t165)).heap[gb163]? = some (.cells #[.int .i64 0, .int .i64 0] 28 (0, 0))) := ⟨bk_ BK163⟩
  have n1_ : Aside0 (((w7.setCell ⟨gb166, 0, none⟩ (.int .i64 t164)).setCell ⟨gb166, 1, none⟩ (.int .i64 t165)).heap[gb166]? = some (.cells #[.int .i64 t164, .int .i64 t165] 28 (0, 0))) := ⟨bk_ BK166⟩
  have n2_ : Aside0 (Below w.heap.size w ((w7.setCell ⟨gb166, 0, none⟩ (.int .i64 t164)).setCell ⟨gb166, 1, none⟩ (.int .i64 t165))) := ⟨bw_ HB⟩
  (try clear BK163)
  (try clear BK166)
  (try clear HB)
  generalize ((w7.setCell ⟨gb166, 0, none⟩ (.int .i64 t164)).setCell ⟨gb166, 1, none⟩ (.int .i64 t165)) = w10 at n0_ n1_ n2_ ⊢
  have BK163 := n0_
  have BK166 := n1_
  have HB := n2_
  clear n0_ n1_ n2_
  have n0_ := Aside0.mk (blk_drew BK163.out)
  have n1_ := Aside0.mk (blk_drew BK166.out)
  have n2_ := Aside0.mk (below_drew1 HB.out)
  clear BK163
  clear BK166
  clear HB
  have BK163 := n0_
  have BK166 := n1_
  have HB := n2_
  clear n0_ n1_ n2_
  refine start_ (n := 3) (S := fun w' => w'.cell? ⟨gb166, 0, none⟩ = some (.int .i64 t164) ∧ w'.cell? ⟨gb166, 1, none⟩ = some (.int .i64 t165)) (ds := []) #[false, false, false] (by kernel_rfl) rfl rfl ⟨(blk_cell BK166.out 0).trans rfl, (blk_cell BK166.out 1).trans rfl⟩ (fun hHeld => ?_)
  generalize w10.drew = w11 at BK163 BK166 HB hHeld ⊢
  refine pure_ (i := 1) (N := some 4) (v := ?_) (a' := ?_) #[false, true, false] rfl rfl (by kernel_rfl) (fun _ _ _ h => h) (Or.inl ⟨by rfl, ?_⟩) ?_ ?_
  rotate_left
  ·
   intro w'
   go_simp
   with_reducible rfl
  rotate_left
  ·
   simp only [Act.put, List.setIfInBounds_toArray, List.set_cons_zero, List.set_cons_succ, i64_w, i32_w]
   rfl
  refine take_ (i := 0) (N := some 24) (v := ?_) (a' := ?_) #[true, true, false] rfl rfl (by kernel_rfl) (fun _ _ _ h => h) (Or.inl ⟨by rfl, ?_⟩) hHeld ?_ ?_
  rotate_left
  ·
   rintro w' ⟨s0, s1⟩
   go_simp
   with_reducible rfl
  rotate_left
  ·
   simp only [Act.put, List.setIfInBounds_toArray, List.set_cons_zero, List.set_cons_succ, i64_w, i32_w]
   rfl
  refine one_ (i := 2) (N := none) #[true, true, true] rfl rfl (by kernel_rfl) (by decide) (fun K hK => ?_)
  have hs12 : w11.cell? ⟨gb163, 0, none⟩ = some (.int .i64 0) := (blk_cell BK163.out 0).trans rfl
  have hfs12 := blk_frozen BK163.out 0
  have hns12_1 := NB166_163.out
  have hms12_1 := NB163_166.out
  have hs13 : w11.cell? ⟨gb163, 1, none⟩ = some (.int .i64 0) := (blk_cell BK163.out 1).trans rfl
  have hfs13 := blk_frozen BK163.out 1
  have hns13_1 := NB166_163.out
  have hms13_1 := NB163_166.out
  refine skip_ (w1 := ?_) (by rfl) rfl ?_ ?_
  rotate_left
  ·
   go_simp
   rfl
  refine hK.out _ _ ⟨((cell_far (p := ⟨gb163, _, none⟩) NB166_163.out _).trans (((cell_far (p := ⟨gb163, _, none⟩) NB166_163.out _).trans (hHeld.1)))), ((cell_far (p := ⟨gb163, _, none⟩) NB166_163.out _).trans (((cell_far (p := ⟨gb163, _, none⟩) NB166_163.out _).trans (hHeld.2))))⟩ (fun hHeld => ?_)
  clear hK K
  refine done_ (by kernel_rfl) ?_
  try go_wp2
  refine bodyPost_ret (results_tc rfl _ _ gb163 28 #[.int .i64 t164, .int .i64 t165] (0, 0) _ rfl (bk_ BK163) Try.underlying28 rfl (by kernel_rfl)) rfl ?_
  exact ⟨_, by first | rfl | (simp [errW_none, errW_some] <;> rfl) | (simp [*, errW_none, errW_some] <;> rfl), by first | exact Kd.S_nil _ _ _ _ _ | exact Kd.N_nil _ _ _ _ _ | exact Kd.V_nil _ _ _ _ _ | exact Kd.Q_nil _ _ _ _ _ | exact Kd.R_nil _ _ _ _ _, bw_ HB⟩
 ·
  rw [if_neg c4] at H
  have c4b0 : (!(t164 == 0) || (!(t165 == 0))) = false := by simpa using c4
  clear c4
  replace H := Option.bind_eq_some_iff.mp H
  obtain ⟨t167, A140, H⟩ := H
  replace H : (flow_Loops.l0 k l0 ([] : List (S68)) (l0.length : Int) 0 t167) = some (r1, r2, r3) := H
  have A14 := Aside0.mk A140
  clear A140
  have H' := Aside0.mk H
  clear H
  go_enter Try.func24, Try.ntmps24
  go_wp2_with (first | ((with_reducible refine gate_dst (N := 5) rfl ?_); refine bx_ (N := 5) (cs := #[.int .i64 0, .int .i64 0]) (t := 28) ?_; intro gb163 hg w15 hbox hb; have BK163 := Aside0.mk hbox; have GW163 := bs_ HB hg; have GE163 := bs_ HB hg; replace HB := hs_ HB hb; clear hb hbox hg) | ((with_reducible refine gate_callee (f := 42) rfl ?_); refine goesL_ (some 20) rfl rfl Try.func42 (by kernel_rfl) rfl #[.slice A0 l0.length c0, .int .i64 a1] rfl ar_ ?_; (with_reducible refine (flow_check.calls k _ _ l0 a1 t164 t165 _ ?side1 ?side2 A3.out).mono ?_); (case side1 => exact cb_ HR0 HB); (case side2 => exact HC0.out); rintro e w16 ⟨rfl, hb⟩; refine ⟨_, rfl, ?_⟩; replace BK163 := bb_ BK163 hb; replace HB := hs_ HB hb; (try clear hb); (try clear hb2); (try clear hk); (try clear hi)) | ((with_reducible refine gate_dst (N := 6) rfl ?_); refine bx_ (N := 6) (cs := #[.int .i64 0, .int .i64 0]) (t := 28) ?_; intro gb166 hg w17 hbox hb; have BK166 := Aside0.mk hbox; have GW166 := bs_ HB hg; have GE166 := bs_ HB hg; have NB163_166 := nl_ BK163 hg; have NB166_163 := ng_ BK163 hg; replace BK163 := bb_ BK163 hb; replace HB := hs_ HB hb; clear hb hbox hg; have hnb18 := NB166_163.out; have hnc18 := NB163_166.out; obtain ⟨hcz19_0, hcz19_1, hfz19_0, hfz19_1⟩ := cz2_ BK166) | ((with_reducible refine gate_callee (f := 43) rfl ?_); refine goesL_ (some 27) rfl rfl Try.func43 (by kernel_rfl) rfl #[.slice A0 l0.length c0, .int .i64 a1] rfl ar_ ?_; (with_reducible refine (flow_dominators.calls k _ _ l0 a1 t167 _ ?side1 ?side2 A14.out).mono ?_); (case side1 => exact cb_ HR0 HB); (case side2 => exact HC0.out); rintro e w20 ⟨v168, rfl, ho0, hb⟩; refine ⟨_, rfl, ?_⟩; have n0_ := Aside0.mk (Kd.R_lower ho0 (below_size (bw_ HB))); have n1_ := Aside0.mk (blk_below (g := gb163) (o := .cells #[.int .i64 0, .int .i64 0] 28 (0, 0)) (bk_ BK163) hb); have n2_ := Aside0.mk (blk_below (g := gb166) (o := .cells #[.int .i64 t164, .int .i64 t165] 28 (0, 0)) (bk_ BK166) hb); have n3_ := Aside0.mk (below_step (bw_ HB) hb); clear BK163; clear BK166; clear HB; have HO169 := n0_; have BK163 := n1_; have BK166 := n2_; have HB := n3_; clear n0_ n1_ n2_ n3_; (try clear hb); (try clear hb2); (try clear hk); (try clear hi); (try clear ho0)) | ((with_reducible refine gate_dst (N := 7) rfl ?_); refine bx_ (N := 7) (cs := #[.slice none 0 0]) (t := 22) ?_; intro gb170 hg w21 hbox hb; have n0_ := Aside0.mk (Kd.R_below (by (with_reducible repeat (first | apply Kd.R_alloc | apply Kd.R_drewN | apply Kd.R_drew)); exact HO169.out) hb); have n1_ := Aside0.mk (blk_below (g := gb163) (o := .cells #[.int .i64 0, .int .i64 0] 28 (0, 0)) (bk_ BK163) hb); have n2_ := Aside0.mk (blk_below (g := gb166) (o := .cells #[.int .i64 t164, .int .i64 t165] 28 (0, 0)) (bk_ BK166) hb); have n3_ := Aside0.mk (below_step (bw_ HB) hb); have n4_ := Aside0.mk (hbox); have n5_ := Aside0.mk ((by rw [hg]; exact (below_size (bw_ HB)) : w.heap.size ≤ gb170)); have n6_ := Aside0.mk ((by rw [hg]; exact (below_size (bw_ HB)) : w.heap.size ≤ gb170)); have n7_ := Aside0.mk ((by rw [hg]; exact Nat.ne_of_lt (blk_lt (g := gb163) (o := .cells #[.int .i64 0, .int .i64 0] 28 (0, 0)) (bk_ BK163)) : gb163 ≠ gb170)); have n8_ := Aside0.mk ((by rw [hg]; exact Nat.ne_of_gt (blk_lt (g := gb163) (o := .cells #[.int .i64 0, .int .i64 0] 28 (0, 0)) (bk_ BK163)) : gb170 ≠ gb163)); have n9_ := Aside0.mk ((by rw [hg]; exact Nat.ne_of_lt (blk_lt (g := gb166) (o := .cells #[.int .i64 t164, .int .i64 t165] 28 (0, 0)) (bk_ BK166)) : gb166 ≠ gb170)); have n10_ := Aside0.mk ((by rw [hg]; exact Nat.ne_of_gt (blk_lt (g := gb166) (o := .cells #[.int .i64 t164, .int .i64 t165] 28 (0, 0)) (bk_ BK166)) : gb170 ≠ gb166)); clear HO169; clear BK163; clear BK166; clear HB; have HO169 := n0_; have BK163 := n1_; have BK166 := n2_; have HB := n3_; have BK170 := n4_; have GW170 := n5_; have GE170 := n6_; have NB163_170 := n7_; have NB170_163 := n8_; have NB166_170 := n9_; have NB170_166 := n10_; clear n0_ n1_ n2_ n3_ n4_ n5_ n6_ n7_ n8_ n9_ n10_; clear hb hbox hg; obtain ⟨Ao22, co22, eo22⟩ := Kd.R_slice HO169.out; subst eo22; have hnb23 := NB170_163.out; have hnc23 := NB163_170.out; have hnb24 := NB170_166.out; have hnc24 := NB166_170.out; have hcz25_0 : w21.cell? ⟨gb170, 0, none⟩ = some (.slice none 0 0) := (blk_cell BK170.out 0).trans rfl; have hfz25_0 := blk_frozen BK170.out 0))
  go_loopg [9, 31] k (fun kq v9 v31 w' => ∃ (x9_1 : List (S68)) (x31_1 : Int), v31 = .int .i64 x31_1 ∧ Aside0 (flow_Loops.l0 kq l0 x9_1 (l0.length : Int) x31_1 t167 = some (r1, r2, r3)) ∧ Aside0 (kq ≤ k) ∧ Aside0 (Kd.S k68 68 w' w.heap.size (fun k_ => some k_ ≠ ((.slice Ao22 t167.length co22) : Value).ownBlock) v9 x9_1) ∧ Aside0 (Kd.R (Kd.int .i64) 3 w' w.heap.size (fun _ => True) (.slice Ao22 t167.length co22) t167) ∧ Aside0 (w'.heap[gb163]? = some (.cells #[.int .i64 0, .int .i64 0] 28 (0, 0))) ∧ Aside0 (w'.heap[gb166]? = some (.cells #[.int .i64 t164, .int .i64 t165] 28 (0, 0))) ∧ Aside0 (w'.heap[gb170]? = some (.cells #[(.slice Ao22 t167.length co22)] 22 (0, 0))) ∧ Aside0 (Below w.heap.size w w'))
  case atStart => exact ⟨(([] : List (S68))), (0), rs_, H', ⟨Nat.le_refl _⟩, ⟨by first | exact Kd.S_nil _ _ _ _ _ | exact Kd.N_nil _ _ _ _ _ | exact Kd.V_nil _ _ _ _ _ | exact Kd.Q_nil _ _ _ _ _ | exact Kd.R_nil _ _ _ _ _⟩, ⟨by (with_reducible repeat (first | apply Kd.R_alloc | apply Kd.R_drewN | apply Kd.R_drew)); exact Kd.R_mono (Kd.R_far (p := ⟨gb170, 0, none⟩) (Kd.R_types HO169.out BK170.out (by decide)) (fun _ hk => hk.2) (.slice Ao22 t167.length co22)) (fun _ hk => trivial)⟩, ⟨bk_ BK163⟩, ⟨bk_ BK166⟩, ⟨by (with_reducible repeat (first | refine blk_drewN ?_ _ | refine blk_drew ?_ | refine blk_alloc ?_ _)); refine blk_put (cs := #[.slice none 0 0]) ?_ 0 _ rfl; (with_reducible repeat (first | refine blk_drewN ?_ _ | refine blk_drew ?_ | refine blk_alloc ?_ _)); exact BK170.out⟩, ⟨bw_ HB⟩⟩
  case round =>
   clear H'
   (try clear c1); (try clear c2); (try clear p2); (try clear c4); (try clear c4b0); (try clear c8); (try clear c18); (try clear c23); (try clear c24); (try clear hcz19_0); (try clear hcz19_1); (try clear hcz25_0); (try clear hcz9_0); (try clear hcz9_1); (try clear hfz19_0); (try clear hfz19_1); (try clear hfz25_0); (try clear hfz9_0); (try clear hfz9_1)
   obtain ⟨x9_1, x31_1, rfl, HA, HK1, HO_9, HO_171000, BK163, BK166, BK170, HB⟩ := hrel
   cases gk with
   | zero => exact absurd HA.out (by simp [flow_Loops.l0])
   | succ k1 =>
    have H := HA.out
    clear HA
    simp only [flow_Loops.l0] at H
    by_cases c26 : x31_1 < (l0.length : Int)
    ·
     rw [if_pos c26] at H
     have c26b0 : decide (x31_1 < (l0.length : Int)) = true := decide_eq_true c26
     clear c26
     by_cases c27 : 0 ≤ (l0.length : Int)
     ·
      rw [if_pos c27] at H
      have c27b0 := eq_true c27
      have c27b1 : decide (0 ≤ (l0.length : Int)) = true := decide_eq_true c27
      clear c27
      by_cases c28 : ((l0.length : Int) : Int).toNat ≤ 281474976710656
      ·
       rw [if_pos c28] at H
       have c28b0 := eq_true c28
       have c28b1 : decide (((l0.length : Int) : Int).toNat ≤ 281474976710656) = true := decide_eq_true c28
       clear c28
       obtain ⟨y171, hy171⟩ : ∃ y_ : List Bool, y_ = (List.replicate ((l0.length : Int) : Int).toNat false) := ⟨_, rfl⟩
       replace H : (flow_Loops.l1 k1 l0 x9_1 x31_1 y171 ([] : List Int) (l0.length : Int) x31_1 (l0.length : Int) 0 t167) = some (r1, r2, r3) := by first | (rw [hy171]; with_reducible exact H) | (have H2_ := (Option.bind_some _ _).symm.trans H; rw [hy171]; with_reducible exact H2_) | (have H2_ := (Option.bind_some _ _).symm.trans H; with_reducible exact H2_) | with_reducible exact H | (rw [hy171]; exact H) | exact H
       have Ny171 := Aside0.mk hy171
       clear hy171
       have H' := Aside0.mk H
       clear H
       go_wp2_with (first | ((with_reducible refine gate_dst (N := 36) rfl ?_); refine Kd.R_make Kd.bool _ 4 rfl (N := 36) rfl 54 _ _ rfl (l0.length : Int) rfl rfl Try.underlying54 (.bool false) 1 info4 rfl (by decide) (by omega) false (ok := fun _ => True) (okp := fun _ => True) rfl (fun _ hk => hk) trivial (of_decide_eq_true (by first | (with_reducible assumption) | assumption)) (Nat.le_trans (Nat.mul_le_mul_right _ (of_decide_eq_true (by first | (with_reducible assumption) | assumption) : (l0.length : Int).toNat ≤ 281474976710656)) (by omega)) (Below.refl _ _) (Nat.le_refl _) ?_; intro v172 w29 ho30 hb hg_ hnew_; clear hg_ hnew_; (first | rw [← Ny171.out] at ho30 | (simp only [Int.reduceToNat] at ho30; rw [← Ny171.out] at ho30)); have n0_ := Aside0.mk (Kd.S_below (by (with_reducible repeat (first | apply Kd.S_alloc | apply Kd.S_drewN | apply Kd.S_drew)); exact HO_9.out) hb); have n1_ := Aside0.mk (Kd.R_below (by (with_reducible repeat (first | apply Kd.R_alloc | apply Kd.R_drewN | apply Kd.R_drew)); exact HO_171000.out) hb); have n2_ := Aside0.mk (Kd.R_lower ho30 (below_size (bw_ HB))); have n3_ := Aside0.mk (blk_below (g := gb163) (o := .cells #[.int .i64 0, .int .i64 0] 28 (0, 0)) (bk_ BK163) hb); have n4_ := Aside0.mk (blk_below (g := gb166) (o := .cells #[.int .i64 t164, .int .i64 t165] 28 (0, 0)) (bk_ BK166) hb); have n5_ := Aside0.mk (blk_below (g := gb170) (o := .cells #[.slice Ao22 t167.length co22] 22 (0, 0)) (bk_ BK170) hb); have n6_ := Aside0.mk (below_step (bw_ HB) hb); clear HO_9; clear HO_171000; clear BK163; clear BK166; clear BK170; clear HB; have HO_9 := n0_; have HO_171000 := n1_; have HO173 := n2_; have BK163 := n3_; have BK166 := n4_; have BK170 := n5_; have HB := n6_; clear n0_ n1_ n2_ n3_ n4_ n5_ n6_; clear hb ho30))
       go_loopg [12, 39] k1 (fun kq v12 v39 w' => ∃ (x11_2 : List Bool) (x12_2 : List Int) (x39_2 : Int), v39 = .int .i64 x39_2 ∧ Aside0 (flow_Loops.l1 kq l0 x9_1 x31_1 x11_2 x12_2 (l0.length : Int) x31_1 (l0.length : Int) x39_2 t167 = some (r1, r2, r3)) ∧ Aside0 (kq ≤ k1) ∧ Aside0 (Kd.S k68 68 w' w.heap.size (fun k_ => some k_ ≠ (v12 : Value).ownBlock ∧ some k_ ≠ ((.slice Ao22 t167.length co22) : Value).ownBlock) u9 x9_1) ∧ Aside0 (Kd.R Kd.bool 4 w' w.heap.size (fun _ => True) v172 x11_2) ∧ Aside0 (Kd.Q (Kd.int .i64) 3 w' w.heap.size (fun k_ => some k_ ≠ ((.slice Ao22 t167.length co22) : Value).ownBlock) v12 x12_2) ∧ Aside0 (Kd.R (Kd.int .i64) 3 w' w.heap.size (fun k_ => some k_ ≠ (v12 : Value).ownBlock) (.slice Ao22 t167.length co22) t167) ∧ Aside0 (w'.heap[gb163]? = some (.cells #[.int .i64 0, .int .i64 0] 28 (0, 0))) ∧ Aside0 (w'.heap[gb166]? = some (.cells #[.int .i64 t164, .int .i64 t165] 28 (0, 0))) ∧ Aside0 (w'.heap[gb170]? = some (.cells #[(.slice Ao22 t167.length co22)] 22 (0, 0))) ∧ Aside0 (Below w.heap.size w w'))
       case atStart => exact ⟨(y171), (([] : List Int)), (0), rs_, H', ⟨Nat.le_refl _⟩, ⟨by (with_reducible repeat (first | apply Kd.S_alloc | apply Kd.S_drewN | apply Kd.S_drew)); exact Kd.S_mono HO_9.out (fun _ hk => ⟨(by simp [Value.ownBlock]), hk⟩)⟩, ⟨by (with_reducible repeat (first | apply Kd.R_alloc | apply Kd.R_drewN | apply Kd.R_drew)); exact HO173.out⟩, ⟨Kd.Q_of_R (by first | exact Kd.R_nil _ _ _ _ _ | exact Kd.N_nil _ _ _ _ _ | exact Kd.V_nil _ _ _ _ _ | exact Kd.Q_nil _ _ _ _ _ | exact Kd.S_nil _ _ _ _ _)⟩, ⟨by (with_reducible repeat (first | apply Kd.R_alloc | apply Kd.R_drewN | apply Kd.R_drew)); exact Kd.R_mono HO_171000.out (fun _ hk => (by simp [Value.ownBlock]))⟩, ⟨bk_ BK163⟩, ⟨bk_ BK166⟩, ⟨bk_ BK170⟩, ⟨bw_ HB⟩⟩
       case round =>
        clear H'
        (try clear c1); (try clear c2); (try clear p2); (try clear c4); (try clear c4b0); (try clear c8); (try clear c18); (try clear c23); (try clear c24); (try clear c26); (try clear c26b0); (try clear c27); (try clear c27b0); (try clear c27b1); (try clear c28); (try clear c28b0); (try clear c28b1); (try clear hcz19_0); (try clear hcz19_1); (try clear hcz25_0); (try clear hcz9_0); (try clear hcz9_1); (try clear hfz19_0); (try clear hfz19_1); (try clear hfz25_0); (try clear hfz9_0); (try clear hfz9_1); (try clear p2)
        obtain ⟨x11_2, x12_2, x39_2, rfl, HA, HK2, HO_9, HO_11, HO_12, HO_171000, BK163, BK166, BK170, HB⟩ := hrel
        cases gk with
        | zero => exact absurd HA.out (by simp [flow_Loops.l1])
        | succ k2 =>
         have H := HA.out
         clear HA
         simp only [flow_Loops.l1] at H
         by_cases c31 : x39_2 < (l0.length : Int)
         ·
          rw [if_pos c31] at H
          have c31b0 : decide (x39_2 < (l0.length : Int)) = true := decide_eq_true c31
          clear c31
          by_cases c32 : 0 ≤ x39_2
          ·
           rw [if_pos c32] at H
           have c32b0 : decide (0 ≤ x39_2) = true := decide_eq_true c32
           clear c32
           by_cases c33 : x39_2 < (t167.length : Int)
           ·
            rw [if_pos c33] at H
            have c33b0 : decide (x39_2 < (t167.length : Int)) = true := decide_eq_true c33
            clear c33
            by_cases c34 : (rd t167 x39_2) ≥ 0
            ·
             rw [if_pos c34] at H
             have c34b0 : decide (0 ≤ (rd t167 x39_2)) = true := decide_eq_true c34
             clear c34
             by_cases c35 : 0 ≤ x31_1
             ·
              rw [if_pos c35] at H
              have c35b0 : decide (0 ≤ x31_1) = true := decide_eq_true c35
              clear c35
              by_cases c36 : x31_1 < (t167.length : Int)
              ·
               rw [if_pos c36] at H
               have c36b0 : decide (x31_1 < (t167.length : Int)) = true := decide_eq_true c36
               clear c36
               by_cases c37 : (rd t167 x31_1) ≥ 0
               ·
                rw [if_pos c37] at H
                have c37b0 : decide (0 ≤ (rd t167 x31_1)) = true := decide_eq_true c37
                clear c37
                by_cases c38 : x39_2 < (l0.length : Int)
                ·
                 rw [if_pos c38] at H
                 have c38b0 : decide (x39_2 < (l0.length : Int)) = true := decide_eq_true c38
                 clear c38
                 replace H := Option.bind_eq_some_iff.mp H
                 obtain ⟨t177, A390, H⟩ := H
                 replace H : ((slices_Contains_int_int.f k2 t177 x31_1).bind fun t180 => (if t180 = true then ((flow_Loops_1.f k2 x31_1 x39_2 t167).bind fun t181 => (if t181 = true then (if x39_2 < (x11_2.length : Int) then (if rdOf false x11_2 x39_2 = true then (flow_Loops.l1 k2 l0 x9_1 x31_1 x11_2 x12_2 (l0.length : Int) x31_1 (l0.length : Int) (wrap64 (x39_2 + 1)) t167) else (if x12_2.length < 17592186044416 then (flow_Loops.l1 k2 l0 x9_1 x31_1 (x11_2.set (x39_2 : Int).toNat true) (x12_2 ++ [x39_2]) (l0.length : Int) x31_1 (l0.length : Int) (wrap64 (x39_2 + 1)) t167) else (none))) else (none)) else (flow_Loops.l1 k2 l0 x9_1 x31_1 x11_2 x12_2 (l0.length : Int) x31_1 (l0.length : Int) (wrap64 (x39_2 + 1)) t167))) else (flow_Loops.l1 k2 l0 x9_1 x31_1 x11_2 x12_2 (l0.length : Int) x31_1 (l0.length : Int) (wrap64 (x39_2 + 1)) t167))) = some (r1, r2, r3) := H
                 have A39 := Aside0.mk A390
                 clear A390
                 replace H := Option.bind_eq_some_iff.mp H
                 obtain ⟨t180, A400, H⟩ := H
                 replace H : (if t180 = true then ((flow_Loops_1.f k2 x31_1 x39_2 t167).bind fun t181 => (if t181 = true then (if x39_2 < (x11_2.length : Int) then (if rdOf false x11_2 x39_2 = true then (flow_Loops.l1 k2 l0 x9_1 x31_1 x11_2 x12_2 (l0.length : Int) x31_1 (l0.length : Int) (wrap64 (x39_2 + 1)) t167) else (if x12_2.length < 17592186044416 then (flow_Loops.l1 k2 l0 x9_1 x31_1 (x11_2.set (x39_2 : Int).toNat true) (x12_2 ++ [x39_2]) (l0.length : Int) x31_1 (l0.length : Int) (wrap64 (x39_2 + 1)) t167) else (none))) else (none)) else (flow_Loops.l1 k2 l0 x9_1 x31_1 x11_2 x12_2 (l0.length : Int) x31_1 (l0.length : Int) (wrap64 (x39_2 + 1)) t167))) else (flow_Loops.l1 k2 l0 x9_1 x31_1 x11_2 x12_2 (l0.length : Int) x31_1 (l0.length : Int) (wrap64 (x39_2 + 1)) t167)) = some (r1, r2, r3) := H
                 have A40 := Aside0.mk A400
                 clear A400
                 by_cases c41 : t180 = true
                 ·
                  subst c41
                  have H1 : ((flow_Loops_1.f k2 x31_1 x39_2 t167).bind fun t181 => (if t181 = true then (if x39_2 < (x11_2.length : Int) then (if rdOf false x11_2 x39_2 = true then (flow_Loops.l1 k2 l0 x9_1 x31_1 x11_2 x12_2 (l0.length : Int) x31_1 (l0.length : Int) (wrap64 (x39_2 + 1)) t167) else (if x12_2.length < 17592186044416 then (flow_Loops.l1 k2 l0 x9_1 x31_1 (x11_2.set (x39_2 : Int).toNat true) (x12_2 ++ [x39_2]) (l0.length : Int) x31_1 (l0.length : Int) (wrap64 (x39_2 + 1)) t167) else (none))) else (none)) else (flow_Loops.l1 k2 l0 x9_1 x31_1 x11_2 x12_2 (l0.length : Int) x31_1 (l0.length : Int) (wrap64 (x39_2 + 1)) t167))) = some (r1, r2, r3) := by rw [if_pos rfl] at H; exact H
                  clear H
                  have H := H1
                  clear H1
                  replace H := Option.bind_eq_some_iff.mp H
                  obtain ⟨t181, A420, H⟩ := H
                  replace H : (if t181 = true then (if x39_2 < (x11_2.length : Int) then (if rdOf false x11_2 x39_2 = true then (flow_Loops.l1 k2 l0 x9_1 x31_1 x11_2 x12_2 (l0.length : Int) x31_1 (l0.length : Int) (wrap64 (x39_2 + 1)) t167) else (if x12_2.length < 17592186044416 then (flow_Loops.l1 k2 l0 x9_1 x31_1 (x11_2.set (x39_2 : Int).toNat true) (x12_2 ++ [x39_2]) (l0.length : Int) x31_1 (l0.length : Int) (wrap64 (x39_2 + 1)) t167) else (none))) else (none)) else (flow_Loops.l1 k2 l0 x9_1 x31_1 x11_2 x12_2 (l0.length : Int) x31_1 (l0.length : Int) (wrap64 (x39_2 + 1)) t167)) = some (r1, r2, r3) := H
                  have A42 := Aside0.mk A420
                  clear A420
                  by_cases c43 : t181 = true
                  ·
                   subst c43
                   have H1 : (if x39_2 < (x11_2.length : Int) then (if rdOf false x11_2 x39_2 = true then (flow_Loops.l1 k2 l0 x9_1 x31_1 x11_2 x12_2 (l0.length : Int) x31_1 (l0.length : Int) (wrap64 (x39_2 + 1)) t167) else (if x12_2.length < 17592186044416 then (flow_Loops.l1 k2 l0 x9_1 x31_1 (x11_2.set (x39_2 : Int).toNat true) (x12_2 ++ [x39_2]) (l0.length : Int) x31_1 (l0.length : Int) (wrap64 (x39_2 + 1)) t167) else (none))) else (none)) = some (r1, r2, r3) := by rw [if_pos rfl] at H; exact H
                   clear H
                   have H := H1
                   clear H1
                   by_cases c44 : x39_2 < (x11_2.length : Int)
                   ·
                    rw [if_pos c44] at H
                    have c44b0 : decide (x39_2 < (x11_2.length : Int)) = true := decide_eq_true c44
                    clear c44
                    obtain ⟨bq45, hbq45⟩ : ∃ b_ : Bool, b_ = (rdOf false x11_2 x39_2) := ⟨_, rfl⟩
                    replace H : (if bq45 = true then (flow_Loops.l1 k2 l0 x9_1 x31_1 x11_2 x12_2 (l0.length : Int) x31_1 (l0.length : Int) (wrap64 (x39_2 + 1)) t167) else (if x12_2.length < 17592186044416 then (flow_Loops.l1 k2 l0 x9_1 x31_1 (x11_2.set (x39_2 : Int).toNat true) (x12_2 ++ [x39_2]) (l0.length : Int) x31_1 (l0.length : Int) (wrap64 (x39_2 + 1)) t167) else (none))) = some (r1, r2, r3) := by rw [← hbq45] at H; exact H
                    have Nbq45 := Aside0.mk hbq45
                    clear hbq45
                    by_cases c46 : bq45 = true
                    ·
                     subst c46
                     have H1 : (flow_Loops.l1 k2 l0 x9_1 x31_1 x11_2 x12_2 (l0.length : Int) x31_1 (l0.length : Int) (wrap64 (x39_2 + 1)) t167) = some (r1, r2, r3) := by rw [if_pos rfl] at H; exact H
                     clear H
                     have H := H1
                     clear H1
                     have H' := Aside0.mk H
                     clear H
                     have hnb47 := NB170_163.out
                     have hnc47 := NB163_170.out
                     have hnb48 := NB170_166.out
                     have hnc48 := NB166_170.out
                     have hcz49_0 : wr.cell? ⟨gb170, 0, none⟩ = some (.slice Ao22 t167.length co22) := (blk_cell BK170.out 0).trans rfl
                     have hfz49_0 := blk_frozen BK170.out 0
                     have p174 : 0 ≤ (x39_2 : Int) := of_decide_eq_true (by first | (with_reducible assumption) | assumption)
                     have q174 : x39_2 < (t167.length : Int) := of_decide_eq_true (by first | (with_reducible assumption) | assumption)
                     obtain ⟨ad174, e174, hx174_0⟩ := Kd.at_int (Kd.R_reads' HO_171000.out).2.2 x39_2 p174 q174
                     cases e174
                     replace p174 := eq_true p174
                     replace q174 := eq_true q174
                     have p175 : 0 ≤ (x31_1 : Int) := of_decide_eq_true (by first | (with_reducible assumption) | assumption)
                     have q175 : x31_1 < (t167.length : Int) := of_decide_eq_true (by first | (with_reducible assumption) | assumption)
                     obtain ⟨ad175, e175, hx175_0⟩ := Kd.at_int (Kd.R_reads' HO_171000.out).2.2 x31_1 p175 q175
                     obtain rfl : ad174 = ad175 := (by injection e175)
                     replace p175 := eq_true p175
                     replace q175 := eq_true q175
                     have p176 : 0 ≤ (x39_2 : Int) := of_decide_eq_true (by first | (with_reducible assumption) | assumption)
                     have q176 : x39_2 < (l0.length : Int) := of_decide_eq_true (by first | (with_reducible assumption) | assumption)
                     obtain ⟨ad176, A176_3, c176_3, e176, hx176_0, hx176_1, hx176_2, hx176_3, hl176_3, hi176_3⟩ := at_T62 HR0.out x39_2 p176 q176
                     cases e176
                     replace hx176_0 := (HB.out.cell (World.block_lt_of_cell? w _ hx176_0)).trans hx176_0
                     replace hx176_1 := (HB.out.cell (World.block_lt_of_cell? w _ hx176_1)).trans hx176_1
                     replace hx176_2 := (HB.out.cell (World.block_lt_of_cell? w _ hx176_2)).trans hx176_2
                     replace hx176_3 := (HB.out.cell (World.block_lt_of_cell? w _ hx176_3)).trans hx176_3
                     have HR176_3 := Aside0.mk hi176_3
                     have HC176_3 := Aside0.mk hl176_3
                     clear hi176_3 hl176_3
                     replace p176 := eq_true p176
                     replace q176 := eq_true q176
                     go_wp2_with (first | (go_at_call 48; (with_reducible refine (flow_Inner.calls k2 ((rd_T62 l0 x39_2).f0) ((rd_T62 l0 x39_2).f1) ((rd_T62 l0 x39_2).f2) _ _ ((rd_T62 l0 x39_2).f3) t177 _ ?side1 ?side2 A39.out).mono ?_); (case side1 => exact cb_ HR176_3 HB); (case side2 => exact HC176_3.out); rintro e w50 ⟨v178, rfl, ho0, hb⟩; have n0_ := Aside0.mk (Kd.S_elder' (by (with_reducible repeat (first | apply Kd.S_alloc | apply Kd.S_drewN | apply Kd.S_drew)); exact HO_9.out) (Kd.R_base ho0) hb); have n1_ := Aside0.mk (Kd.R_below (by (with_reducible repeat (first | apply Kd.R_alloc | apply Kd.R_drewN | apply Kd.R_drew)); exact HO_11.out) hb); have n2_ := Aside0.mk (Kd.Q_elder' (by (with_reducible repeat (first | apply Kd.Q_alloc | apply Kd.Q_drewN | apply Kd.Q_drew)); exact HO_12.out) (Kd.R_base ho0) hb); have n3_ := Aside0.mk (Kd.R_elder' (by (with_reducible repeat (first | apply Kd.R_alloc | apply Kd.R_drewN | apply Kd.R_drew)); exact HO_171000.out) (Kd.R_base ho0) hb); have n4_ := Aside0.mk (Kd.R_lower (Kd.R_new' (Kd.R_new' ho0 (Kd.Q_lt (by (with_reducible repeat (first | apply Kd.Q_alloc | apply Kd.Q_drewN | apply Kd.Q_drew)); exact HO_12.out))) (Kd.R_lt (by (with_reducible repeat (first | apply Kd.R_alloc | apply Kd.R_drewN | apply Kd.R_drew)); exact HO_171000.out))) (below_size (bw_ HB))); have n5_ := Aside0.mk (blk_below (g := gb163) (o := .cells #[.int .i64 0, .int .i64 0] 28 (0, 0)) (bk_ BK163) hb); have n6_ := Aside0.mk (blk_below (g := gb166) (o := .cells #[.int .i64 t164, .int .i64 t165] 28 (0, 0)) (bk_ BK166) hb); have n7_ := Aside0.mk (blk_below (g := gb170) (o := .cells #[.slice (some ad174) t167.length co22] 22 (0, 0)) (bk_ BK170) hb); have n8_ := Aside0.mk (below_step (bw_ HB) hb); clear HO_9; clear HO_11; clear HO_12; clear HO_171000; clear BK163; clear BK166; clear BK170; clear HB; have HO_9 := n0_; have HO_11 := n1_; have HO_12 := n2_; have HO_171000 := n3_; have HO179 := n4_; have BK163 := n5_; have BK166 := n6_; have BK170 := n7_; have HB := n8_; clear n0_ n1_ n2_ n3_ n4_ n5_ n6_ n7_ n8_; (try clear hb); (try clear hb2); (try clear hk); (try clear hi); (try clear ho0); obtain ⟨Ao51, co51, eo51⟩ := Kd.R_slice HO179.out; subst eo51) | (go_at_call 47; (with_reducible refine (slices_Contains_int_int.calls k2 _ _ t177 x31_1 true _ ?side1 ?side2 A40.out).mono ?_); (case side1 => repeat (first | exact (Kd.R_reads' HO179.out).2.2 | (with_reducible refine Kd.C_alloc ?_ _) | (with_reducible refine Kd.C_drewN ?_ _) | (with_reducible refine Kd.C_drew ?_))); (case side2 => exact (Kd.R_reads' HO179.out).2.1); rintro e w' ⟨rfl, ⟨nd, rfl⟩⟩) | (go_at_call 46; (with_reducible refine (flow_Loops_1.calls k2 x31_1 x39_2 gb170 (some ad174) co22 t167 true _ ?side1 ?side2 ?side3 A42.out).mono ?_); (case side1 => exact (bk_ BK170)); (case side2 => repeat (first | exact (Kd.R_reads' HO_171000.out).2.2 | (with_reducible refine Kd.C_alloc ?_ _) | (with_reducible refine Kd.C_drewN ?_ _) | (with_reducible refine Kd.C_drew ?_))); (case side3 => exact (Kd.R_reads' HO_171000.out).2.1); rintro e w' ⟨rfl, ⟨nd, rfl⟩⟩; obtain ⟨Ao52, co52, eo52⟩ := Kd.R_slice HO_11.out; subst eo52; have p182 : 0 ≤ (x39_2 : Int) := of_decide_eq_true (by first | (with_reducible assumption) | assumption); have q182 : x39_2 < (x11_2.length : Int) := of_decide_eq_true (by first | (with_reducible assumption) | assumption); obtain ⟨ad182, e182, hx182_0⟩ := Kd.at_bool (Kd.R_reads' HO_11.out).2.2 x39_2 p182 q182; (try rw [← Nbq45.out] at hx182_0); cases e182; replace p182 := eq_true p182; replace q182 := eq_true q182))
                     go_roundg k2
                     case measure => have := HK1.out; have := HK2.out; omega
                     case rel => exact ⟨(x11_2), (x12_2), (wrap64 (x39_2 + 1)), rs_, H', ⟨by have := HK1.out; have := HK2.out; omega⟩, ⟨by (with_reducible repeat (first | apply Kd.S_alloc | apply Kd.S_drewN | apply Kd.S_drew)); exact Kd.S_mono HO_9.out (fun _ hk => by first | exact ⟨hk.1.1, hk.1.2⟩ | exact hk | (and_intros <;> first | exact hk.1 | exact hk.2 | exact hk.1.1 | exact hk.1.2 | exact hk.2.1 | exact hk.2.2))⟩, ⟨by (with_reducible repeat (first | apply Kd.R_alloc | apply Kd.R_drewN | apply Kd.R_drew)); exact HO_11.out⟩, ⟨by (with_reducible repeat (first | apply Kd.Q_alloc | apply Kd.Q_drewN | apply Kd.Q_drew)); exact Kd.Q_mono HO_12.out (fun _ hk => hk.1)⟩, ⟨by (with_reducible repeat (first | apply Kd.R_alloc | apply Kd.R_drewN | apply Kd.R_drew)); exact Kd.R_mono HO_171000.out (fun _ hk => hk.1)⟩, ⟨bk_ BK163⟩, ⟨bk_ BK166⟩, ⟨bk_ BK170⟩, ⟨bw_ HB⟩⟩
                    ·
                     replace c46 := Bool.eq_false_iff.mpr c46
                     subst c46
                     have H1 : (if x12_2.length < 17592186044416 then (flow_Loops.l1 k2 l0 x9_1 x31_1 (x11_2.set (x39_2 : Int).toNat true) (x12_2 ++ [x39_2]) (l0.length : Int) x31_1 (l0.length : Int) (wrap64 (x39_2 + 1)) t167) else (none)) = some (r1, r2, r3) := by rw [if_neg (show ¬ (false = true) by decide)] at H; exact H
                     clear H
                     have H := H1
                     clear H1
                     obtain ⟨y183, hy183⟩ : ∃ y_ : List Bool, y_ = (x11_2.set (x39_2 : Int).toNat true) := ⟨_, rfl⟩
                     replace H : (if x12_2.length < 17592186044416 then (flow_Loops.l1 k2 l0 x9_1 x31_1 y183 (x12_2 ++ [x39_2]) (l0.length : Int) x31_1 (l0.length : Int) (wrap64 (x39_2 + 1)) t167) else (none)) = some (r1, r2, r3) := by first | (rw [hy183]; with_reducible exact H) | (have H2_ := (Option.bind_some _ _).symm.trans H; rw [hy183]; with_reducible exact H2_) | (have H2_ := (Option.bind_some _ _).symm.trans H; with_reducible exact H2_) | with_reducible exact H | (rw [hy183]; exact H) | exact H
                     have Ny183 := Aside0.mk hy183
                     clear hy183
                     by_cases c54 : x12_2.length < 17592186044416
                     ·
                      rw [if_pos c54] at H
                      have LMc54 := Aside0.mk c54
                      clear c54
                      obtain ⟨y184, hy184⟩ : ∃ y_ : List Int, y_ = (x12_2 ++ [x39_2]) := ⟨_, rfl⟩
                      replace H : (flow_Loops.l1 k2 l0 x9_1 x31_1 y183 y184 (l0.length : Int) x31_1 (l0.length : Int) (wrap64 (x39_2 + 1)) t167) = some (r1, r2, r3) := by first | (rw [hy184]; with_reducible exact H) | (have H2_ := (Option.bind_some _ _).symm.trans H; rw [hy184]; with_reducible exact H2_) | (have H2_ := (Option.bind_some _ _).symm.trans H; with_reducible exact H2_) | with_reducible exact H | (rw [hy184]; exact H) | exact H
                      have Ny184 := Aside0.mk hy184
                      clear hy184
                      have H' := Aside0.mk H
                      clear H
                      have hnb55 := NB170_163.out
                      have hnc55 := NB163_170.out
                      have hnb56 := NB170_166.out
                      have hnc56 := NB166_170.out
                      have hcz57_0 : wr.cell? ⟨gb170, 0, none⟩ = some (.slice Ao22 t167.length co22) := (blk_cell BK170.out 0).trans rfl
                      have hfz57_0 := blk_frozen BK170.out 0
                      have p174 : 0 ≤ (x39_2 : Int) := of_decide_eq_true (by first | (with_reducible assumption) | assumption)
                      have q174 : x39_2 < (t167.length : Int) := of_decide_eq_true (by first | (with_reducible assumption) | assumption)
                      obtain ⟨ad174, e174, hx174_0⟩ := Kd.at_int (Kd.R_reads' HO_171000.out).2.2 x39_2 p174 q174
                      cases e174
                      replace p174 := eq_true p174
                      replace q174 := eq_true q174
                      have p175 : 0 ≤ (x31_1 : Int) := of_decide_eq_true (by first | (with_reducible assumption) | assumption)
                      have q175 : x31_1 < (t167.length : Int) := of_decide_eq_true (by first | (with_reducible assumption) | assumption)
                      obtain ⟨ad175, e175, hx175_0⟩ := Kd.at_int (Kd.R_reads' HO_171000.out).2.2 x31_1 p175 q175
                      obtain rfl : ad174 = ad175 := (by injection e175)
                      replace p175 := eq_true p175
                      replace q175 := eq_true q175
                      have p176 : 0 ≤ (x39_2 : Int) := of_decide_eq_true (by first | (with_reducible assumption) | assumption)
                      have q176 : x39_2 < (l0.length : Int) := of_decide_eq_true (by first | (with_reducible assumption) | assumption)
                      obtain ⟨ad176, A176_3, c176_3, e176, hx176_0, hx176_1, hx176_2, hx176_3, hl176_3, hi176_3⟩ := at_T62 HR0.out x39_2 p176 q176
                      cases e176
                      replace hx176_0 := (HB.out.cell (World.block_lt_of_cell? w _ hx176_0)).trans hx176_0
                      replace hx176_1 := (HB.out.cell (World.block_lt_of_cell? w _ hx176_1)).trans hx176_1
                      replace hx176_2 := (HB.out.cell (World.block_lt_of_cell? w _ hx176_2)).trans hx176_2
                      replace hx176_3 := (HB.out.cell (World.block_lt_of_cell? w _ hx176_3)).trans hx176_3
                      have HR176_3 := Aside0.mk hi176_3
                      have HC176_3 := Aside0.mk hl176_3
                      clear hi176_3 hl176_3
                      replace p176 := eq_true p176
                      replace q176 := eq_true q176
                      go_wp2_with (first | (go_at_call 48; (with_reducible refine (flow_Inner.calls k2 ((rd_T62 l0 x39_2).f0) ((rd_T62 l0 x39_2).f1) ((rd_T62 l0 x39_2).f2) _ _ ((rd_T62 l0 x39_2).f3) t177 _ ?side1 ?side2 A39.out).mono ?_); (case side1 => exact cb_ HR176_3 HB); (case side2 => exact HC176_3.out); rintro e w58 ⟨v178, rfl, ho0, hb⟩; have n0_ := Aside0.mk (Kd.S_elder' (by (with_reducible repeat (first | apply Kd.S_alloc | apply Kd.S_drewN | apply Kd.S_drew)); exact HO_9.out) (Kd.R_base ho0) hb); have n1_ := Aside0.mk (Kd.R_below (by (with_reducible repeat (first | apply Kd.R_alloc | apply Kd.R_drewN | apply Kd.R_drew)); exact HO_11.out) hb); have n2_ := Aside0.mk (Kd.Q_elder' (by (with_reducible repeat (first | apply Kd.Q_alloc | apply Kd.Q_drewN | apply Kd.Q_drew)); exact HO_12.out) (Kd.R_base ho0) hb); have n3_ := Aside0.mk (Kd.R_elder' (by (with_reducible repeat (first | apply Kd.R_alloc | apply Kd.R_drewN | apply Kd.R_drew)); exact HO_171000.out) (Kd.R_base ho0) hb); have n4_ := Aside0.mk (Kd.R_lower (Kd.R_new' (Kd.R_new' ho0 (Kd.Q_lt (by (with_reducible repeat (first | apply Kd.Q_alloc | apply Kd.Q_drewN | apply Kd.Q_drew)); exact HO_12.out))) (Kd.R_lt (by (with_reducible repeat (first | apply Kd.R_alloc | apply Kd.R_drewN | apply Kd.R_drew)); exact HO_171000.out))) (below_size (bw_ HB))); have n5_ := Aside0.mk (blk_below (g := gb163) (o := .cells #[.int .i64 0, .int .i64 0] 28 (0, 0)) (bk_ BK163) hb); have n6_ := Aside0.mk (blk_below (g := gb166) (o := .cells #[.int .i64 t164, .int .i64 t165] 28 (0, 0)) (bk_ BK166) hb); have n7_ := Aside0.mk (blk_below (g := gb170) (o := .cells #[.slice (some ad174) t167.length co22] 22 (0, 0)) (bk_ BK170) hb); have n8_ := Aside0.mk (below_step (bw_ HB) hb); clear HO_9; clear HO_11; clear HO_12; clear HO_171000; clear BK163; clear BK166; clear BK170; clear HB; have HO_9 := n0_; have HO_11 := n1_; have HO_12 := n2_; have HO_171000 := n3_; have HO179 := n4_; have BK163 := n5_; have BK166 := n6_; have BK170 := n7_; have HB := n8_; clear n0_ n1_ n2_ n3_ n4_ n5_ n6_ n7_ n8_; (try clear hb); (try clear hb2); (try clear hk); (try clear hi); (try clear ho0); obtain ⟨Ao59, co59, eo59⟩ := Kd.R_slice HO179.out; subst eo59) | (go_at_call 47; (with_reducible refine (slices_Contains_int_int.calls k2 _ _ t177 x31_1 true _ ?side1 ?side2 A40.out).mono ?_); (case side1 => repeat (first | exact (Kd.R_reads' HO179.out).2.2 | (with_reducible refine Kd.C_alloc ?_ _) | (with_reducible refine Kd.C_drewN ?_ _) | (with_reducible refine Kd.C_drew ?_))); (case side2 => exact (Kd.R_reads' HO179.out).2.1); rintro e w' ⟨rfl, ⟨nd, rfl⟩⟩; (try (rw [drewN_self w58]; generalize hq_ : World.drewN w58 _ = w58; have n0_ : Aside0 (Kd.R (Kd.int .i64) 3 w58 w.heap.size (fun k_ => some k_ ≠ (u12 : Value).ownBlock ∧ some k_ ≠ (.slice (some ad174) t167.length co22 : Value).ownBlock) (.slice Ao59 t177.length co59) t177) := ⟨by rw [← hq_]; exact (by (with_reducible repeat (first | apply Kd.R_alloc | apply Kd.R_drewN | apply Kd.R_drew)); exact Kd.R_mono HO179.out (fun _ hk => by first | exact ⟨hk.1.2, hk.2⟩ | exact hk | (and_intros <;> first | exact hk.1 | exact hk.2 | exact hk.1.1 | exact hk.1.2 | exact hk.2.1 | exact hk.2.2)))⟩; have n1_ : Aside0 (Kd.R Kd.bool 4 w58 w.heap.size (fun _ => True) v172 x11_2) := ⟨by rw [← hq_]; exact (by (with_reducible repeat (first | apply Kd.R_alloc | apply Kd.R_drewN | apply Kd.R_drew)); exact HO_11.out)⟩; have n2_ : Aside0 (Kd.Q (Kd.int .i64) 3 w58 w.heap.size (fun k_ => some k_ ≠ (.slice Ao59 t177.length co59 : Value).ownBlock ∧ some k_ ≠ (.slice (some ad174) t167.length co22 : Value).ownBlock) u12 x12_2) := ⟨by rw [← hq_]; exact (by (with_reducible repeat (first | apply Kd.Q_alloc | apply Kd.Q_drewN | apply Kd.Q_drew)); exact Kd.Q_mono HO_12.out (fun _ hk => by first | exact ⟨hk.2, hk.1⟩ | exact hk | (and_intros <;> first | exact hk.1 | exact hk.2 | exact hk.1.1 | exact hk.1.2 | exact hk.2.1 | exact hk.2.2)))⟩; have n3_ : Aside0 (Kd.R (Kd.int .i64) 3 w58 w.heap.size (fun k_ => some k_ ≠ (.slice Ao59 t177.length co59 : Value).ownBlock ∧ some k_ ≠ (u12 : Value).ownBlock) (.slice (some ad174) t167.length co22) t167) := ⟨by rw [← hq_]; exact (by (with_reducible repeat (first | apply Kd.R_alloc | apply Kd.R_drewN | apply Kd.R_drew)); exact Kd.R_mono HO_171000.out (fun _ hk => by first | exact ⟨hk.2, hk.1⟩ | exact hk | (and_intros <;> first | exact hk.1 | exact hk.2 | exact hk.1.1 | exact hk.1.2 | exact hk.2.1 | exact hk.2.2)))⟩; have n4_ : Aside0 (Kd.S k68 68 w58 w.heap.size (fun k_ => some k_ ≠ (.slice Ao59 t177.length co59 : Value).ownBlock ∧ some k_ ≠ (u12 : Value).ownBlock ∧ some k_ ≠ (.slice (some ad174) t167.length co22 : Value).ownBlock) u9 x9_1) := ⟨by rw [← hq_]; exact (by (with_reducible repeat (first | apply Kd.S_alloc | apply Kd.S_drewN | apply Kd.S_drew)); exact Kd.S_mono HO_9.out (fun _ hk => by first | exact ⟨hk.2, ⟨hk.1.1, hk.1.2⟩⟩ | exact hk | (and_intros <;> first | exact hk.1 | exact hk.2 | exact hk.1.1 | exact hk.1.2 | exact hk.2.1 | exact hk.2.2)))⟩; have n5_ : Aside0 (w58.heap[gb163]? = some (.cells #[.int .i64 0, .int .i64 0] 28 (0, 0))) := ⟨by rw [← hq_]; exact (bk_ BK163)⟩; have n6_ : Aside0 (w58.heap[gb166]? = some (.cells #[.int .i64 t164, .int .i64 t165] 28 (0, 0))) := ⟨by rw [← hq_]; exact (bk_ BK166)⟩; have n7_ : Aside0 (w58.heap[gb170]? = some (.cells #[.slice (some ad174) t167.length co22] 22 (0, 0))) := ⟨by rw [← hq_]; exact (bk_ BK170)⟩; have n8_ : Aside0 (Below w.heap.size w w58) := ⟨by rw [← hq_]; exact (bw_ HB)⟩; clear HO179 HO_11 HO_12 HO_171000 HO_9 BK163 BK166 BK170 HB hq_; have HO179 := n0_; have HO_11 := n1_; have HO_12 := n2_; have HO_171000 := n3_; have HO_9 := n4_; have BK163 := n5_; have BK166 := n6_; have BK170 := n7_; have HB := n8_; clear n0_ n1_ n2_ n3_ n4_ n5_ n6_ n7_ n8_))) | (go_at_call 46; (with_reducible refine (flow_Loops_1.calls k2 x31_1 x39_2 gb170 (some ad174) co22 t167 true _ ?side1 ?side2 ?side3 A42.out).mono ?_); (case side1 => exact (bk_ BK170)); (case side2 => repeat (first | exact (Kd.R_reads' HO_171000.out).2.2 | (with_reducible refine Kd.C_alloc ?_ _) | (with_reducible refine Kd.C_drewN ?_ _) | (with_reducible refine Kd.C_drew ?_))); (case side3 => exact (Kd.R_reads' HO_171000.out).2.1); rintro e w' ⟨rfl, ⟨nd, rfl⟩⟩; (try (rw [drewN_self w58]; generalize hq_ : World.drewN w58 _ = w58; have n0_ : Aside0 (Kd.R (Kd.int .i64) 3 w58 w.heap.size (fun k_ => some k_ ≠ (u12 : Value).ownBlock ∧ some k_ ≠ (.slice (some ad174) t167.length co22 : Value).ownBlock) (.slice Ao59 t177.length co59) t177) := ⟨by rw [← hq_]; exact (by (with_reducible repeat (first | apply Kd.R_alloc | apply Kd.R_drewN | apply Kd.R_drew)); exact Kd.R_mono HO179.out (fun _ hk => by first | exact ⟨hk.1.2, hk.2⟩ | exact hk | (and_intros <;> first | exact hk.1 | exact hk.2 | exact hk.1.1 | exact hk.1.2 | exact hk.2.1 | exact hk.2.2)))⟩; have n1_ : Aside0 (Kd.R Kd.bool 4 w58 w.heap.size (fun _ => True) v172 x11_2) := ⟨by rw [← hq_]; exact (by (with_reducible repeat (first | apply Kd.R_alloc | apply Kd.R_drewN | apply Kd.R_drew)); exact HO_11.out)⟩; have n2_ : Aside0 (Kd.Q (Kd.int .i64) 3 w58 w.heap.size (fun k_ => some k_ ≠ (.slice Ao59 t177.length co59 : Value).ownBlock ∧ some k_ ≠ (.slice (some ad174) t167.length co22 : Value).ownBlock) u12 x12_2) := ⟨by rw [← hq_]; exact (by (with_reducible repeat (first | apply Kd.Q_alloc | apply Kd.Q_drewN | apply Kd.Q_drew)); exact Kd.Q_mono HO_12.out (fun _ hk => by first | exact ⟨hk.2, hk.1⟩ | exact hk | (and_intros <;> first | exact hk.1 | exact hk.2 | exact hk.1.1 | exact hk.1.2 | exact hk.2.1 | exact hk.2.2)))⟩; have n3_ : Aside0 (Kd.R (Kd.int .i64) 3 w58 w.heap.size (fun k_ => some k_ ≠ (.slice Ao59 t177.length co59 : Value).ownBlock ∧ some k_ ≠ (u12 : Value).ownBlock) (.slice (some ad174) t167.length co22) t167) := ⟨by rw [← hq_]; exact (by (with_reducible repeat (first | apply Kd.R_alloc | apply Kd.R_drewN | apply Kd.R_drew)); exact Kd.R_mono HO_171000.out (fun _ hk => by first | exact ⟨hk.2, hk.1⟩ | exact hk | (and_intros <;> first | exact hk.1 | exact hk.2 | exact hk.1.1 | exact hk.1.2 | exact hk.2.1 | exact hk.2.2)))⟩; have n4_ : Aside0 (Kd.S k68 68 w58 w.heap.size (fun k_ => some k_ ≠ (.slice Ao59 t177.length co59 : Value).ownBlock ∧ some k_ ≠ (u12 : Value).ownBlock ∧ some k_ ≠ (.slice (some ad174) t167.length co22 : Value).ownBlock) u9 x9_1) := ⟨by rw [← hq_]; exact (by (with_reducible repeat (first | apply Kd.S_alloc | apply Kd.S_drewN | apply Kd.S_drew)); exact Kd.S_mono HO_9.out (fun _ hk => by first | exact ⟨hk.2, ⟨hk.1.1, hk.1.2⟩⟩ | exact hk | (and_intros <;> first | exact hk.1 | exact hk.2 | exact hk.1.1 | exact hk.1.2 | exact hk.2.1 | exact hk.2.2)))⟩; have n5_ : Aside0 (w58.heap[gb163]? = some (.cells #[.int .i64 0, .int .i64 0] 28 (0, 0))) := ⟨by rw [← hq_]; exact (bk_ BK163)⟩; have n6_ : Aside0 (w58.heap[gb166]? = some (.cells #[.int .i64 t164, .int .i64 t165] 28 (0, 0))) := ⟨by rw [← hq_]; exact (bk_ BK166)⟩; have n7_ : Aside0 (w58.heap[gb170]? = some (.cells #[.slice (some ad174) t167.length co22] 22 (0, 0))) := ⟨by rw [← hq_]; exact (bk_ BK170)⟩; have n8_ : Aside0 (Below w.heap.size w w58) := ⟨by rw [← hq_]; exact (bw_ HB)⟩; clear HO179 HO_11 HO_12 HO_171000 HO_9 BK163 BK166 BK170 HB hq_; have HO179 := n0_; have HO_11 := n1_; have HO_12 := n2_; have HO_171000 := n3_; have HO_9 := n4_; have BK163 := n5_; have BK166 := n6_; have BK170 := n7_; have HB := n8_; clear n0_ n1_ n2_ n3_ n4_ n5_ n6_ n7_ n8_)); obtain ⟨Ao60, co60, eo60⟩ := Kd.R_slice HO_11.out; subst eo60; have p182 : 0 ≤ (x39_2 : Int) := of_decide_eq_true (by first | (with_reducible assumption) | assumption); have q182 : x39_2 < (x11_2.length : Int) := of_decide_eq_true (by first | (with_reducible assumption) | assumption); obtain ⟨ad182, e182, hx182_0⟩ := Kd.at_bool (Kd.R_reads' HO_11.out).2.2 x39_2 p182 q182; (try rw [← Nbq45.out] at hx182_0); cases e182; replace p182 := eq_true p182; replace q182 := eq_true q182; have p53 : 0 ≤ (x39_2 : Int) := of_decide_eq_true (by first | (with_reducible assumption) | assumption); have q53 : (x39_2 : Int) < ((x11_2.length : Int) : Int) := of_decide_eq_true (by first | (with_reducible assumption) | assumption); obtain ⟨go53, co53, eo53, gb53, gl53, cl53, HG53⟩ := Kd.R_form HO_11.out (by omega); (first | cases eo53 | (injection eo53 with ea_ en_ ec_; (first | subst ea_ | (injection ea_ with ea_; subst ea_)); subst ec_; clear en_)); have GB53 := Aside0.mk gb53; have GG53 := Aside0.mk HG53; clear gb53 gl53 HG53; (first | simp only [add_plain] at hx182_0 | skip); obtain ⟨hx53_0, hf53_0⟩ := Kd.R_celln false HO_11.out (x39_2 : Int) p53 q53; replace p53 := eq_true p53; replace q53 := eq_true q53; obtain ⟨hy61_, hz61_⟩ := Kd.R_celln false HO_11.out (x39_2 : Int) (of_decide_eq_true (by first | (with_reducible assumption) | assumption)) (of_decide_eq_true (by first | (with_reducible assumption) | assumption)); have HP61 := Kd.R_putg HO_11.out (x39_2 : Int) true) | ((with_reducible refine gate_store (t := 4) (p := 78) rfl ?_); refine store_event (t := 4) (p := 78) (v := ?vo_w62) (w1 := (w58.setCell ⟨go53, (x39_2 : Int).toNat, none⟩ (.bool true))) ?hg ?ho ?hn ?hr ?_; (case ho => rfl); (case hg => rfl); (case hn => rfl); (case hr => first | (go_simp; done) | (go_simp; rfl)); intro w62 hw; have hg : w58.grownBy w62 (some go53) := (by rw [hw]; exact HP61.2); have hp_ : Kd.R Kd.bool 4 w62 w.heap.size (fun _ => True) (.slice (some ⟨go53, 0, none⟩) x11_2.length co60) y183 := (by rw [hw, Ny183.out]; exact HP61.1); clear HP61; have n0_ := Aside0.mk (Kd.S_over' (v := (.slice (some ⟨go53, 0, none⟩) x11_2.length co60)) (by (with_reducible repeat (first | apply Kd.S_alloc | apply Kd.S_drewN | apply Kd.S_drew)); exact HO_9.out) (Kd.R_typed HO_11.out) (by decide) hg); have n1_ := Aside0.mk (hp_); have n2_ := Aside0.mk (Kd.Q_over' (v := (.slice (some ⟨go53, 0, none⟩) x11_2.length co60)) (by (with_reducible repeat (first | apply Kd.Q_alloc | apply Kd.Q_drewN | apply Kd.Q_drew)); exact HO_12.out) (Kd.R_typed HO_11.out) (by decide) hg); have n3_ := Aside0.mk (Kd.R_over' (v := (.slice (some ⟨go53, 0, none⟩) x11_2.length co60)) (by (with_reducible repeat (first | apply Kd.R_alloc | apply Kd.R_drewN | apply Kd.R_drew)); exact HO_171000.out) (Kd.R_typed HO_11.out) (by decide) hg); have n4_ := Aside0.mk (blk_grown (g := gb163) (o := .cells #[.int .i64 0, .int .i64 0] 28 (0, 0)) (bk_ BK163) hg (Kd.R_ne HO_11.out BK163.out (by decide))); have n5_ := Aside0.mk (blk_grown (g := gb166) (o := .cells #[.int .i64 t164, .int .i64 t165] 28 (0, 0)) (bk_ BK166) hg (Kd.R_ne HO_11.out BK166.out (by decide))); have n6_ := Aside0.mk (blk_grown (g := gb170) (o := .cells #[.slice (some ad174) t167.length co22] 22 (0, 0)) (bk_ BK170) hg (Kd.R_ne HO_11.out BK170.out (by decide))); have n7_ := Aside0.mk (Kd.R_over' (v := (.slice (some ⟨go53, 0, none⟩) x11_2.length co60)) (by (with_reducible repeat (first | apply Kd.R_alloc | apply Kd.R_drewN | apply Kd.R_drew)); exact HO179.out) (Kd.R_typed HO_11.out) (by decide) hg); have n8_ := Aside0.mk ((by rw [hw]; exact below_set (HB.out) GB53.out : Below w.heap.size w w62)); clear HO_9; clear HO_11; clear HO_12; clear HO_171000; clear BK163; clear BK166; clear BK170; clear HO179; clear HB; have HO_9 := n0_; have HO_11 := n1_; have HO_12 := n2_; have HO_171000 := n3_; have BK163 := n4_; have BK166 := n5_; have BK170 := n6_; have HO179 := n7_; have HB := n8_; clear n0_ n1_ n2_ n3_ n4_ n5_ n6_ n7_ n8_; clear hg hw hp_) | ((with_reducible refine gate_builtin (b := .append) (xs := #[.tmp 79, .tmp 81]) rfl ?_); at_builtin; refine Kd.Q_append (Kd.int .i64) (w0 := w) w.heap.size rfl (.tmp 79) (.tmp 81) 22 3 (.int .i64 0) 8 rfl Try.underlying22 info3 rfl (by decide) (by omega) u12 x12_2 x39_2 [.int .i64 x39_2] (fun k_ => some k_ ≠ (.slice (some ad174) t167.length co22 : Value).ownBlock ∧ some k_ ≠ (.slice Ao59 t177.length co59 : Value).ownBlock) (fun _ => False) rfl rfl ?aP (fun _ hk => hk.elim) ?aF ?aO ?aB ?aS ?aL ?_; (case aP => exact rfl); (case aB => exact (bw_ HB)); (case aF => exact (fun k_ hk => ⟨Kd.fresh' (Kd.R_lt (by (with_reducible repeat (first | apply Kd.R_alloc | apply Kd.R_drewN | apply Kd.R_drew)); exact HO_171000.out)) k_ hk, Kd.fresh' (Kd.R_lt (by (with_reducible repeat (first | apply Kd.R_alloc | apply Kd.R_drewN | apply Kd.R_drew)); exact HO179.out)) k_ hk⟩)); (case aO => first | exact (by (with_reducible repeat (first | apply Kd.Q_alloc | apply Kd.Q_drewN | apply Kd.Q_drew)); exact HO_12.out) | exact (by (with_reducible repeat (first | apply Kd.Q_alloc | apply Kd.Q_drewN | apply Kd.Q_drew)); exact Kd.Q_mono HO_12.out (fun _ hk => by (and_intros <;> first | exact hk.1 | exact hk.2 | exact hk.1.1 | exact hk.1.2 | exact hk.2.1 | exact hk.2.2)))); (case aS => exact (below_size (bw_ HB))); (case aL => have := LMc54.out; omega); intro v185 w63 ho hb hg hat; rw [← Ny184.out] at ho; have n0_ := Aside0.mk (Kd.S_after (ok := (fun k_ => some k_ ≠ (.slice (some ad174) t167.length co22 : Value).ownBlock ∧ some k_ ≠ (.slice Ao59 t177.length co59 : Value).ownBlock)) (by (with_reducible repeat (first | apply Kd.S_alloc | apply Kd.S_drewN | apply Kd.S_drew)); exact Kd.S_mono HO_9.out (fun _ hk => by first | exact ⟨⟨hk.1.2, hk.2⟩, hk.1.1⟩ | exact hk | (and_intros <;> first | exact hk.1 | exact hk.2 | exact hk.1.1 | exact hk.1.2 | exact hk.2.1 | exact hk.2.2))) hg hat); have n1_ := Aside0.mk (Kd.R_over' (by (with_reducible repeat (first | apply Kd.R_alloc | apply Kd.R_drewN | apply Kd.R_drew)); exact HO_11.out) (Kd.Q_typed (by (with_reducible repeat (first | apply Kd.Q_alloc | apply Kd.Q_drewN | apply Kd.Q_drew)); exact HO_12.out)) (by decide) hg); have n2_ := Aside0.mk (Kd.R_after (ok := (fun k_ => some k_ ≠ (.slice Ao59 t177.length co59 : Value).ownBlock)) (by (with_reducible repeat (first | apply Kd.R_alloc | apply Kd.R_drewN | apply Kd.R_drew)); exact Kd.R_mono HO_171000.out (fun _ hk => by first | exact ⟨hk.2, hk.1⟩ | exact hk | (and_intros <;> first | exact hk.1 | exact hk.2 | exact hk.1.1 | exact hk.1.2 | exact hk.2.1 | exact hk.2.2))) hg hat); have n3_ := Aside0.mk (blk_grown (g := gb163) (o := .cells #[.int .i64 0, .int .i64 0] 28 (0, 0)) (bk_ BK163) hg (Kd.Q_ne HO_12.out BK163.out (by decide))); have n4_ := Aside0.mk (blk_grown (g := gb166) (o := .cells #[.int .i64 t164, .int .i64 t165] 28 (0, 0)) (bk_ BK166) hg (Kd.Q_ne HO_12.out BK166.out (by decide))); have n5_ := Aside0.mk (blk_grown (g := gb170) (o := .cells #[.slice (some ad174) t167.length co22] 22 (0, 0)) (bk_ BK170) hg (Kd.Q_ne HO_12.out BK170.out (by decide))); have n6_ := Aside0.mk (Kd.R_after (ok := (fun k_ => some k_ ≠ (.slice (some ad174) t167.length co22 : Value).ownBlock)) (by (with_reducible repeat (first | apply Kd.R_alloc | apply Kd.R_drewN | apply Kd.R_drew)); exact Kd.R_mono HO179.out (fun _ hk => by first | exact ⟨hk.2, hk.1.2⟩ | exact hk | (and_intros <;> first | exact hk.1 | exact hk.2 | exact hk.1.1 | exact hk.1.2 | exact hk.2.1 | exact hk.2.2))) hg hat); have n7_ := Aside0.mk (hb); have n8_ := Aside0.mk (ho); clear HO_9; clear HO_11; clear HO_171000; clear BK163; clear BK166; clear BK170; clear HO179; clear HB; clear HO_12; have HO_9 := n0_; have HO_11 := n1_; have HO_171000 := n2_; have BK163 := n3_; have BK166 := n4_; have BK170 := n5_; have HO179 := n6_; have HB := n7_; have HO186 := n8_; clear n0_ n1_ n2_ n3_ n4_ n5_ n6_ n7_ n8_; clear ho hb hg hat))
                      go_roundg k2
                      case measure => have := HK1.out; have := HK2.out; omega
                      case rel => exact ⟨(y183), (y184), (wrap64 (x39_2 + 1)), rs_, H', ⟨by have := HK1.out; have := HK2.out; omega⟩, ⟨by (with_reducible repeat (first | apply Kd.S_alloc | apply Kd.S_drewN | apply Kd.S_drew)); exact Kd.S_mono HO_9.out (fun _ hk => by first | exact ⟨hk.2, hk.1.1⟩ | exact hk | (and_intros <;> first | exact hk.1 | exact hk.2 | exact hk.1.1 | exact hk.1.2 | exact hk.2.1 | exact hk.2.2))⟩, ⟨by (with_reducible repeat (first | apply Kd.R_alloc | apply Kd.R_drewN | apply Kd.R_drew)); exact HO_11.out⟩, ⟨by (with_reducible repeat (first | apply Kd.Q_alloc | apply Kd.Q_drewN | apply Kd.Q_drew)); exact Kd.Q_mono HO186.out (fun _ hk => hk.1)⟩, ⟨by (with_reducible repeat (first | apply Kd.R_alloc | apply Kd.R_drewN | apply Kd.R_drew)); exact Kd.R_mono HO_171000.out (fun _ hk => hk.2)⟩, ⟨bk_ BK163⟩, ⟨bk_ BK166⟩, ⟨bk_ BK170⟩, ⟨bw_ HB⟩⟩
                     ·
                      rw [if_neg c54] at H
                      exact absurd H (by simp)
                   ·
                    rw [if_neg c44] at H
                    exact absurd H (by simp)
                  ·
                   replace c43 := Bool.eq_false_iff.mpr c43
                   subst c43
                   have H1 : (flow_Loops.l1 k2 l0 x9_1 x31_1 x11_2 x12_2 (l0.length : Int) x31_1 (l0.length : Int) (wrap64 (x39_2 + 1)) t167) = some (r1, r2, r3) := by rw [if_neg (show ¬ (false = true) by decide)] at H; exact H
                   clear H
                   have H := H1
                   clear H1
                   have H' := Aside0.mk H
                   clear H
                   have hnb64 := NB170_163.out
                   have hnc64 := NB163_170.out
                   have hnb65 := NB170_166.out
                   have hnc65 := NB166_170.out
                   have hcz66_0 : wr.cell? ⟨gb170, 0, none⟩ = some (.slice Ao22 t167.length co22) := (blk_cell BK170.out 0).trans rfl
                   have hfz66_0 := blk_frozen BK170.out 0
                   have p174 : 0 ≤ (x39_2 : Int) := of_decide_eq_true (by first | (with_reducible assumption) | assumption)
                   have q174 : x39_2 < (t167.length : Int) := of_decide_eq_true (by first | (with_reducible assumption) | assumption)
                   obtain ⟨ad174, e174, hx174_0⟩ := Kd.at_int (Kd.R_reads' HO_171000.out).2.2 x39_2 p174 q174
                   cases e174
                   replace p174 := eq_true p174
                   replace q174 := eq_true q174
                   have p175 : 0 ≤ (x31_1 : Int) := of_decide_eq_true (by first | (with_reducible assumption) | assumption)
                   have q175 : x31_1 < (t167.length : Int) := of_decide_eq_true (by first | (with_reducible assumption) | assumption)
                   obtain ⟨ad175, e175, hx175_0⟩ := Kd.at_int (Kd.R_reads' HO_171000.out).2.2 x31_1 p175 q175
                   obtain rfl : ad174 = ad175 := (by injection e175)
                   replace p175 := eq_true p175
                   replace q175 := eq_true q175
                   have p176 : 0 ≤ (x39_2 : Int) := of_decide_eq_true (by first | (with_reducible assumption) | assumption)
                   have q176 : x39_2 < (l0.length : Int) := of_decide_eq_true (by first | (with_reducible assumption) | assumption)
                   obtain ⟨ad176, A176_3, c176_3, e176, hx176_0, hx176_1, hx176_2, hx176_3, hl176_3, hi176_3⟩ := at_T62 HR0.out x39_2 p176 q176
                   cases e176
                   replace hx176_0 := (HB.out.cell (World.block_lt_of_cell? w _ hx176_0)).trans hx176_0
                   replace hx176_1 := (HB.out.cell (World.block_lt_of_cell? w _ hx176_1)).trans hx176_1
                   replace hx176_2 := (HB.out.cell (World.block_lt_of_cell? w _ hx176_2)).trans hx176_2
                   replace hx176_3 := (HB.out.cell (World.block_lt_of_cell? w _ hx176_3)).trans hx176_3
                   have HR176_3 := Aside0.mk hi176_3
                   have HC176_3 := Aside0.mk hl176_3
                   clear hi176_3 hl176_3
                   replace p176 := eq_true p176
                   replace q176 := eq_true q176
                   go_wp2_with (first | (go_at_call 48; (with_reducible refine (flow_Inner.calls k2 ((rd_T62 l0 x39_2).f0) ((rd_T62 l0 x39_2).f1) ((rd_T62 l0 x39_2).f2) _ _ ((rd_T62 l0 x39_2).f3) t177 _ ?side1 ?side2 A39.out).mono ?_); (case side1 => exact cb_ HR176_3 HB); (case side2 => exact HC176_3.out); rintro e w67 ⟨v178, rfl, ho0, hb⟩; have n0_ := Aside0.mk (Kd.S_elder' (by (with_reducible repeat (first | apply Kd.S_alloc | apply Kd.S_drewN | apply Kd.S_drew)); exact HO_9.out) (Kd.R_base ho0) hb); have n1_ := Aside0.mk (Kd.R_below (by (with_reducible repeat (first | apply Kd.R_alloc | apply Kd.R_drewN | apply Kd.R_drew)); exact HO_11.out) hb); have n2_ := Aside0.mk (Kd.Q_elder' (by (with_reducible repeat (first | apply Kd.Q_alloc | apply Kd.Q_drewN | apply Kd.Q_drew)); exact HO_12.out) (Kd.R_base ho0) hb); have n3_ := Aside0.mk (Kd.R_elder' (by (with_reducible repeat (first | apply Kd.R_alloc | apply Kd.R_drewN | apply Kd.R_drew)); exact HO_171000.out) (Kd.R_base ho0) hb); have n4_ := Aside0.mk (Kd.R_lower (Kd.R_new' (Kd.R_new' ho0 (Kd.Q_lt (by (with_reducible repeat (first | apply Kd.Q_alloc | apply Kd.Q_drewN | apply Kd.Q_drew)); exact HO_12.out))) (Kd.R_lt (by (with_reducible repeat (first | apply Kd.R_alloc | apply Kd.R_drewN | apply Kd.R_drew)); exact HO_171000.out))) (below_size (bw_ HB))); have n5_ := Aside0.mk (blk_below (g := gb163) (o := .cells #[.int .i64 0, .int .i64 0] 28 (0, 0)) (bk_ BK163) hb); have n6_ := Aside0.mk (blk_below (g := gb166) (o := .cells #[.int .i64 t164, .int .i64 t165] 28 (0, 0)) (bk_ BK166) hb); have n7_ := Aside0.mk (blk_below (g := gb170) (o := .cells #[.slice (some ad174) t167.length co22] 22 (0, 0)) (bk_ BK170) hb); have n8_ := Aside0.mk (below_step (bw_ HB) hb); clear HO_9; clear HO_11; clear HO_12; clear HO_171000; clear BK163; clear BK166; clear BK170; clear HB; have HO_9 := n0_; have HO_11 := n1_; have HO_12 := n2_; have HO_171000 := n3_; have HO179 := n4_; have BK163 := n5_; have BK166 := n6_; have BK170 := n7_; have HB := n8_; clear n0_ n1_ n2_ n3_ n4_ n5_ n6_ n7_ n8_; (try clear hb); (try clear hb2); (try clear hk); (try clear hi); (try clear ho0); obtain ⟨Ao68, co68, eo68⟩ := Kd.R_slice HO179.out; subst eo68) | (go_at_call 47; (with_reducible refine (slices_Contains_int_int.calls k2 _ _ t177 x31_1 true _ ?side1 ?side2 A40.out).mono ?_); (case side1 => repeat (first | exact (Kd.R_reads' HO179.out).2.2 | (with_reducible refine Kd.C_alloc ?_ _) | (with_reducible refine Kd.C_drewN ?_ _) | (with_reducible refine Kd.C_drew ?_))); (case side2 => exact (Kd.R_reads' HO179.out).2.1); rintro e w' ⟨rfl, ⟨nd, rfl⟩⟩) | (go_at_call 46; (with_reducible refine (flow_Loops_1.calls k2 x31_1 x39_2 gb170 (some ad174) co22 t167 false _ ?side1 ?side2 ?side3 A42.out).mono ?_); (case side1 => exact (bk_ BK170)); (case side2 => repeat (first | exact (Kd.R_reads' HO_171000.out).2.2 | (with_reducible refine Kd.C_alloc ?_ _) | (with_reducible refine Kd.C_drewN ?_ _) | (with_reducible refine Kd.C_drew ?_))); (case side3 => exact (Kd.R_reads' HO_171000.out).2.1); rintro e w' ⟨rfl, ⟨nd, rfl⟩⟩))
                   go_roundg k2
                   case measure => have := HK1.out; have := HK2.out; omega
                   case rel => exact ⟨(x11_2), (x12_2), (wrap64 (x39_2 + 1)), rs_, H', ⟨by have := HK1.out; have := HK2.out; omega⟩, ⟨by (with_reducible repeat (first | apply Kd.S_alloc | apply Kd.S_drewN | apply Kd.S_drew)); exact Kd.S_mono HO_9.out (fun _ hk => by first | exact ⟨hk.1.1, hk.1.2⟩ | exact hk | (and_intros <;> first | exact hk.1 | exact hk.2 | exact hk.1.1 | exact hk.1.2 | exact hk.2.1 | exact hk.2.2))⟩, ⟨by (with_reducible repeat (first | apply Kd.R_alloc | apply Kd.R_drewN | apply Kd.R_drew)); exact HO_11.out⟩, ⟨by (with_reducible repeat (first | apply Kd.Q_alloc | apply Kd.Q_drewN | apply Kd.Q_drew)); exact Kd.Q_mono HO_12.out (fun _ hk => hk.1)⟩, ⟨by (with_reducible repeat (first | apply Kd.R_alloc | apply Kd.R_drewN | apply Kd.R_drew)); exact Kd.R_mono HO_171000.out (fun _ hk => hk.1)⟩, ⟨bk_ BK163⟩, ⟨bk_ BK166⟩, ⟨bk_ BK170⟩, ⟨bw_ HB⟩⟩
                 ·
                  replace c41 := Bool.eq_false_iff.mpr c41
                  subst c41
                  have H1 : (flow_Loops.l1 k2 l0 x9_1 x31_1 x11_2 x12_2 (l0.length : Int) x31_1 (l0.length : Int) (wrap64 (x39_2 + 1)) t167) = some (r1, r2, r3) := by rw [if_neg (show ¬ (false = true) by decide)] at H; exact H
                  clear H
                  have H := H1
                  clear H1
                  have H' := Aside0.mk H
                  clear H
                  have hnb69 := NB170_163.out
                  have hnc69 := NB163_170.out
                  have hnb70 := NB170_166.out
                  have hnc70 := NB166_170.out
                  have hcz71_0 : wr.cell? ⟨gb170, 0, none⟩ = some (.slice Ao22 t167.length co22) := (blk_cell BK170.out 0).trans rfl
                  have hfz71_0 := blk_frozen BK170.out 0
                  have p174 : 0 ≤ (x39_2 : Int) := of_decide_eq_true (by first | (with_reducible assumption) | assumption)
                  have q174 : x39_2 < (t167.length : Int) := of_decide_eq_true (by first | (with_reducible assumption) | assumption)
                  obtain ⟨ad174, e174, hx174_0⟩ := Kd.at_int (Kd.R_reads' HO_171000.out).2.2 x39_2 p174 q174
                  cases e174
                  replace p174 := eq_true p174
                  replace q174 := eq_true q174
                  have p175 : 0 ≤ (x31_1 : Int) := of_decide_eq_true (by first | (with_reducible assumption) | assumption)
                  have q175 : x31_1 < (t167.length : Int) := of_decide_eq_true (by first | (with_reducible assumption) | assumption)
                  obtain ⟨ad175, e175, hx175_0⟩ := Kd.at_int (Kd.R_reads' HO_171000.out).2.2 x31_1 p175 q175
                  obtain rfl : ad174 = ad175 := (by injection e175)
                  replace p175 := eq_true p175
                  replace q175 := eq_true q175
                  have p176 : 0 ≤ (x39_2 : Int) := of_decide_eq_true (by first | (with_reducible assumption) | assumption)
                  have q176 : x39_2 < (l0.length : Int) := of_decide_eq_true (by first | (with_reducible assumption) | assumption)
                  obtain ⟨ad176, A176_3, c176_3, e176, hx176_0, hx176_1, hx176_2, hx176_3, hl176_3, hi176_3⟩ := at_T62 HR0.out x39_2 p176 q176
                  cases e176
                  replace hx176_0 := (HB.out.cell (World.block_lt_of_cell? w _ hx176_0)).trans hx176_0
                  replace hx176_1 := (HB.out.cell (World.block_lt_of_cell? w _ hx176_1)).trans hx176_1
                  replace hx176_2 := (HB.out.cell (World.block_lt_of_cell? w _ hx176_2)).trans hx176_2
                  replace hx176_3 := (HB.out.cell (World.block_lt_of_cell? w _ hx176_3)).trans hx176_3
                  have HR176_3 := Aside0.mk hi176_3
                  have HC176_3 := Aside0.mk hl176_3
                  clear hi176_3 hl176_3
                  replace p176 := eq_true p176
                  replace q176 := eq_true q176
                  go_wp2_with (first | (go_at_call 48; (with_reducible refine (flow_Inner.calls k2 ((rd_T62 l0 x39_2).f0) ((rd_T62 l0 x39_2).f1) ((rd_T62 l0 x39_2).f2) _ _ ((rd_T62 l0 x39_2).f3) t177 _ ?side1 ?side2 A39.out).mono ?_); (case side1 => exact cb_ HR176_3 HB); (case side2 => exact HC176_3.out); rintro e w72 ⟨v178, rfl, ho0, hb⟩; have n0_ := Aside0.mk (Kd.S_elder' (by (with_reducible repeat (first | apply Kd.S_alloc | apply Kd.S_drewN | apply Kd.S_drew)); exact HO_9.out) (Kd.R_base ho0) hb); have n1_ := Aside0.mk (Kd.R_below (by (with_reducible repeat (first | apply Kd.R_alloc | apply Kd.R_drewN | apply Kd.R_drew)); exact HO_11.out) hb); have n2_ := Aside0.mk (Kd.Q_elder' (by (with_reducible repeat (first | apply Kd.Q_alloc | apply Kd.Q_drewN | apply Kd.Q_drew)); exact HO_12.out) (Kd.R_base ho0) hb); have n3_ := Aside0.mk (Kd.R_elder' (by (with_reducible repeat (first | apply Kd.R_alloc | apply Kd.R_drewN | apply Kd.R_drew)); exact HO_171000.out) (Kd.R_base ho0) hb); have n4_ := Aside0.mk (Kd.R_lower (Kd.R_new' (Kd.R_new' ho0 (Kd.Q_lt (by (with_reducible repeat (first | apply Kd.Q_alloc | apply Kd.Q_drewN | apply Kd.Q_drew)); exact HO_12.out))) (Kd.R_lt (by (with_reducible repeat (first | apply Kd.R_alloc | apply Kd.R_drewN | apply Kd.R_drew)); exact HO_171000.out))) (below_size (bw_ HB))); have n5_ := Aside0.mk (blk_below (g := gb163) (o := .cells #[.int .i64 0, .int .i64 0] 28 (0, 0)) (bk_ BK163) hb); have n6_ := Aside0.mk (blk_below (g := gb166) (o := .cells #[.int .i64 t164, .int .i64 t165] 28 (0, 0)) (bk_ BK166) hb); have n7_ := Aside0.mk (blk_below (g := gb170) (o := .cells #[.slice (some ad174) t167.length co22] 22 (0, 0)) (bk_ BK170) hb); have n8_ := Aside0.mk (below_step (bw_ HB) hb); clear HO_9; clear HO_11; clear HO_12; clear HO_171000; clear BK163; clear BK166; clear BK170; clear HB; have HO_9 := n0_; have HO_11 := n1_; have HO_12 := n2_; have HO_171000 := n3_; have HO179 := n4_; have BK163 := n5_; have BK166 := n6_; have BK170 := n7_; have HB := n8_; clear n0_ n1_ n2_ n3_ n4_ n5_ n6_ n7_ n8_; (try clear hb); (try clear hb2); (try clear hk); (try clear hi); (try clear ho0); obtain ⟨Ao73, co73, eo73⟩ := Kd.R_slice HO179.out; subst eo73) | (go_at_call 47; (with_reducible refine (slices_Contains_int_int.calls k2 _ _ t177 x31_1 false _ ?side1 ?side2 A40.out).mono ?_); (case side1 => repeat (first | exact (Kd.R_reads' HO179.out).2.2 | (with_reducible refine Kd.C_alloc ?_ _) | (with_reducible refine Kd.C_drewN ?_ _) | (with_reducible refine Kd.C_drew ?_))); (case side2 => exact (Kd.R_reads' HO179.out).2.1); rintro e w' ⟨rfl, ⟨nd, rfl⟩⟩))
                  go_roundg k2
                  case measure => have := HK1.out; have := HK2.out; omega
                  case rel => exact ⟨(x11_2), (x12_2), (wrap64 (x39_2 + 1)), rs_, H', ⟨by have := HK1.out; have := HK2.out; omega⟩, ⟨by (with_reducible repeat (first | apply Kd.S_alloc | apply Kd.S_drewN | apply Kd.S_drew)); exact Kd.S_mono HO_9.out (fun _ hk => by first | exact ⟨hk.1.1, hk.1.2⟩ | exact hk | (and_intros <;> first | exact hk.1 | exact hk.2 | exact hk.1.1 | exact hk.1.2 | exact hk.2.1 | exact hk.2.2))⟩, ⟨by (with_reducible repeat (first | apply Kd.R_alloc | apply Kd.R_drewN | apply Kd.R_drew)); exact HO_11.out⟩, ⟨by (with_reducible repeat (first | apply Kd.Q_alloc | apply Kd.Q_drewN | apply Kd.Q_drew)); exact Kd.Q_mono HO_12.out (fun _ hk => hk.1)⟩, ⟨by (with_reducible repeat (first | apply Kd.R_alloc | apply Kd.R_drewN | apply Kd.R_drew)); exact Kd.R_mono HO_171000.out (fun _ hk => hk.1)⟩, ⟨bk_ BK163⟩, ⟨bk_ BK166⟩, ⟨bk_ BK170⟩, ⟨bw_ HB⟩⟩
                ·
                 rw [if_neg c38] at H
                 exact absurd H (by simp)
               ·
                rw [if_neg c37] at H
                have c37b0 : decide (0 ≤ (rd t167 x31_1)) = false := decide_eq_false c37
                clear c37
                have H' := Aside0.mk H
                clear H
                have hnb74 := NB170_163.out
                have hnc74 := NB163_170.out
                have hnb75 := NB170_166.out
                have hnc75 := NB166_170.out
                have hcz76_0 : wr.cell? ⟨gb170, 0, none⟩ = some (.slice Ao22 t167.length co22) := (blk_cell BK170.out 0).trans rfl
                have hfz76_0 := blk_frozen BK170.out 0
                have p174 : 0 ≤ (x39_2 : Int) := of_decide_eq_true (by first | (with_reducible assumption) | assumption)
                have q174 : x39_2 < (t167.length : Int) := of_decide_eq_true (by first | (with_reducible assumption) | assumption)
                obtain ⟨ad174, e174, hx174_0⟩ := Kd.at_int (Kd.R_reads' HO_171000.out).2.2 x39_2 p174 q174
                cases e174
                replace p174 := eq_true p174
                replace q174 := eq_true q174
                have p175 : 0 ≤ (x31_1 : Int) := of_decide_eq_true (by first | (with_reducible assumption) | assumption)
                have q175 : x31_1 < (t167.length : Int) := of_decide_eq_true (by first | (with_reducible assumption) | assumption)
                obtain ⟨ad175, e175, hx175_0⟩ := Kd.at_int (Kd.R_reads' HO_171000.out).2.2 x31_1 p175 q175
                obtain rfl : ad174 = ad175 := (by injection e175)
                replace p175 := eq_true p175
                replace q175 := eq_true q175
                go_wp2
                go_roundg k2
                case measure => have := HK1.out; have := HK2.out; omega
                case rel => exact ⟨(x11_2), (x12_2), (wrap64 (x39_2 + 1)), rs_, H', ⟨by have := HK1.out; have := HK2.out; omega⟩, ⟨by (with_reducible repeat (first | apply Kd.S_alloc | apply Kd.S_drewN | apply Kd.S_drew)); exact HO_9.out⟩, ⟨by (with_reducible repeat (first | apply Kd.R_alloc | apply Kd.R_drewN | apply Kd.R_drew)); exact HO_11.out⟩, ⟨by (with_reducible repeat (first | apply Kd.Q_alloc | apply Kd.Q_drewN | apply Kd.Q_drew)); exact HO_12.out⟩, ⟨by (with_reducible repeat (first | apply Kd.R_alloc | apply Kd.R_drewN | apply Kd.R_drew)); exact HO_171000.out⟩, ⟨bk_ BK163⟩, ⟨bk_ BK166⟩, ⟨bk_ BK170⟩, ⟨bw_ HB⟩⟩
              ·
               rw [if_neg c36] at H
               exact absurd H (by simp)
             ·
              rw [if_neg c35] at H
              exact absurd H (by simp)
            ·
             rw [if_neg c34] at H
             have c34b0 : decide (0 ≤ (rd t167 x39_2)) = false := decide_eq_false c34
             clear c34
             have H' := Aside0.mk H
             clear H
             have hnb77 := NB170_163.out
             have hnc77 := NB163_170.out
             have hnb78 := NB170_166.out
             have hnc78 := NB166_170.out
             have hcz79_0 : wr.cell? ⟨gb170, 0, none⟩ = some (.slice Ao22 t167.length co22) := (blk_cell BK170.out 0).trans rfl
             have hfz79_0 := blk_frozen BK170.out 0
             have p174 : 0 ≤ (x39_2 : Int) := of_decide_eq_true (by first | (with_reducible assumption) | assumption)
             have q174 : x39_2 < (t167.length : Int) := of_decide_eq_true (by first | (with_reducible assumption) | assumption)
             obtain ⟨ad174, e174, hx174_0⟩ := Kd.at_int (Kd.R_reads' HO_171000.out).2.2 x39_2 p174 q174
             cases e174
             replace p174 := eq_true p174
             replace q174 := eq_true q174
             go_wp2
             go_roundg k2
             case measure => have := HK1.out; have := HK2.out; omega
             case rel => exact ⟨(x11_2), (x12_2), (wrap64 (x39_2 + 1)), rs_, H', ⟨by have := HK1.out; have := HK2.out; omega⟩, ⟨by (with_reducible repeat (first | apply Kd.S_alloc | apply Kd.S_drewN | apply Kd.S_drew)); exact HO_9.out⟩, ⟨by (with_reducible repeat (first | apply Kd.R_alloc | apply Kd.R_drewN | apply Kd.R_drew)); exact HO_11.out⟩, ⟨by (with_reducible repeat (first | apply Kd.Q_alloc | apply Kd.Q_drewN | apply Kd.Q_drew)); exact HO_12.out⟩, ⟨by (with_reducible repeat (first | apply Kd.R_alloc | apply Kd.R_drewN | apply Kd.R_drew)); exact HO_171000.out⟩, ⟨bk_ BK163⟩, ⟨bk_ BK166⟩, ⟨bk_ BK170⟩, ⟨bw_ HB⟩⟩
           ·
            rw [if_neg c33] at H
            exact absurd H (by simp)
          ·
           rw [if_neg c32] at H
           exact absurd H (by simp)
         ·
          rw [if_neg c31] at H
          have c31b0 : decide (x39_2 < (l0.length : Int)) = false := decide_eq_false c31
          clear c31
          by_cases c80 : (x12_2.length : Int) = 0
          ·
           rw [if_pos c80] at H
           have c80b0 : ((x12_2.length : Int) == 0) = true := beq_iff_eq.mpr c80
           have c80b1 : ((x12_2.length : Int) != 0) = false := bne_eq_false_iff_eq.mpr c80
           clear c80
           have H' := Aside0.mk H
           clear H
           obtain ⟨Ao81, co81, eo81, _⟩ := Kd.Q_slice HO_12.out
           subst eo81
           go_wp2
           go_roundg k2
           case measure => have := HK1.out; have := HK2.out; omega
           case rel => exact ⟨(x9_1), (wrap64 (x31_1 + 1)), rs_, H', ⟨by have := HK1.out; have := HK2.out; omega⟩, ⟨by (with_reducible repeat (first | apply Kd.S_alloc | apply Kd.S_drewN | apply Kd.S_drew)); exact Kd.S_mono HO_9.out (fun _ hk => hk.2)⟩, ⟨by (with_reducible repeat (first | apply Kd.R_alloc | apply Kd.R_drewN | apply Kd.R_drew)); exact Kd.R_mono HO_171000.out (fun _ hk => trivial)⟩, ⟨bk_ BK163⟩, ⟨bk_ BK166⟩, ⟨bk_ BK170⟩, ⟨bw_ HB⟩⟩
          ·
           rw [if_neg c80] at H
           have c80b0 : ((x12_2.length : Int) == 0) = false := beq_eq_false_iff_ne.mpr c80
           have c80b1 : ((x12_2.length : Int) != 0) = true := bne_iff_ne.mpr c80
           have c80b2 : ¬ (x12_2 = []) := fun h_ => c80 (by rw [h_]; rfl)
           by_cases c82 : 0 ≤ x31_1
           ·
            rw [if_pos c82] at H
            have c82b0 : decide (0 ≤ x31_1) = true := decide_eq_true c82
            clear c82
            by_cases c83 : x31_1 < (x11_2.length : Int)
            ·
             rw [if_pos c83] at H
             have c83b0 : decide (x31_1 < (x11_2.length : Int)) = true := decide_eq_true c83
             clear c83
             obtain ⟨y187, hy187⟩ : ∃ y_ : List Bool, y_ = (x11_2.set (x31_1 : Int).toNat true) := ⟨_, rfl⟩
             replace H : (flow_Loops.l2 k2 l0 x9_1 x31_1 y187 x12_2 (l0.length : Int) x31_1 t167) = some (r1, r2, r3) := by first | (rw [hy187]; with_reducible exact H) | (have H2_ := (Option.bind_some _ _).symm.trans H; rw [hy187]; with_reducible exact H2_) | (have H2_ := (Option.bind_some _ _).symm.trans H; with_reducible exact H2_) | with_reducible exact H | (rw [hy187]; exact H) | exact H
             have Ny187 := Aside0.mk hy187
             clear hy187
             have H' := Aside0.mk H
             clear H
             obtain ⟨Ao85, co85, eo85, _⟩ := Kd.Q_slice HO_12.out
             subst eo85
             have p84 : 0 ≤ (x31_1 : Int) := of_decide_eq_true (by first | (with_reducible assumption) | assumption)
             have q84 : (x31_1 : Int) < ((x11_2.length : Int) : Int) := of_decide_eq_true (by first | (with_reducible assumption) | assumption)
             obtain ⟨go84, co84, eo84, gb84, gl84, cl84, HG84⟩ := Kd.R_form HO_11.out (by omega)
             (first | cases eo84 | (injection eo84 with ea_ en_ ec_; (first | subst ea_ | (injection ea_ with ea_; subst ea_)); subst ec_; clear en_))
             have GB84 := Aside0.mk gb84
             have GG84 := Aside0.mk HG84
             clear gb84 gl84 HG84
             obtain ⟨hx84_0, hf84_0⟩ := Kd.R_celln false HO_11.out (x31_1 : Int) p84 q84
             replace p84 := eq_true p84
             replace q84 := eq_true q84
             have HP86 := Kd.R_putg HO_11.out (x31_1 : Int) true
             go_wp2_with (first | ((with_reducible refine gate_store (t := 4) (p := 89) rfl ?_); refine store_event (t := 4) (p := 89) (v := ?vo_w87) (w1 := (wr.setCell ⟨go84, (x31_1 : Int).toNat, none⟩ (.bool true))) ?hg ?ho ?hn ?hr ?_; (case ho => rfl); (case hg => rfl); (case hn => rfl); (case hr => first | (go_simp; done) | (go_simp; rfl)); intro w87 hw; have hg : wr.grownBy w87 (some go84) := (by rw [hw]; exact HP86.2); have hp_ : Kd.R Kd.bool 4 w87 w.heap.size (fun _ => True) (.slice (some ⟨go84, 0, none⟩) x11_2.length co84) y187 := (by rw [hw, Ny187.out]; exact HP86.1); clear HP86; have n0_ := Aside0.mk (Kd.S_over' (v := (.slice (some ⟨go84, 0, none⟩) x11_2.length co84)) (by (with_reducible repeat (first | apply Kd.S_alloc | apply Kd.S_drewN | apply Kd.S_drew)); exact HO_9.out) (Kd.R_typed HO_11.out) (by decide) hg); have n1_ := Aside0.mk (hp_); have n2_ := Aside0.mk (Kd.Q_over' (v := (.slice (some ⟨go84, 0, none⟩) x11_2.length co84)) (by (with_reducible repeat (first | apply Kd.Q_alloc | apply Kd.Q_drewN | apply Kd.Q_drew)); exact HO_12.out) (Kd.R_typed HO_11.out) (by decide) hg); have n3_ := Aside0.mk (Kd.R_over' (v := (.slice (some ⟨go84, 0, none⟩) x11_2.length co84)) (by (with_reducible repeat (first | apply Kd.R_alloc | apply Kd.R_drewN | apply Kd.R_drew)); exact HO_171000.out) (Kd.R_typed HO_11.out) (by decide) hg); have n4_ := Aside0.mk (blk_grown (g := gb163) (o := .cells #[.int .i64 0, .int .i64 0] 28 (0, 0)) (bk_ BK163) hg (Kd.R_ne HO_11.out BK163.out (by decide))); have n5_ := Aside0.mk (blk_grown (g := gb166) (o := .cells #[.int .i64 t164, .int .i64 t165] 28 (0, 0)) (bk_ BK166) hg (Kd.R_ne HO_11.out BK166.out (by decide))); have n6_ := Aside0.mk (blk_grown (g := gb170) (o := .cells #[.slice Ao22 t167.length co22] 22 (0, 0)) (bk_ BK170) hg (Kd.R_ne HO_11.out BK170.out (by decide))); have n7_ := Aside0.mk ((by rw [hw]; exact below_set (HB.out) GB84.out : Below w.heap.size w w87)); clear HO_9; clear HO_11; clear HO_12; clear HO_171000; clear BK163; clear BK166; clear BK170; clear HB; have HO_9 := n0_; have HO_11 := n1_; have HO_12 := n2_; have HO_171000 := n3_; have BK163 := n4_; have BK166 := n5_; have BK170 := n6_; have HB := n7_; clear n0_ n1_ n2_ n3_ n4_ n5_ n6_ n7_; clear hg hw hp_))
             go_loopg [12] k2 (fun kq v12 w' => ∃ (x11_3 : List Bool) (x12_3 : List Int), Aside0 (flow_Loops.l2 kq l0 x9_1 x31_1 x11_3 x12_3 (l0.length : Int) x31_1 t167 = some (r1, r2, r3)) ∧ Aside0 (kq ≤ k2) ∧ Aside0 (Kd.S k68 68 w' w.heap.size (fun k_ => some k_ ≠ (v12 : Value).ownBlock ∧ some k_ ≠ ((.slice Ao22 t167.length co22) : Value).ownBlock) u9 x9_1) ∧ Aside0 (Kd.R Kd.bool 4 w' w.heap.size (fun _ => True) (.slice (some ⟨go84, 0, none⟩) x11_2.length co84) x11_3) ∧ Aside0 (Kd.Q (Kd.int .i64) 3 w' w.heap.size (fun k_ => some k_ ≠ ((.slice Ao22 t167.length co22) : Value).ownBlock) v12 x12_3) ∧ Aside0 (Kd.R (Kd.int .i64) 3 w' w.heap.size (fun k_ => some k_ ≠ (v12 : Value).ownBlock) (.slice Ao22 t167.length co22) t167) ∧ Aside0 (w'.heap[gb163]? = some (.cells #[.int .i64 0, .int .i64 0] 28 (0, 0))) ∧ Aside0 (w'.heap[gb166]? = some (.cells #[.int .i64 t164, .int .i64 t165] 28 (0, 0))) ∧ Aside0 (w'.heap[gb170]? = some (.cells #[(.slice Ao22 t167.length co22)] 22 (0, 0))) ∧ Aside0 (Below w.heap.size w w'))
             case atStart => exact ⟨(y187), (x12_2), H', ⟨Nat.le_refl _⟩, ⟨by (with_reducible repeat (first | apply Kd.S_alloc | apply Kd.S_drewN | apply Kd.S_drew)); exact HO_9.out⟩, ⟨by (with_reducible repeat (first | apply Kd.R_alloc | apply Kd.R_drewN | apply Kd.R_drew)); exact HO_11.out⟩, ⟨by (with_reducible repeat (first | apply Kd.Q_alloc | apply Kd.Q_drewN | apply Kd.Q_drew)); exact HO_12.out⟩, ⟨by (with_reducible repeat (first | apply Kd.R_alloc | apply Kd.R_drewN | apply Kd.R_drew)); exact HO_171000.out⟩, ⟨bk_ BK163⟩, ⟨bk_ BK166⟩, ⟨bk_ BK170⟩, ⟨bw_ HB⟩⟩
             case round =>
              clear H'
              (try clear c1); (try clear p1); (try clear q1); (try clear hx1); (try clear c2); (try clear p2); (try clear c3); (try clear c4); (try clear c4b0); (try clear q4); (try clear c5); (try clear p5); (try clear q5); (try clear hx5); (try clear hf5); (try clear c6); (try clear p6); (try clear c7); (try clear c8); (try clear p8); (try clear q8); (try clear hx8); (try clear hf8); (try clear c17); (try clear p17); (try clear q17); (try clear hx17); (try clear c18); (try clear p18); (try clear q18); (try clear hx18); (try clear c23); (try clear c24); (try clear c26); (try clear c26b0); (try clear c27); (try clear c27b0); (try clear c27b1); (try clear c28); (try clear c28b0); (try clear c28b1); (try clear c31); (try clear c31b0); (try clear c32); (try clear c32b0); (try clear c33); (try clear c33b0); (try clear c34); (try clear c34b0); (try clear c35); (try clear c35b0); (try clear c36); (try clear c36b0); (try clear c37); (try clear c37b0); (try clear c38); (try clear c38b0); (try clear c41); (try clear c42); (try clear c43); (try clear c44); (try clear c44b0); (try clear q45); (try clear c46); (try clear c47); (try clear c48); (try clear p53); (try clear q53); (try clear hx53); (try clear hf53); (try clear c54); (try clear c55); (try clear c56); (try clear c64); (try clear p64); (try clear c65); (try clear c69); (try clear c70); (try clear c74); (try clear c75); (try clear c77); (try clear c78); (try clear c80); (try clear c80b0); (try clear c80b1); (try clear c80b2); (try clear c82); (try clear c82b0); (try clear c83); (try clear c83b0); (try clear p84); (try clear q84); (try clear hx84); (try clear hf84); (try clear hcz19_0); (try clear hcz19_1); (try clear hcz25_0); (try clear hcz49_0); (try clear hcz57_0); (try clear hcz66_0); (try clear hcz71_0); (try clear hcz76_0); (try clear hcz79_0); (try clear hcz9_0); (try clear hcz9_1); (try clear hfz19_0); (try clear hfz19_1); (try clear hfz25_0); (try clear hfz49_0); (try clear hfz57_0); (try clear hfz66_0); (try clear hfz71_0); (try clear hfz76_0); (try clear hfz79_0); (try clear hfz9_0); (try clear hfz9_1); (try clear hx174_0); (try clear hx175_0); (try clear hx176_0); (try clear hx176_1); (try clear hx176_2); (try clear hx176_3); (try clear hx182_0); (try clear hx53_0); (try clear hx84_0); (try clear p174); (try clear p175); (try clear p176); (try clear p182); (try clear p2); (try clear p53); (try clear p84); (try clear q174); (try clear q175); (try clear q176); (try clear q182); (try clear q53); (try clear q84)
              obtain ⟨x11_3, x12_3, HA, HK3, HO_9, HO_11, HO_12, HO_171000, BK163, BK166, BK170, HB⟩ := hrel
              have hl11_3 := (Kd.R_reads' HO_11.out).1
              rw [hl11_3] at HO_11
              (try simp only [hl11_3])
              (try simp only [hl11_3] at BK163)
              (try simp only [hl11_3] at BK166)
              (try simp only [hl11_3] at BK170)
              (try simp only [hl11_3] at HO_9)
              (try simp only [hl11_3] at HO_12)
              (try simp only [hl11_3] at HO_171000)
              cases gk with
              | zero => exact absurd HA.out (by simp [flow_Loops.l2])
              | succ k3 =>
               have H := HA.out
               clear HA
               simp only [flow_Loops.l2] at H
               by_cases c88 : (x12_3.length : Int) > 0
               ·
                rw [if_pos c88] at H
                have c88b0 : decide (0 < (x12_3.length : Int)) = true := decide_eq_true c88
                have c88b1 : decide (0 < x12_3.length) = true := decide_eq_true (by omega)
                clear c88
                by_cases c89 : 0 < (x12_3.length : Int)
                ·
                 rw [if_pos c89] at H
                 have c89b0 : decide (0 < (x12_3.length : Int)) = true := decide_eq_true c89
                 have c89b1 : decide (0 < x12_3.length) = true := decide_eq_true (by omega)
                 clear c89
                 by_cases c90 : (rd x12_3 0) = x31_1
                 ·
                  rw [if_pos c90] at H
                  have c90b0 : ((rd x12_3 0) == x31_1) = true := beq_iff_eq.mpr c90
                  have c90b1 : ((rd x12_3 0) != x31_1) = false := bne_eq_false_iff_eq.mpr c90
                  clear c90
                  by_cases c91 : 1 ≤ (x12_3.length : Int)
                  ·
                   rw [if_pos c91] at H
                   have c91b0 := eq_true c91
                   have c91b1 : decide (1 ≤ (x12_3.length : Int)) = true := decide_eq_true c91
                   clear c91
                   obtain ⟨y189, hy189⟩ : ∃ y_ : List Int, y_ = (x12_3.drop (1 : Int).toNat) := ⟨_, rfl⟩
                   replace H : (flow_Loops.l2 k3 l0 x9_1 x31_1 x11_3 y189 (l0.length : Int) x31_1 t167) = some (r1, r2, r3) := by first | (rw [hy189]; with_reducible exact H) | (have H2_ := (Option.bind_some _ _).symm.trans H; rw [hy189]; with_reducible exact H2_) | (have H2_ := (Option.bind_some _ _).symm.trans H; with_reducible exact H2_) | with_reducible exact H | (rw [hy189]; exact H) | exact H
                   have Ny189 := Aside0.mk hy189
                   clear hy189
                   have H' := Aside0.mk H
                   clear H
                   obtain ⟨Ao92, co92, eo92, _⟩ := Kd.Q_slice HO_12.out
                   subst eo92
                   have p188 : 0 ≤ (0 : Int) := (by omega)
                   have q188 : 0 < (x12_3.length : Int) := of_decide_eq_true (by first | (with_reducible assumption) | assumption)
                   obtain ⟨ad188, e188, hx188_0⟩ := Kd.at_int (Kd.Q_reads' HO_12.out).2.2 0 p188 q188
                   cases e188
                   have qi188 : (0 < x12_3.length) = True := eq_true (by omega)
                   (try rw [show ((0 : Int)).toNat = 0 from rfl] at hx188_0)
                   (try rw [Addr.add_zero'] at hx188_0)
                   replace p188 := eq_true p188
                   replace q188 := eq_true q188
                   have q93 : (1 : Int) ≤ ((x12_3.length : Int) : Int) := of_decide_eq_true (by first | (with_reducible assumption) | assumption)
                   obtain ⟨i093, hi093, _, hsz93, _⟩ := info_parts info3
                   have hcut93 := cut_from (P := Try.prog) 22 3 .i64 Try.underlying22 hi093 1 hsz93 (some ad188) x12_3.length co92 1 (by omega) q93
                   have hr93 := Kd.Q_drop (k := (1 : Int).toNat) HO_12.out (by omega)
                   obtain ⟨A93, hA93⟩ : ∃ A1, A1 = (if co92 = (1 : Int).toNat then (some ad188) else ((some ad188) : Option Addr).map (·.add ((1 : Int).toNat * 1))) := ⟨_, rfl⟩
                   obtain ⟨c93, hc93⟩ : ∃ c1, c1 = co92 - (1 : Int).toNat := ⟨_, rfl⟩
                   have hy93 : y189.length = x12_3.length - (1 : Int).toNat := (by rw [Ny189.out, List.length_drop])
                   rw [← Ny189.out] at hr93
                   rw [← hy93, ← hA93, ← hc93] at hcut93
                   replace hr93 : Kd.Q (Kd.int .i64) 3 wr w.heap.size (fun k_ => some k_ ≠ (.slice Ao22 t167.length co22 : Value).ownBlock) (.slice A93 y189.length c93) y189 := (by rw [hA93, hc93, hy93]; exact hr93)
                   have HE93 : Aside0 ((Value.slice A93 y189.length c93).ownBlock = (.slice (some ad188) x12_3.length co92 : Value).ownBlock) := ⟨by rw [hA93]; split <;> (cases ((some ad188) : Option Addr) <;> rfl)⟩
                   clear hy93 hi093 hsz93 HO_12 hA93 hc93
                   have HO191 := Aside0.mk hr93
                   clear hr93
                   replace q93 := eq_true q93
                   have n_ := Aside0.mk (Kd.S_mono (ok' := fun k_ => (some k_ ≠ (.slice A93 y189.length c93 : Value).ownBlock ∧ some k_ ≠ (.slice Ao22 t167.length co22 : Value).ownBlock)) HO_9.out (fun k_ hk => ⟨(by rw [HE93.out]; exact hk.1), hk.2⟩))
                   clear HO_9
                   have HO_9 := n_
                   clear n_
                   have n_ := Aside0.mk (Kd.R_mono (ok' := fun k_ => some k_ ≠ (.slice A93 y189.length c93 : Value).ownBlock) HO_171000.out (fun k_ hk => (by rw [HE93.out]; exact hk)))
                   clear HO_171000
                   have HO_171000 := n_
                   clear n_
                   go_wp2
                   (try simp only [← hl11_3])
                   go_roundg k3
                   case measure => have := HK1.out; have := HK2.out; have := HK3.out; omega
                   case rel => exact ⟨(x11_3), (y189), H', ⟨by have := HK1.out; have := HK2.out; have := HK3.out; omega⟩, ⟨by (try simp only [hl11_3]); (with_reducible repeat (first | apply Kd.S_alloc | apply Kd.S_drewN | apply Kd.S_drew)); exact HO_9.out⟩, ⟨by (try simp only [hl11_3]); (with_reducible repeat (first | apply Kd.R_alloc | apply Kd.R_drewN | apply Kd.R_drew)); exact HO_11.out⟩, ⟨by (try simp only [hl11_3]); (with_reducible repeat (first | apply Kd.Q_alloc | apply Kd.Q_drewN | apply Kd.Q_drew)); exact HO191.out⟩, ⟨by (try simp only [hl11_3]); (with_reducible repeat (first | apply Kd.R_alloc | apply Kd.R_drewN | apply Kd.R_drew)); exact HO_171000.out⟩, ⟨by (try simp only [hl11_3]); (with_reducible repeat (first | refine blk_drewN ?_ _ | refine blk_drew ?_ | refine blk_alloc ?_ _)); exact BK163.out⟩, ⟨by (try simp only [hl11_3]); (with_reducible repeat (first | refine blk_drewN ?_ _ | refine blk_drew ?_ | refine blk_alloc ?_ _)); exact BK166.out⟩, ⟨by (try simp only [hl11_3]); (with_reducible repeat (first | refine blk_drewN ?_ _ | refine blk_drew ?_ | refine blk_alloc ?_ _)); exact BK170.out⟩, ⟨bw_ HB⟩⟩
                  ·
                   rw [if_neg c91] at H
                   exact absurd H (by simp)
                 ·
                  rw [if_neg c90] at H
                  have c90b0 : ((rd x12_3 0) == x31_1) = false := beq_eq_false_iff_ne.mpr c90
                  have c90b1 : ((rd x12_3 0) != x31_1) = true := bne_iff_ne.mpr c90
                  have H' := Aside0.mk H
                  clear H
                  obtain ⟨Ao94, co94, eo94, _⟩ := Kd.Q_slice HO_12.out
                  subst eo94
                  have p188 : 0 ≤ (0 : Int) := (by omega)
                  have q188 : 0 < (x12_3.length : Int) := of_decide_eq_true (by first | (with_reducible assumption) | assumption)
                  obtain ⟨ad188, e188, hx188_0⟩ := Kd.at_int (Kd.Q_reads' HO_12.out).2.2 0 p188 q188
                  cases e188
                  have qi188 : (0 < x12_3.length) = True := eq_true (by omega)
                  (try rw [show ((0 : Int)).toNat = 0 from rfl] at hx188_0)
                  (try rw [Addr.add_zero'] at hx188_0)
                  replace p188 := eq_true p188
                  replace q188 := eq_true q188
                  go_wp2
                  go_loopg [12, 102] k3 (fun kq v12 v102 w' => ∃ (x11_4 : List Bool) (x12_4 : List Int) (x102_4 : Int), v102 = .int .i64 x102_4 ∧ Aside0 (flow_Loops.l3 kq l0 x9_1 x31_1 x11_4 x12_4 (l0.length : Int) x31_1 (l0.length : Int) x102_4 t167 = some (r1, r2, r3)) ∧ Aside0 (kq ≤ k3) ∧ Aside0 (Kd.S k68 68 w' w.heap.size (fun k_ => some k_ ≠ (v12 : Value).ownBlock ∧ some k_ ≠ ((.slice Ao22 t167.length co22) : Value).ownBlock) u9 x9_1) ∧ Aside0 (Kd.R Kd.bool 4 w' w.heap.size (fun _ => True) (.slice (some ⟨go84, 0, none⟩) x11_3.length co84) x11_4) ∧ Aside0 (Kd.Q (Kd.int .i64) 3 w' w.heap.size (fun k_ => some k_ ≠ ((.slice Ao22 t167.length co22) : Value).ownBlock) v12 x12_4) ∧ Aside0 (Kd.R (Kd.int .i64) 3 w' w.heap.size (fun k_ => some k_ ≠ (v12 : Value).ownBlock) (.slice Ao22 t167.length co22) t167) ∧ Aside0 (w'.heap[gb163]? = some (.cells #[.int .i64 0, .int .i64 0] 28 (0, 0))) ∧ Aside0 (w'.heap[gb166]? = some (.cells #[.int .i64 t164, .int .i64 t165] 28 (0, 0))) ∧ Aside0 (w'.heap[gb170]? = some (.cells #[(.slice Ao22 t167.length co22)] 22 (0, 0))) ∧ Aside0 (Below w.heap.size w w'))
                  case atStart => exact ⟨(x11_3), (x12_3), (0), rs_, H', ⟨Nat.le_refl _⟩, ⟨by (try simp only [hl11_3]); (with_reducible repeat (first | apply Kd.S_alloc | apply Kd.S_drewN | apply Kd.S_drew)); exact HO_9.out⟩, ⟨by (try simp only [hl11_3]); (with_reducible repeat (first | apply Kd.R_alloc | apply Kd.R_drewN | apply Kd.R_drew)); exact HO_11.out⟩, ⟨by (try simp only [hl11_3]); (with_reducible repeat (first | apply Kd.Q_alloc | apply Kd.Q_drewN | apply Kd.Q_drew)); exact HO_12.out⟩, ⟨by (try simp only [hl11_3]); (with_reducible repeat (first | apply Kd.R_alloc | apply Kd.R_drewN | apply Kd.R_drew)); exact HO_171000.out⟩, ⟨by (try simp only [hl11_3]); (with_reducible repeat (first | refine blk_drewN ?_ _ | refine blk_drew ?_ | refine blk_alloc ?_ _)); exact BK163.out⟩, ⟨by (try simp only [hl11_3]); (with_reducible repeat (first | refine blk_drewN ?_ _ | refine blk_drew ?_ | refine blk_alloc ?_ _)); exact BK166.out⟩, ⟨by (try simp only [hl11_3]); (with_reducible repeat (first | refine blk_drewN ?_ _ | refine blk_drew ?_ | refine blk_alloc ?_ _)); exact BK170.out⟩, ⟨bw_ HB⟩⟩
                  case round =>
                   clear H'
                   (try clear c1); (try clear p1); (try clear q1); (try clear hx1); (try clear qi1); (try clear c2); (try clear p2); (try clear c3); (try clear c4); (try clear c4b0); (try clear q4); (try clear c5); (try clear p5); (try clear q5); (try clear hx5); (try clear hf5); (try clear c6); (try clear p6); (try clear c7); (try clear c8); (try clear p8); (try clear q8); (try clear hx8); (try clear hf8); (try clear c9); (try clear q9); (try clear c17); (try clear p17); (try clear q17); (try clear hx17); (try clear c18); (try clear p18); (try clear q18); (try clear hx18); (try clear qi18); (try clear c23); (try clear c24); (try clear c26); (try clear c26b0); (try clear c27); (try clear c27b0); (try clear c27b1); (try clear c28); (try clear c28b0); (try clear c28b1); (try clear c31); (try clear c31b0); (try clear c32); (try clear c32b0); (try clear c33); (try clear c33b0); (try clear c34); (try clear c34b0); (try clear c35); (try clear c35b0); (try clear c36); (try clear c36b0); (try clear c37); (try clear c37b0); (try clear c38); (try clear c38b0); (try clear c41); (try clear c42); (try clear c43); (try clear c44); (try clear c44b0); (try clear q45); (try clear c46); (try clear c47); (try clear c48); (try clear p53); (try clear q53); (try clear hx53); (try clear hf53); (try clear c54); (try clear c55); (try clear c56); (try clear c64); (try clear p64); (try clear c65); (try clear c69); (try clear c70); (try clear c74); (try clear c75); (try clear c77); (try clear c78); (try clear c80); (try clear c80b0); (try clear c80b1); (try clear c80b2); (try clear c82); (try clear c82b0); (try clear c83); (try clear c83b0); (try clear p84); (try clear q84); (try clear hx84); (try clear hf84); (try clear c88); (try clear c88b0); (try clear c88b1); (try clear c89); (try clear c89b0); (try clear c89b1); (try clear c90); (try clear c90b0); (try clear c90b1); (try clear c91); (try clear c91b0); (try clear c91b1); (try clear c93); (try clear q93); (try clear hcz19_0); (try clear hcz19_1); (try clear hcz25_0); (try clear hcz49_0); (try clear hcz57_0); (try clear hcz66_0); (try clear hcz71_0); (try clear hcz76_0); (try clear hcz79_0); (try clear hcz9_0); (try clear hcz9_1); (try clear hfz19_0); (try clear hfz19_1); (try clear hfz25_0); (try clear hfz49_0); (try clear hfz57_0); (try clear hfz66_0); (try clear hfz71_0); (try clear hfz76_0); (try clear hfz79_0); (try clear hfz9_0); (try clear hfz9_1); (try clear hx174_0); (try clear hx175_0); (try clear hx176_0); (try clear hx176_1); (try clear hx176_2); (try clear hx176_3); (try clear hx182_0); (try clear hx188_0); (try clear hx53_0); (try clear hx84_0); (try clear p1); (try clear p17); (try clear p174); (try clear p175); (try clear p176); (try clear p18); (try clear p182); (try clear p188); (try clear p2); (try clear p5); (try clear p53); (try clear p6); (try clear p64); (try clear p8); (try clear p84); (try clear q1); (try clear q17); (try clear q174); (try clear q175); (try clear q176); (try clear q18)
                   (try clear q182); (try clear q188); (try clear q4); (try clear q45); (try clear q5); (try clear q53); (try clear q8); (try clear q84); (try clear q93)
                   obtain ⟨x11_4, x12_4, x102_4, rfl, HA, HK4, HO_9, HO_11, HO_12, HO_171000, BK163, BK166, BK170, HB⟩ := hrel
                   have hl11_4 := (Kd.R_reads' HO_11.out).1
                   rw [hl11_4] at HO_11
                   (try simp only [hl11_4])
                   (try simp only [hl11_4] at BK163)
                   (try simp only [hl11_4] at BK166)
                   (try simp only [hl11_4] at BK170)
                   (try simp only [hl11_4] at HO_9)
                   (try simp only [hl11_4] at HO_12)
                   (try simp only [hl11_4] at HO_171000)
                   cases gk with
                   | zero => exact absurd HA.out (by simp [flow_Loops.l3])
                   | succ k4 =>
                    have H := HA.out
                    clear HA
                    simp only [flow_Loops.l3] at H
                    by_cases c95 : x102_4 < (l0.length : Int)
                    ·
                     rw [if_pos c95] at H
                     have c95b0 : decide (x102_4 < (l0.length : Int)) = true := decide_eq_true c95
                     clear c95
                     by_cases c96 : 0 ≤ x102_4
                     ·
                      rw [if_pos c96] at H
                      have c96b0 : decide (0 ≤ x102_4) = true := decide_eq_true c96
                      clear c96
                      by_cases c97 : x102_4 < (x11_4.length : Int)
                      ·
                       rw [if_pos c97] at H
                       have c97b0 : decide (x102_4 < (x11_4.length : Int)) = true := decide_eq_true c97
                       clear c97
                       obtain ⟨bq98, hbq98⟩ : ∃ b_ : Bool, b_ = (rdOf false x11_4 x102_4) := ⟨_, rfl⟩
                       replace H : (if bq98 = true then (flow_Loops.l3 k4 l0 x9_1 x31_1 x11_4 x12_4 (l0.length : Int) x31_1 (l0.length : Int) (wrap64 (x102_4 + 1)) t167) else (if x102_4 < (t167.length : Int) then (if (rd t167 x102_4) ≥ 0 then (if x102_4 < (l0.length : Int) then ((flow_Inner.f k4 ((rd_T62 l0 x102_4).f0) ((rd_T62 l0 x102_4).f1) ((rd_T62 l0 x102_4).f2) ((rd_T62 l0 x102_4).f3)).bind fun t195 => (if 0 < (x12_4.length : Int) then ((slices_Contains_int_int.f k4 t195 (rd x12_4 0)).bind fun t199 => (if t199 = true then (if x12_4.length < 17592186044416 then (flow_Loops.l3 k4 l0 x9_1 x31_1 (x11_4.set (x102_4 : Int).toNat true) (x12_4 ++ [x102_4]) (l0.length : Int) x31_1 (l0.length : Int) (wrap64 (x102_4 + 1)) t167) else (none)) else (flow_Loops.l3 k4 l0 x9_1 x31_1 x11_4 x12_4 (l0.length : Int) x31_1 (l0.length : Int) (wrap64 (x102_4 + 1)) t167))) else (none))) else (none)) else (flow_Loops.l3 k4 l0 x9_1 x31_1 x11_4 x12_4 (l0.length : Int) x31_1 (l0.length : Int) (wrap64 (x102_4 + 1)) t167)) else (none))) = some (r1, r2, r3) := by rw [← hbq98] at H; exact H
                       have Nbq98 := Aside0.mk hbq98
                       clear hbq98
                       by_cases c99 : bq98 = true
                       ·
                        subst c99
                        have H1 : (flow_Loops.l3 k4 l0 x9_1 x31_1 x11_4 x12_4 (l0.length : Int) x31_1 (l0.length : Int) (wrap64 (x102_4 + 1)) t167) = some (r1, r2, r3) := by rw [if_pos rfl] at H; exact H
                        clear H
                        have H := H1
                        clear H1
                        have H' := Aside0.mk H
                        clear H
                        try go_wp2
                        have n0_ := Aside0.mk (Kd.S_drew HO_9.out)
                        have n1_ := Aside0.mk (Kd.R_drew HO_11.out)
                        have n2_ := Aside0.mk (Kd.Q_drew HO_12.out)
                        have n3_ := Aside0.mk (Kd.R_drew HO_171000.out)
                        have n4_ := Aside0.mk (blk_drew BK163.out)
                        have n5_ := Aside0.mk (blk_drew BK166.out)
                        have n6_ := Aside0.mk (blk_drew BK170.out)
                        have n7_ := Aside0.mk (below_drew1 HB.out)
                        clear HO_9
                        clear HO_11
                        clear HO_12
                        clear HO_171000
                        clear BK163
                        clear BK166
                        clear BK170
                        clear HB
                        have HO_9 := n0_
                        have HO_11 := n1_
                        have HO_12 := n2_
                        have HO_171000 := n3_
                        have BK163 := n4_
                        have BK166 := n5_
                        have BK170 := n6_
                        have HB := n7_
                        clear n0_ n1_ n2_ n3_ n4_ n5_ n6_ n7_
                        have p192 : 0 ≤ (x102_4 : Int) := of_decide_eq_true (by first | (with_reducible assumption) | assumption)
                        have q192 : x102_4 < (x11_4.length : Int) := of_decide_eq_true (by first | (with_reducible assumption) | assumption)
                        obtain ⟨ad192, e192, hx192_0⟩ := Kd.at_bool (Kd.R_reads' HO_11.out).2.2 x102_4 p192 q192
                        (try rw [← Nbq98.out] at hx192_0)
                        obtain rfl : (⟨go84, 0, none⟩ : Addr) = ad192 := (by injection e192)
                        (first | simp only [add_plain] at hx192_0 | simp only [add_at] at hx192_0 | simp only [Addr.add, Nat.zero_add] at hx192_0 | skip)
                        replace p192 := eq_true p192
                        replace q192 := eq_true q192
                        refine start_ (n := 23) (S := fun w' => w'.cell? ⟨go84, (x102_4).toNat, none⟩ = some (.bool true)) (ds := []) #[false, false, false, false, false, false, false, false, false, false, false, false, false, false, false, false, false, false, false, false, false, false, false] (by kernel_rfl) rfl rfl (hx192_0) (fun hHeld => ?_); refine with_tabW flow_Loops.tab27 flow_Loops.bits27 (fun HT_ HW_ => ?_)
                        generalize wr.drew = w100 at HO_9 HO_11 HO_12 HO_171000 BK163 BK166 BK170 HB hx192_0 hHeld ⊢
                        refine pure_ (i := 0) (N := some 105) (v := ?_) (a' := ?_) #[true, false, false, false, false, false, false, false, false, false, false, false, false, false, false, false, false, false, false, false, false, false, false] rfl rfl (any_of HT_.out (by kernel_rfl)) (fun _ _ _ h => h) (Or.inl ⟨by rfl, ?_⟩) ?_ ?_
                        rotate_left
                        ·
                         intro w'
                         go_simp
                         with_reducible rfl
                        rotate_left
                        ·
                         simp only [Act.put, List.setIfInBounds_toArray, List.set_cons_zero, List.set_cons_succ, i64_w, i32_w]
                         rfl
                        refine pure_ (i := 1) (N := some 106) (v := ?_) (a' := ?_) #[true, true, false, false, false, false, false, false, false, false, false, false, false, false, false, false, false, false, false, false, false, false, false] rfl rfl (any_of HT_.out (by kernel_rfl)) (fun _ _ _ h => h) (Or.inl ⟨by rfl, ?_⟩) ?_ ?_
                        rotate_left
                        ·
                         intro w'
                         go_simp
                         with_reducible rfl
                        rotate_left
                        ·
                         simp only [Act.put, List.setIfInBounds_toArray, List.set_cons_zero, List.set_cons_succ, i64_w, i32_w]
                         rfl
                        refine pure_ (i := 2) (N := some 107) (v := ?_) (a' := ?_) #[true, true, true, false, false, false, false, false, false, false, false, false, false, false, false, false, false, false, false, false, false, false, false] rfl rfl (any_of HT_.out (by kernel_rfl)) (fun _ _ _ h => h) (Or.inl ⟨by rfl, ?_⟩) ?_ ?_
                        rotate_left
                        ·
                         intro w'
                         go_simp
                         with_reducible rfl
                        rotate_left
                        ·
                         simp only [Act.put, List.setIfInBounds_toArray, List.set_cons_zero, List.set_cons_succ, i64_w, i32_w]
                         rfl
                        refine take_ (i := 3) (N := some 108) (v := ?_) (a' := ?_) #[true, true, true, true, false, false, false, false, false, false, false, false, false, false, false, false, false, false, false, false, false, false, false] rfl rfl (take_ofW HT_.out HW_.out (by kernel_rfl)) (fun _ _ _ h => h) (Or.inl ⟨by rfl, ?_⟩) hHeld ?_ ?_
                        rotate_left
                        ·
                         intro w' s0
                         go_simp
                         with_reducible rfl
                        rotate_left
                        ·
                         simp only [Act.put, List.setIfInBounds_toArray, List.set_cons_zero, List.set_cons_succ, i64_w, i32_w]
                         rfl
                        refine pure_ (i := 4) (N := some 109) (v := ?_) (a' := ?_) #[true, true, true, true, true, false, false, false, false, false, false, false, false, false, false, false, false, false, false, false, false, false, false] rfl rfl (any_of HT_.out (by kernel_rfl)) (fun _ _ _ h => h) (Or.inl ⟨by rfl, ?_⟩) ?_ ?_
                        rotate_left
                        ·
                         intro w'
                         go_simp
                         with_reducible rfl
                        rotate_left
                        ·
                         simp only [Act.put, List.setIfInBounds_toArray, List.set_cons_zero, List.set_cons_succ, i64_w, i32_w]
                         rfl
                        refine pure_ (i := 5) (N := some 110) (v := ?_) (a' := ?_) #[true, true, true, true, true, true, false, false, false, false, false, false, false, false, false, false, false, false, false, false, false, false, false] rfl rfl (any_of HT_.out (by kernel_rfl)) (fun _ _ _ h => h) (Or.inl ⟨by rfl, ?_⟩) ?_ ?_
                        rotate_left
                        ·
                         intro w'
                         go_simp
                         with_reducible rfl
                        rotate_left
                        ·
                         simp only [Act.put, List.setIfInBounds_toArray, List.set_cons_zero, List.set_cons_succ, i64_w, i32_w]
                         rfl
                        refine pure_ (i := 6) (N := some 111) (v := undef) (a' := ?_) #[true, true, true, true, true, true, true, false, false, false, false, false, false, false, false, false, false, false, false, false, false, false, false] rfl rfl (any_of HT_.out (by kernel_rfl)) (fun _ _ _ h => h) (Or.inr ⟨by rfl, rfl⟩) ?_ ?_
                        rotate_left
                        ·
                         simp only [Act.put, List.setIfInBounds_toArray, List.set_cons_zero, List.set_cons_succ, i64_w, i32_w]
                         rfl
                        refine pure_ (i := 7) (N := some 112) (v := undef) (a' := ?_) #[true, true, true, true, true, true, true, true, false, false, false, false, false, false, false, false, false, false, false, false, false, false, false] rfl rfl (any_of HT_.out (by kernel_rfl)) (fun _ _ _ h => h) (Or.inr ⟨by rfl, rfl⟩) ?_ ?_
                        rotate_left
                        ·
                         simp only [Act.put, List.setIfInBounds_toArray, List.set_cons_zero, List.set_cons_succ, i64_w, i32_w]
                         rfl
                        refine pure_ (i := 8) (N := some 113) (v := undef) (a' := ?_) #[true, true, true, true, true, true, true, true, true, false, false, false, false, false, false, false, false, false, false, false, false, false, false] rfl rfl (any_of HT_.out (by kernel_rfl)) (fun _ _ _ h => h) (Or.inr ⟨by rfl, rfl⟩) ?_ ?_
                        rotate_left
                        ·
                         simp only [Act.put, List.setIfInBounds_toArray, List.set_cons_zero, List.set_cons_succ, i64_w, i32_w]
                         rfl
                        refine pure_ (i := 9) (N := some 114) (v := undef) (a' := ?_) #[true, true, true, true, true, true, true, true, true, true, false, false, false, false, false, false, false, false, false, false, false, false, false] rfl rfl (any_of HT_.out (by kernel_rfl)) (fun _ _ _ h => h) (Or.inr ⟨by rfl, rfl⟩) ?_ ?_
                        rotate_left
                        ·
                         simp only [Act.put, List.setIfInBounds_toArray, List.set_cons_zero, List.set_cons_succ, i64_w, i32_w]
                         rfl
                        refine pure_ (i := 10) (N := some 115) (v := undef) (a' := ?_) #[true, true, true, true, true, true, true, true, true, true, true, false, false, false, false, false, false, false, false, false, false, false, false] rfl rfl (any_of HT_.out (by kernel_rfl)) (fun _ _ _ h => h) (Or.inr ⟨by rfl, rfl⟩) ?_ ?_
                        rotate_left
                        ·
                         simp only [Act.put, List.setIfInBounds_toArray, List.set_cons_zero, List.set_cons_succ, i64_w, i32_w]
                         rfl
                        refine pure_ (i := 11) (N := some 116) (v := ?_) (a' := ?_) #[true, true, true, true, true, true, true, true, true, true, true, true, false, false, false, false, false, false, false, false, false, false, false] rfl rfl (any_of HT_.out (by kernel_rfl)) (fun _ _ _ h => h) (Or.inl ⟨by rfl, ?_⟩) ?_ ?_
                        rotate_left
                        ·
                         intro w'
                         go_simp
                         with_reducible rfl
                        rotate_left
                        ·
                         simp only [Act.put, List.setIfInBounds_toArray, List.set_cons_zero, List.set_cons_succ, i64_w, i32_w]
                         rfl
                        refine pure_ (i := 12) (N := some 117) (v := ?_) (a' := ?_) #[true, true, true, true, true, true, true, true, true, true, true, true, true, false, false, false, false, false, false, false, false, false, false] rfl rfl (any_of HT_.out (by kernel_rfl)) (fun _ _ _ h => h) (Or.inl ⟨by rfl, ?_⟩) ?_ ?_
                        rotate_left
                        ·
                         intro w'
                         go_simp
                         with_reducible rfl
                        rotate_left
                        ·
                         simp only [Act.put, List.setIfInBounds_toArray, List.set_cons_zero, List.set_cons_succ, i64_w, i32_w]
                         rfl
                        refine pure_ (i := 13) (N := some 118) (v := undef) (a' := ?_) #[true, true, true, true, true, true, true, true, true, true, true, true, true, true, false, false, false, false, false, false, false, false, false] rfl rfl (any_of HT_.out (by kernel_rfl)) (fun _ _ _ h => h) (Or.inr ⟨by rfl, rfl⟩) ?_ ?_
                        rotate_left
                        ·
                         simp only [Act.put, List.setIfInBounds_toArray, List.set_cons_zero, List.set_cons_succ, i64_w, i32_w]
                         rfl
                        refine pure_ (i := 14) (N := some 119) (v := undef) (a' := ?_) #[true, true, true, true, true, true, true, true, true, true, true, true, true, true, true, false, false, false, false, false, false, false, false] rfl rfl (any_of HT_.out (by kernel_rfl)) (fun _ _ _ h => h) (Or.inr ⟨by rfl, rfl⟩) ?_ ?_
                        rotate_left
                        ·
                         simp only [Act.put, List.setIfInBounds_toArray, List.set_cons_zero, List.set_cons_succ, i64_w, i32_w]
                         rfl
                        refine pure_ (i := 15) (N := some 120) (v := undef) (a' := ?_) #[true, true, true, true, true, true, true, true, true, true, true, true, true, true, true, true, false, false, false, false, false, false, false] rfl rfl (any_of HT_.out (by kernel_rfl)) (fun _ _ _ h => h) (Or.inr ⟨by rfl, rfl⟩) ?_ ?_
                        rotate_left
                        ·
                         simp only [Act.put, List.setIfInBounds_toArray, List.set_cons_zero, List.set_cons_succ, i64_w, i32_w]
                         rfl
                        refine pure_ (i := 16) (N := some 121) (v := undef) (a' := ?_) #[true, true, true, true, true, true, true, true, true, true, true, true, true, true, true, true, true, false, false, false, false, false, false] rfl rfl (any_of HT_.out (by kernel_rfl)) (fun _ _ _ h => h) (Or.inr ⟨by rfl, rfl⟩) ?_ ?_
                        rotate_left
                        ·
                         simp only [Act.put, List.setIfInBounds_toArray, List.set_cons_zero, List.set_cons_succ, i64_w, i32_w]
                         rfl
                        refine pure_ (i := 17) (N := some 122) (v := undef) (a' := ?_) #[true, true, true, true, true, true, true, true, true, true, true, true, true, true, true, true, true, true, false, false, false, false, false] rfl rfl (any_of HT_.out (by kernel_rfl)) (fun _ _ _ h => h) (Or.inr ⟨by rfl, rfl⟩) ?_ ?_
                        rotate_left
                        ·
                         simp only [Act.put, List.setIfInBounds_toArray, List.set_cons_zero, List.set_cons_succ, i64_w, i32_w]
                         rfl
                        refine pure_ (i := 18) (N := some 123) (v := undef) (a' := ?_) #[true, true, true, true, true, true, true, true, true, true, true, true, true, true, true, true, true, true, true, false, false, false, false] rfl rfl (any_of HT_.out (by kernel_rfl)) (fun _ _ _ h => h) (Or.inr ⟨by rfl, rfl⟩) ?_ ?_
                        rotate_left
                        ·
                         simp only [Act.put, List.setIfInBounds_toArray, List.set_cons_zero, List.set_cons_succ, i64_w, i32_w]
                         rfl
                        refine pure_ (i := 19) (N := some 124) (v := undef) (a' := ?_) #[true, true, true, true, true, true, true, true, true, true, true, true, true, true, true, true, true, true, true, true, false, false, false] rfl rfl (any_of HT_.out (by kernel_rfl)) (fun _ _ _ h => h) (Or.inr ⟨by rfl, rfl⟩) ?_ ?_
                        rotate_left
                        ·
                         simp only [Act.put, List.setIfInBounds_toArray, List.set_cons_zero, List.set_cons_succ, i64_w, i32_w]
                         rfl
                        refine pure_ (i := 20) (N := some 125) (v := undef) (a' := ?_) #[true, true, true, true, true, true, true, true, true, true, true, true, true, true, true, true, true, true, true, true, true, false, false] rfl rfl (any_of HT_.out (by kernel_rfl)) (fun _ _ _ h => h) (Or.inr ⟨by rfl, rfl⟩) ?_ ?_
                        rotate_left
                        ·
                         simp only [Act.put, List.setIfInBounds_toArray, List.set_cons_zero, List.set_cons_succ, i64_w, i32_w]
                         rfl
                        refine pure_ (i := 21) (N := some 126) (v := undef) (a' := ?_) #[true, true, true, true, true, true, true, true, true, true, true, true, true, true, true, true, true, true, true, true, true, true, false] rfl rfl (any_of HT_.out (by kernel_rfl)) (fun _ _ _ h => h) (Or.inr ⟨by rfl, rfl⟩) ?_ ?_
                        rotate_left
                        ·
                         simp only [Act.put, List.setIfInBounds_toArray, List.set_cons_zero, List.set_cons_succ, i64_w, i32_w]
                         rfl
                        refine pure_ (i := 22) (N := some 127) (v := ?_) (a' := ?_) #[true, true, true, true, true, true, true, true, true, true, true, true, true, true, true, true, true, true, true, true, true, true, true] rfl rfl (any_of HT_.out (by kernel_rfl)) (fun _ _ _ h => h) (Or.inl ⟨by rfl, ?_⟩) ?_ ?_
                        rotate_left
                        ·
                         intro w'
                         go_simp
                         with_reducible rfl
                        rotate_left
                        ·
                         simp only [Act.put, List.setIfInBounds_toArray, List.set_cons_zero, List.set_cons_succ, i64_w, i32_w]
                         rfl
                        refine done_ (done_of HT_.out (by kernel_rfl)) ?_
                        try go_wp2
                        (try simp only [← hl11_4])
                        go_roundg k4
                        case measure => have := HK1.out; have := HK2.out; have := HK3.out; have := HK4.out; omega
                        case rel => exact ⟨(x11_4), (x12_4), (wrap64 (x102_4 + 1)), rs_, H', ⟨by have := HK1.out; have := HK2.out; have := HK3.out; have := HK4.out; omega⟩, ⟨by (try simp only [hl11_3]); (try simp only [hl11_4]); (with_reducible repeat (first | apply Kd.S_alloc | apply Kd.S_drewN | apply Kd.S_drew)); exact HO_9.out⟩, ⟨by (try simp only [hl11_3]); (try simp only [hl11_4]); (with_reducible repeat (first | apply Kd.R_alloc | apply Kd.R_drewN | apply Kd.R_drew)); exact HO_11.out⟩, ⟨by (try simp only [hl11_3]); (try simp only [hl11_4]); (with_reducible repeat (first | apply Kd.Q_alloc | apply Kd.Q_drewN | apply Kd.Q_drew)); exact HO_12.out⟩, ⟨by (try simp only [hl11_3]); (try simp only [hl11_4]); (with_reducible repeat (first | apply Kd.R_alloc | apply Kd.R_drewN | apply Kd.R_drew)); exact HO_171000.out⟩, ⟨by (try simp only [hl11_3]); (try simp only [hl11_4]); (with_reducible repeat (first | refine blk_drewN ?_ _ | refine blk_drew ?_ | refine blk_alloc ?_ _)); exact BK163.out⟩, ⟨by (try simp only [hl11_3]); (try simp only [hl11_4]); (with_reducible repeat (first | refine blk_drewN ?_ _ | refine blk_drew ?_ | refine blk_alloc ?_ _)); exact BK166.out⟩, ⟨by (try simp only [hl11_3]); (try simp only [hl11_4]); (with_reducible repeat (first | refine blk_drewN ?_ _ | refine blk_drew ?_ | refine blk_alloc ?_ _)); exact BK170.out⟩, ⟨bw_ HB⟩⟩
                       ·
                        replace c99 := Bool.eq_false_iff.mpr c99
                        subst c99
                        have H1 : (if x102_4 < (t167.length : Int) then (if (rd t167 x102_4) ≥ 0 then (if x102_4 < (l0.length : Int) then ((flow_Inner.f k4 ((rd_T62 l0 x102_4).f0) ((rd_T62 l0 x102_4).f1) ((rd_T62 l0 x102_4).f2) ((rd_T62 l0 x102_4).f3)).bind fun t195 => (if 0 < (x12_4.length : Int) then ((slices_Contains_int_int.f k4 t195 (rd x12_4 0)).bind fun t199 => (if t199 = true then (if x12_4.length < 17592186044416 then (flow_Loops.l3 k4 l0 x9_1 x31_1 (x11_4.set (x102_4 : Int).toNat true) (x12_4 ++ [x102_4]) (l0.length : Int) x31_1 (l0.length : Int) (wrap64 (x102_4 + 1)) t167) else (none)) else (flow_Loops.l3 k4 l0 x9_1 x31_1 x11_4 x12_4 (l0.length : Int) x31_1 (l0.length : Int) (wrap64 (x102_4 + 1)) t167))) else (none))) else (none)) else (flow_Loops.l3 k4 l0 x9_1 x31_1 x11_4 x12_4 (l0.length : Int) x31_1 (l0.length : Int) (wrap64 (x102_4 + 1)) t167)) else (none)) = some (r1, r2, r3) := by rw [if_neg (show ¬ (false = true) by decide)] at H; exact H
                        clear H
                        have H := H1
                        clear H1
                        by_cases c101 : x102_4 < (t167.length : Int)
                        ·
                         rw [if_pos c101] at H
                         have c101b0 : decide (x102_4 < (t167.length : Int)) = true := decide_eq_true c101
                         clear c101
                         by_cases c102 : (rd t167 x102_4) ≥ 0
                         ·
                          rw [if_pos c102] at H
                          have c102b0 : decide (0 ≤ (rd t167 x102_4)) = true := decide_eq_true c102
                          clear c102
                          by_cases c103 : x102_4 < (l0.length : Int)
                          ·
                           rw [if_pos c103] at H
                           have c103b0 : decide (x102_4 < (l0.length : Int)) = true := decide_eq_true c103
                           clear c103
                           replace H := Option.bind_eq_some_iff.mp H
                           obtain ⟨t195, A1040, H⟩ := H
                           replace H : (if 0 < (x12_4.length : Int) then ((slices_Contains_int_int.f k4 t195 (rd x12_4 0)).bind fun t199 => (if t199 = true then (if x12_4.length < 17592186044416 then (flow_Loops.l3 k4 l0 x9_1 x31_1 (x11_4.set (x102_4 : Int).toNat true) (x12_4 ++ [x102_4]) (l0.length : Int) x31_1 (l0.length : Int) (wrap64 (x102_4 + 1)) t167) else (none)) else (flow_Loops.l3 k4 l0 x9_1 x31_1 x11_4 x12_4 (l0.length : Int) x31_1 (l0.length : Int) (wrap64 (x102_4 + 1)) t167))) else (none)) = some (r1, r2, r3) := H
                           have A104 := Aside0.mk A1040
                           clear A1040
                           by_cases c105 : 0 < (x12_4.length : Int)
                           ·
                            rw [if_pos c105] at H
                            have c105b0 : decide (0 < (x12_4.length : Int)) = true := decide_eq_true c105
                            have c105b1 : decide (0 < x12_4.length) = true := decide_eq_true (by omega)
                            clear c105
                            replace H := Option.bind_eq_some_iff.mp H
                            obtain ⟨t199, A1060, H⟩ := H
                            replace H : (if t199 = true then (if x12_4.length < 17592186044416 then (flow_Loops.l3 k4 l0 x9_1 x31_1 (x11_4.set (x102_4 : Int).toNat true) (x12_4 ++ [x102_4]) (l0.length : Int) x31_1 (l0.length : Int) (wrap64 (x102_4 + 1)) t167) else (none)) else (flow_Loops.l3 k4 l0 x9_1 x31_1 x11_4 x12_4 (l0.length : Int) x31_1 (l0.length : Int) (wrap64 (x102_4 + 1)) t167)) = some (r1, r2, r3) := H
                            have A106 := Aside0.mk A1060
                            clear A1060
                            by_cases c107 : t199 = true
                            ·
                             subst c107
                             have H1 : (if x12_4.length < 17592186044416 then (flow_Loops.l3 k4 l0 x9_1 x31_1 (x11_4.set (x102_4 : Int).toNat true) (x12_4 ++ [x102_4]) (l0.length : Int) x31_1 (l0.length : Int) (wrap64 (x102_4 + 1)) t167) else (none)) = some (r1, r2, r3) := by rw [if_pos rfl] at H; exact H
                             clear H
                             have H := H1
                             clear H1
                             obtain ⟨y200, hy200⟩ : ∃ y_ : List Bool, y_ = (x11_4.set (x102_4 : Int).toNat true) := ⟨_, rfl⟩
                             replace H : (if x12_4.length < 17592186044416 then (flow_Loops.l3 k4 l0 x9_1 x31_1 y200 (x12_4 ++ [x102_4]) (l0.length : Int) x31_1 (l0.length : Int) (wrap64 (x102_4 + 1)) t167) else (none)) = some (r1, r2, r3) := by first | (rw [hy200]; with_reducible exact H) | (have H2_ := (Option.bind_some _ _).symm.trans H; rw [hy200]; with_reducible exact H2_) | (have H2_ := (Option.bind_some _ _).symm.trans H; with_reducible exact H2_) | with_reducible exact H | (rw [hy200]; exact H) | exact H
                             have Ny200 := Aside0.mk hy200
                             clear hy200
                             by_cases c109 : x12_4.length < 17592186044416
                             ·
                              rw [if_pos c109] at H
                              have LMc109 := Aside0.mk c109
                              clear c109
                              obtain ⟨y201, hy201⟩ : ∃ y_ : List Int, y_ = (x12_4 ++ [x102_4]) := ⟨_, rfl⟩
                              replace H : (flow_Loops.l3 k4 l0 x9_1 x31_1 y200 y201 (l0.length : Int) x31_1 (l0.length : Int) (wrap64 (x102_4 + 1)) t167) = some (r1, r2, r3) := by first | (rw [hy201]; with_reducible exact H) | (have H2_ := (Option.bind_some _ _).symm.trans H; rw [hy201]; with_reducible exact H2_) | (have H2_ := (Option.bind_some _ _).symm.trans H; with_reducible exact H2_) | with_reducible exact H | (rw [hy201]; exact H) | exact H
                              have Ny201 := Aside0.mk hy201
                              clear hy201
                              have H' := Aside0.mk H
                              clear H
                              try go_wp2
                              have n0_ := Aside0.mk (Kd.S_drew HO_9.out)
                              have n1_ := Aside0.mk (Kd.R_drew HO_11.out)
                              have n2_ := Aside0.mk (Kd.Q_drew HO_12.out)
                              have n3_ := Aside0.mk (Kd.R_drew HO_171000.out)
                              have n4_ := Aside0.mk (blk_drew BK163.out)
                              have n5_ := Aside0.mk (blk_drew BK166.out)
                              have n6_ := Aside0.mk (blk_drew BK170.out)
                              have n7_ := Aside0.mk (below_drew1 HB.out)
                              clear HO_9
                              clear HO_11
                              clear HO_12
                              clear HO_171000
                              clear BK163
                              clear BK166
                              clear BK170
                              clear HB
                              have HO_9 := n0_
                              have HO_11 := n1_
                              have HO_12 := n2_
                              have HO_171000 := n3_
                              have BK163 := n4_
                              have BK166 := n5_
                              have BK170 := n6_
                              have HB := n7_
                              clear n0_ n1_ n2_ n3_ n4_ n5_ n6_ n7_
                              have p192 : 0 ≤ (x102_4 : Int) := of_decide_eq_true (by first | (with_reducible assumption) | assumption)
                              have q192 : x102_4 < (x11_4.length : Int) := of_decide_eq_true (by first | (with_reducible assumption) | assumption)
                              obtain ⟨ad192, e192, hx192_0⟩ := Kd.at_bool (Kd.R_reads' HO_11.out).2.2 x102_4 p192 q192
                              (try rw [← Nbq98.out] at hx192_0)
                              obtain rfl : (⟨go84, 0, none⟩ : Addr) = ad192 := (by injection e192)
                              (first | simp only [add_plain] at hx192_0 | simp only [add_at] at hx192_0 | simp only [Addr.add, Nat.zero_add] at hx192_0 | skip)
                              replace p192 := eq_true p192
                              replace q192 := eq_true q192
                              have p193 : 0 ≤ (x102_4 : Int) := of_decide_eq_true (by first | (with_reducible assumption) | assumption)
                              have q193 : x102_4 < (t167.length : Int) := of_decide_eq_true (by first | (with_reducible assumption) | assumption)
                              obtain ⟨ad193, e193, hx193_0⟩ := Kd.at_int (Kd.R_reads' HO_171000.out).2.2 x102_4 p193 q193
                              cases e193
                              replace p193 := eq_true p193
                              replace q193 := eq_true q193
                              have p194 : 0 ≤ (x102_4 : Int) := of_decide_eq_true (by first | (with_reducible assumption) | assumption)
                              have q194 : x102_4 < (l0.length : Int) := of_decide_eq_true (by first | (with_reducible assumption) | assumption)
                              obtain ⟨ad194, A194_3, c194_3, e194, hx194_0, hx194_1, hx194_2, hx194_3, hl194_3, hi194_3⟩ := at_T62 HR0.out x102_4 p194 q194
                              have hw194_3 := hx194_3
                              have hw194_2 := hx194_2
                              have hw194_1 := hx194_1
                              have hw194_0 := hx194_0
                              cases e194
                              replace hx194_0 := (HB.out.cell (World.block_lt_of_cell? w _ hx194_0)).trans hx194_0
                              replace hx194_1 := (HB.out.cell (World.block_lt_of_cell? w _ hx194_1)).trans hx194_1
                              replace hx194_2 := (HB.out.cell (World.block_lt_of_cell? w _ hx194_2)).trans hx194_2
                              replace hx194_3 := (HB.out.cell (World.block_lt_of_cell? w _ hx194_3)).trans hx194_3
                              have HR194_3 := Aside0.mk hi194_3
                              have HC194_3 := Aside0.mk hl194_3
                              clear hi194_3 hl194_3
                              replace p194 := eq_true p194
                              replace q194 := eq_true q194
                              obtain ⟨Ao111, co111, eo111, _⟩ := Kd.Q_slice HO_12.out
                              (first | subst eo111 | (injection eo111 with f1_ f2_ f3_; have f4_ := f1_.symm; have f5_ := f3_.symm; clear f1_ f2_ f3_; subst f4_; subst f5_))
                              have p198 : 0 ≤ (0 : Int) := (by omega)
                              have q198 : 0 < (x12_4.length : Int) := of_decide_eq_true (by first | (with_reducible assumption) | assumption)
                              obtain ⟨ad198, e198, hx198_0⟩ := Kd.at_int (Kd.Q_reads' HO_12.out).2.2 0 p198 q198
                              cases e198
                              have qi198 : (0 < x12_4.length) = True := eq_true (by omega)
                              (try rw [show ((0 : Int)).toNat = 0 from rfl] at hx198_0)
                              (try rw [Addr.add_zero'] at hx198_0)
                              replace p198 := eq_true p198
                              replace q198 := eq_true q198
                              refine start_ (n := 23) (S := fun w' => w'.cell? ⟨gb170, 0, none⟩ = some (.slice (some ad193) t167.length co22) ∧ w'.cell? ⟨go84, (x102_4).toNat, none⟩ = some (.bool false) ∧ w'.cell? (ad193.add (x102_4).toNat) = some (.int .i64 (rd t167 x102_4)) ∧ w'.cell? (ad194.add ((x102_4).toNat * 4)) = some (.int .i64 ((rd_T62 l0 x102_4).f0)) ∧ w'.cell? ⟨(ad194.add ((x102_4).toNat * 4)).block, (ad194.add ((x102_4).toNat * 4)).off + 1, none⟩ = some (.int .i64 ((rd_T62 l0 x102_4).f1)) ∧ w'.cell? ⟨(ad194.add ((x102_4).toNat * 4)).block, (ad194.add ((x102_4).toNat * 4)).off + 2, none⟩ = some (.int .i64 ((rd_T62 l0 x102_4).f2)) ∧ w'.cell? ⟨(ad194.add ((x102_4).toNat * 4)).block, (ad194.add ((x102_4).toNat * 4)).off + 3, none⟩ = some (.slice A194_3 ((rd_T62 l0 x102_4).f3).length c194_3) ∧ w'.cell? ad198 = some (.int .i64 (rd x12_4 0))) (ds := []) #[false, false, false, false, false, false, false, false, false, false, false, false, false, false, false, false, false, false, false, false, false, false, false] (by kernel_rfl) rfl rfl ⟨(blk_cell BK170.out 0).trans rfl, hx192_0, hx193_0, ((HB.out.cell (World.block_lt_of_cell? w _ hw194_0)).trans hw194_0), ((HB.out.cell (World.block_lt_of_cell? w _ hw194_1)).trans hw194_1), ((HB.out.cell (World.block_lt_of_cell? w _ hw194_2)).trans hw194_2), ((HB.out.cell (World.block_lt_of_cell? w _ hw194_3)).trans hw194_3), hx198_0⟩ (fun hHeld => ?_); refine with_tabW flow_Loops.tab27 flow_Loops.bits27 (fun HT_ HW_ => ?_)
                              generalize wr.drew = w110 at HO_9 HO_11 HO_12 HO_171000 BK163 BK166 BK170 HB HR194_3 hx192_0 hx193_0 hx194_0 hx194_1 hx194_2 hx194_3 hx198_0 hHeld ⊢
                              refine pure_ (i := 0) (N := some 105) (v := ?_) (a' := ?_) #[true, false, false, false, false, false, false, false, false, false, false, false, false, false, false, false, false, false, false, false, false, false, false] rfl rfl (any_of HT_.out (by kernel_rfl)) (fun _ _ _ h => h) (Or.inl ⟨by rfl, ?_⟩) ?_ ?_
                              rotate_left
                              ·
                               intro w'
                               go_simp
                               with_reducible rfl
                              rotate_left
                              ·
                               simp only [Act.put, List.setIfInBounds_toArray, List.set_cons_zero, List.set_cons_succ, i64_w, i32_w]
                               rfl
                              refine pure_ (i := 1) (N := some 106) (v := ?_) (a' := ?_) #[true, true, false, false, false, false, false, false, false, false, false, false, false, false, false, false, false, false, false, false, false, false, false] rfl rfl (any_of HT_.out (by kernel_rfl)) (fun _ _ _ h => h) (Or.inl ⟨by rfl, ?_⟩) ?_ ?_
                              rotate_left
                              ·
                               intro w'
                               go_simp
                               with_reducible rfl
                              rotate_left
                              ·
                               simp only [Act.put, List.setIfInBounds_toArray, List.set_cons_zero, List.set_cons_succ, i64_w, i32_w]
                               rfl
                              refine pure_ (i := 2) (N := some 107) (v := ?_) (a' := ?_) #[true, true, true, false, false, false, false, false, false, false, false, false, false, false, false, false, false, false, false, false, false, false, false] rfl rfl (any_of HT_.out (by kernel_rfl)) (fun _ _ _ h => h) (Or.inl ⟨by rfl, ?_⟩) ?_ ?_
                              rotate_left
                              ·
                               intro w'
                               go_simp
                               with_reducible rfl
                              rotate_left
                              ·
                               simp only [Act.put, List.setIfInBounds_toArray, List.set_cons_zero, List.set_cons_succ, i64_w, i32_w]
                               rfl
                              refine take_ (i := 3) (N := some 108) (v := ?_) (a' := ?_) #[true, true, true, true, false, false, false, false, false, false, false, false, false, false, false, false, false, false, false, false, false, false, false] rfl rfl (take_ofW HT_.out HW_.out (by kernel_rfl)) (fun _ _ _ h => h) (Or.inl ⟨by rfl, ?_⟩) hHeld ?_ ?_
                              rotate_left
                              ·
                               rintro w' ⟨s0, s1, s2, s3, s4, s5, s6, s7⟩
                               go_simp
                               with_reducible rfl
                              rotate_left
                              ·
                               simp only [Act.put, List.setIfInBounds_toArray, List.set_cons_zero, List.set_cons_succ, i64_w, i32_w]
                               rfl
                              refine pure_ (i := 4) (N := some 109) (v := ?_) (a' := ?_) #[true, true, true, true, true, false, false, false, false, false, false, false, false, false, false, false, false, false, false, false, false, false, false] rfl rfl (any_of HT_.out (by kernel_rfl)) (fun _ _ _ h => h) (Or.inl ⟨by rfl, ?_⟩) ?_ ?_
                              rotate_left
                              ·
                               intro w'
                               go_simp
                               with_reducible rfl
                              rotate_left
                              ·
                               simp only [Act.put, List.setIfInBounds_toArray, List.set_cons_zero, List.set_cons_succ, i64_w, i32_w]
                               rfl
                              refine pure_ (i := 5) (N := some 110) (v := ?_) (a' := ?_) #[true, true, true, true, true, true, false, false, false, false, false, false, false, false, false, false, false, false, false, false, false, false, false] rfl rfl (any_of HT_.out (by kernel_rfl)) (fun _ _ _ h => h) (Or.inl ⟨by rfl, ?_⟩) ?_ ?_
                              rotate_left
                              ·
                               intro w'
                               go_simp
                               with_reducible rfl
                              rotate_left
                              ·
                               simp only [Act.put, List.setIfInBounds_toArray, List.set_cons_zero, List.set_cons_succ, i64_w, i32_w]
                               rfl
                              refine pure_ (i := 7) (N := some 112) (v := ?_) (a' := ?_) #[true, true, true, true, true, true, false, true, false, false, false, false, false, false, false, false, false, false, false, false, false, false, false] rfl rfl (any_of HT_.out (by kernel_rfl)) (fun _ _ _ h => h) (Or.inl ⟨by rfl, ?_⟩) ?_ ?_
                              rotate_left
                              ·
                               intro w'
                               go_simp
                               with_reducible rfl
                              rotate_left
                              ·
                               simp only [Act.put, List.setIfInBounds_toArray, List.set_cons_zero, List.set_cons_succ, i64_w, i32_w]
                               rfl
                              refine take_ (i := 6) (N := some 111) (v := ?_) (a' := ?_) #[true, true, true, true, true, true, true, true, false, false, false, false, false, false, false, false, false, false, false, false, false, false, false] rfl rfl (take_ofW HT_.out HW_.out (by kernel_rfl)) (fun _ _ _ h => h) (Or.inl ⟨by rfl, ?_⟩) hHeld ?_ ?_
                              rotate_left
                              ·
                               rintro w' ⟨s0, s1, s2, s3, s4, s5, s6, s7⟩
                               go_simp
                               with_reducible rfl
                              rotate_left
                              ·
                               simp only [Act.put, List.setIfInBounds_toArray, List.set_cons_zero, List.set_cons_succ, i64_w, i32_w]
                               rfl
                              refine pure_ (i := 8) (N := some 113) (v := ?_) (a' := ?_) #[true, true, true, true, true, true, true, true, true, false, false, false, false, false, false, false, false, false, false, false, false, false, false] rfl rfl (any_of HT_.out (by kernel_rfl)) (fun _ _ _ h => h) (Or.inl ⟨by rfl, ?_⟩) ?_ ?_
                              rotate_left
                              ·
                               intro w'
                               go_simp
                               with_reducible rfl
                              rotate_left
                              ·
                               simp only [Act.put, List.setIfInBounds_toArray, List.set_cons_zero, List.set_cons_succ, i64_w, i32_w]
                               rfl
                              refine take_ (i := 9) (N := some 114) (v := ?_) (a' := ?_) #[true, true, true, true, true, true, true, true, true, true, false, false, false, false, false, false, false, false, false, false, false, false, false] rfl rfl (take_ofW HT_.out HW_.out (by kernel_rfl)) (fun _ _ _ h => h) (Or.inl ⟨by rfl, ?_⟩) hHeld ?_ ?_
                              rotate_left
                              ·
                               rintro w' ⟨s0, s1, s2, s3, s4, s5, s6, s7⟩
                               go_simp
                               with_reducible rfl
                              rotate_left
                              ·
                               simp only [Act.put, List.setIfInBounds_toArray, List.set_cons_zero, List.set_cons_succ, i64_w, i32_w]
                               rfl
                              refine pure_ (i := 10) (N := some 115) (v := ?_) (a' := ?_) #[true, true, true, true, true, true, true, true, true, true, true, false, false, false, false, false, false, false, false, false, false, false, false] rfl rfl (any_of HT_.out (by kernel_rfl)) (fun _ _ _ h => h) (Or.inl ⟨by rfl, ?_⟩) ?_ ?_
                              rotate_left
                              ·
                               intro w'
                               go_simp
                               with_reducible rfl
                              rotate_left
                              ·
                               simp only [Act.put, List.setIfInBounds_toArray, List.set_cons_zero, List.set_cons_succ, i64_w, i32_w]
                               rfl
                              refine pure_ (i := 11) (N := some 116) (v := ?_) (a' := ?_) #[true, true, true, true, true, true, true, true, true, true, true, true, false, false, false, false, false, false, false, false, false, false, false] rfl rfl (any_of HT_.out (by kernel_rfl)) (fun _ _ _ h => h) (Or.inl ⟨by rfl, ?_⟩) ?_ ?_
                              rotate_left
                              ·
                               intro w'
                               go_simp
                               with_reducible rfl
                              rotate_left
                              ·
                               simp only [Act.put, List.setIfInBounds_toArray, List.set_cons_zero, List.set_cons_succ, i64_w, i32_w]
                               rfl
                              refine pure_ (i := 12) (N := some 117) (v := ?_) (a' := ?_) #[true, true, true, true, true, true, true, true, true, true, true, true, true, false, false, false, false, false, false, false, false, false, false] rfl rfl (any_of HT_.out (by kernel_rfl)) (fun _ _ _ h => h) (Or.inl ⟨by rfl, ?_⟩) ?_ ?_
                              rotate_left
                              ·
                               intro w'
                               go_simp
                               with_reducible rfl
                              rotate_left
                              ·
                               simp only [Act.put, List.setIfInBounds_toArray, List.set_cons_zero, List.set_cons_succ, i64_w, i32_w]
                               rfl
                              refine pure_ (i := 13) (N := some 118) (v := ?_) (a' := ?_) #[true, true, true, true, true, true, true, true, true, true, true, true, true, true, false, false, false, false, false, false, false, false, false] rfl rfl (any_of HT_.out (by kernel_rfl)) (fun _ _ _ h => h) (Or.inl ⟨by rfl, ?_⟩) ?_ ?_
                              rotate_left
                              ·
                               intro w'
                               go_simp
                               with_reducible rfl
                              rotate_left
                              ·
                               simp only [Act.put, List.setIfInBounds_toArray, List.set_cons_zero, List.set_cons_succ, i64_w, i32_w]
                               rfl
                              refine pure_ (i := 14) (N := some 119) (v := ?_) (a' := ?_) #[true, true, true, true, true, true, true, true, true, true, true, true, true, true, true, false, false, false, false, false, false, false, false] rfl rfl (any_of HT_.out (by kernel_rfl)) (fun _ _ _ h => h) (Or.inl ⟨by rfl, ?_⟩) ?_ ?_
                              rotate_left
                              ·
                               intro w'
                               go_simp
                               with_reducible rfl
                              rotate_left
                              ·
                               simp only [Act.put, List.setIfInBounds_toArray, List.set_cons_zero, List.set_cons_succ, i64_w, i32_w]
                               rfl
                              refine pure_ (i := 15) (N := some 120) (v := ?_) (a' := ?_) #[true, true, true, true, true, true, true, true, true, true, true, true, true, true, true, true, false, false, false, false, false, false, false] rfl rfl (any_of HT_.out (by kernel_rfl)) (fun _ _ _ h => h) (Or.inl ⟨by rfl, ?_⟩) ?_ ?_
                              rotate_left
                              ·
                               intro w'
                               go_simp
                               with_reducible rfl
                              rotate_left
                              ·
                               simp only [Act.put, List.setIfInBounds_toArray, List.set_cons_zero, List.set_cons_succ, i64_w, i32_w]
                               rfl
                              refine pure_ (i := 18) (N := some 123) (v := ?_) (a' := ?_) #[true, true, true, true, true, true, true, true, true, true, true, true, true, true, true, true, false, false, true, false, false, false, false] rfl rfl (any_of HT_.out (by kernel_rfl)) (fun _ _ _ h => h) (Or.inl ⟨by rfl, ?_⟩) ?_ ?_
                              rotate_left
                              ·
                               intro w'
                               go_simp
                               with_reducible rfl
                              rotate_left
                              ·
                               simp only [Act.put, List.setIfInBounds_toArray, List.set_cons_zero, List.set_cons_succ, i64_w, i32_w]
                               rfl
                              refine pure_ (i := 19) (N := some 124) (v := ?_) (a' := ?_) #[true, true, true, true, true, true, true, true, true, true, true, true, true, true, true, true, false, false, true, true, false, false, false] rfl rfl (any_of HT_.out (by kernel_rfl)) (fun _ _ _ h => h) (Or.inl ⟨by rfl, ?_⟩) ?_ ?_
                              rotate_left
                              ·
                               intro w'
                               go_simp
                               with_reducible rfl
                              rotate_left
                              ·
                               simp only [Act.put, List.setIfInBounds_toArray, List.set_cons_zero, List.set_cons_succ, i64_w, i32_w]
                               rfl
                              refine take_ (i := 16) (N := some 121) (v := ?_) (a' := ?_) #[true, true, true, true, true, true, true, true, true, true, true, true, true, true, true, true, true, false, true, true, false, false, false] rfl rfl (take_ofW HT_.out HW_.out (by kernel_rfl)) (fun _ _ _ h => h) (Or.inl ⟨by rfl, ?_⟩) hHeld ?_ ?_
                              rotate_left
                              ·
                               rintro w' ⟨s0, s1, s2, s3, s4, s5, s6, s7⟩
                               go_simp
                               with_reducible rfl
                              rotate_left
                              ·
                               simp only [Act.put, List.setIfInBounds_toArray, List.set_cons_zero, List.set_cons_succ, i64_w, i32_w]
                               rfl
                              refine take_ (i := 20) (N := some 125) (v := ?_) (a' := ?_) #[true, true, true, true, true, true, true, true, true, true, true, true, true, true, true, true, true, false, true, true, true, false, false] rfl rfl (take_ofW HT_.out HW_.out (by kernel_rfl)) (fun _ _ _ h => h) (Or.inl ⟨by rfl, ?_⟩) hHeld ?_ ?_
                              rotate_left
                              ·
                               rintro w' ⟨s0, s1, s2, s3, s4, s5, s6, s7⟩
                               go_simp
                               with_reducible rfl
                              rotate_left
                              ·
                               simp only [Act.put, List.setIfInBounds_toArray, List.set_cons_zero, List.set_cons_succ, i64_w, i32_w]
                               rfl
                              refine one_ (i := 17) (N := some 122) #[true, true, true, true, true, true, true, true, true, true, true, true, true, true, true, true, true, true, true, true, true, false, false] rfl rfl (one_of HT_.out (by kernel_rfl)) (by decide) (fun K hK => ?_)
                              refine goes_ Try.func48 (by kernel_rfl) rfl #[.agg #[.int .i64 ((rd_T62 l0 x102_4).f0), .int .i64 ((rd_T62 l0 x102_4).f1), .int .i64 ((rd_T62 l0 x102_4).f2), .slice A194_3 ((rd_T62 l0 x102_4).f3).length c194_3]] (by rfl) rfl rfl ar_ ?_
                              with_reducible refine (flow_Inner.calls k4 ((rd_T62 l0 x102_4).f0) ((rd_T62 l0 x102_4).f1) ((rd_T62 l0 x102_4).f2) _ _ ((rd_T62 l0 x102_4).f3) t195 _ ?side1 ?side2 A104.out).mono ?_
                              (case side1 => exact cb_ HR194_3 HB)
                              (case side2 => exact HC194_3.out)
                              rintro e w112 ⟨v196, rfl, ho0, hb⟩
                              have HS1_ := (hb.cell (World.block_lt_of_cell? _ _ (hHeld.2.1))).trans (hHeld.2.1)
                              have HS2_ := (hb.cell (World.block_lt_of_cell? _ _ (hHeld.2.2.1))).trans (hHeld.2.2.1)
                              have HS7_ := (hb.cell (World.block_lt_of_cell? _ _ (hHeld.2.2.2.2.2.2.2))).trans (hHeld.2.2.2.2.2.2.2)
                              refine ⟨_, rfl, ?_⟩
                              have n0_ := Aside0.mk (Kd.S_elder' (by (with_reducible repeat (first | apply Kd.S_alloc | apply Kd.S_drewN | apply Kd.S_drew)); exact HO_9.out) (Kd.R_base ho0) hb)
                              have n1_ := Aside0.mk (Kd.R_below (by (with_reducible repeat (first | apply Kd.R_alloc | apply Kd.R_drewN | apply Kd.R_drew)); exact HO_11.out) hb)
                              have n2_ := Aside0.mk (Kd.Q_elder' (by (with_reducible repeat (first | apply Kd.Q_alloc | apply Kd.Q_drewN | apply Kd.Q_drew)); exact HO_12.out) (Kd.R_base ho0) hb)
                              have n3_ := Aside0.mk (Kd.R_elder' (by (with_reducible repeat (first | apply Kd.R_alloc | apply Kd.R_drewN | apply Kd.R_drew)); exact HO_171000.out) (Kd.R_base ho0) hb)
                              have n4_ := Aside0.mk (Kd.R_lower (Kd.R_new' (Kd.R_new' ho0 (Kd.Q_lt (by (with_reducible repeat (first | apply Kd.Q_alloc | apply Kd.Q_drewN | apply Kd.Q_drew)); exact HO_12.out))) (Kd.R_lt (by (with_reducible repeat (first | apply Kd.R_alloc | apply Kd.R_drewN | apply Kd.R_drew)); exact HO_171000.out))) (below_size (bw_ HB)))
                              have n5_ := Aside0.mk (blk_below (g := gb163) (o := .cells #[.int .i64 0, .int .i64 0] 28 (0, 0)) (bk_ BK163) hb)
                              have n6_ := Aside0.mk (blk_below (g := gb166) (o := .cells #[.int .i64 t164, .int .i64 t165] 28 (0, 0)) (bk_ BK166) hb)
                              have n7_ := Aside0.mk (blk_below (g := gb170) (o := .cells #[.slice (some ad193) t167.length co22] 22 (0, 0)) (bk_ BK170) hb)
                              have n8_ := Aside0.mk (below_step (bw_ HB) hb)
                              clear HO_9
                              clear HO_11
                              clear HO_12
                              clear HO_171000
                              clear BK163
                              clear BK166
                              clear BK170
                              clear HB
                              have HO_9 := n0_
                              have HO_11 := n1_
                              have HO_12 := n2_
                              have HO_171000 := n3_
                              have HO197 := n4_
                              have BK163 := n5_
                              have BK166 := n6_
                              have BK170 := n7_
                              have HB := n8_
                              clear n0_ n1_ n2_ n3_ n4_ n5_ n6_ n7_ n8_
                              (try clear hb)
                              (try clear hb2)
                              (try clear hk)
                              (try clear hi)
                              (try clear ho0)
                              obtain ⟨Ao113, co113, eo113⟩ := Kd.R_slice HO197.out
                              (first | subst eo113 | (injection eo113 with f1_ f2_ f3_; have f4_ := f1_.symm; have f5_ := f3_.symm; clear f1_ f2_ f3_; subst f4_; subst f5_))
                              refine hK.out _ _ ⟨(blk_cell BK170.out 0).trans rfl, HS1_, HS2_, ((HB.out.cell (World.block_lt_of_cell? w _ hw194_0)).trans hw194_0), ((HB.out.cell (World.block_lt_of_cell? w _ hw194_1)).trans hw194_1), ((HB.out.cell (World.block_lt_of_cell? w _ hw194_2)).trans hw194_2), ((HB.out.cell (World.block_lt_of_cell? w _ hw194_3)).trans hw194_3), HS7_⟩ (fun hHeld => ?_)
                              clear hK K
                              refine norm_ (a' := ?_) ?_ ?_
                              rotate_left
                              ·
                               show Act.put _ (some 122) _ = _
                               simp only [Act.put, List.setIfInBounds_toArray, List.set_cons_zero, List.set_cons_succ, i64_w, i32_w]
                               rfl
                              refine one_ (i := 21) (N := some 126) #[true, true, true, true, true, true, true, true, true, true, true, true, true, true, true, true, true, true, true, true, true, true, false] rfl rfl (one_of HT_.out (by kernel_rfl)) (by decide) (fun K hK => ?_)
                              refine goes_ Try.func47 (by kernel_rfl) rfl #[.slice Ao113 t195.length co113, .int .i64 (rd x12_4 0)] (by rfl) rfl rfl ar_ ?_
                              with_reducible refine (slices_Contains_int_int.calls k4 _ _ t195 (rd x12_4 0) true _ ?side1 ?side2 A106.out).mono ?_
                              (case side1 => repeat (first | exact (Kd.R_reads' HO197.out).2.2 | (with_reducible refine Kd.C_alloc ?_ _) | (with_reducible refine Kd.C_drewN ?_ _) | (with_reducible refine Kd.C_drew ?_)))
                              (case side2 => exact (Kd.R_reads' HO197.out).2.1)
                              rintro e w' ⟨rfl, ⟨nd, rfl⟩⟩
                              refine ⟨_, rfl, ?_⟩
                              refine hK.out _ _ ⟨(blk_cell BK170.out 0).trans rfl, hHeld.2.1, hHeld.2.2.1, ((HB.out.cell (World.block_lt_of_cell? w _ hw194_0)).trans hw194_0), ((HB.out.cell (World.block_lt_of_cell? w _ hw194_1)).trans hw194_1), ((HB.out.cell (World.block_lt_of_cell? w _ hw194_2)).trans hw194_2), ((HB.out.cell (World.block_lt_of_cell? w _ hw194_3)).trans hw194_3), hHeld.2.2.2.2.2.2.2⟩ (fun hHeld => ?_)
                              clear hK K
                              refine norm_ (a' := ?_) ?_ ?_
                              rotate_left
                              ·
                               show Act.put _ (some 126) _ = _
                               simp only [Act.put, List.setIfInBounds_toArray, List.set_cons_zero, List.set_cons_succ, i64_w, i32_w]
                               rfl
                              refine pure_ (i := 22) (N := some 127) (v := ?_) (a' := ?_) #[true, true, true, true, true, true, true, true, true, true, true, true, true, true, true, true, true, true, true, true, true, true, true] rfl rfl (any_of HT_.out (by kernel_rfl)) (fun _ _ _ h => h) (Or.inl ⟨by rfl, ?_⟩) ?_ ?_
                              rotate_left
                              ·
                               intro w'
                               go_simp
                               with_reducible rfl
                              rotate_left
                              ·
                               simp only [Act.put, List.setIfInBounds_toArray, List.set_cons_zero, List.set_cons_succ, i64_w, i32_w]
                               rfl
                              refine done_ (done_of HT_.out (by kernel_rfl)) ?_
                              generalize hq_ : World.drewN w112 nd = w112
                              have n0_ : Aside0 (Kd.R (Kd.int .i64) 3 w112 w.heap.size (fun k => (True ∧ some k ≠ (Value.slice (some ad198) x12_4.length co111).ownBlock) ∧ some k ≠ (Value.slice (some ad193) t167.length co22).ownBlock) (.slice Ao113 t195.length co113) t195) := ⟨by rw [← hq_]; exact (Kd.R_drewN HO197.out _)⟩
                              have n1_ : Aside0 (Kd.R Kd.bool 4 w112 w.heap.size (fun _ => True) (.slice (some ⟨go84, 0, none⟩) x11_4.length co84) x11_4) := ⟨by rw [← hq_]; exact (Kd.R_drewN HO_11.out _)⟩
                              have n2_ : Aside0 (Kd.Q (Kd.int .i64) 3 w112 w.heap.size (fun k => some k ≠ (Value.slice (some ad193) t167.length co22).ownBlock ∧ some k ≠ (Value.slice Ao113 t195.length co113).ownBlock) (.slice (some ad198) x12_4.length co111) x12_4) := ⟨by rw [← hq_]; exact (Kd.Q_drewN HO_12.out _)⟩
                              have n3_ : Aside0 (Kd.R (Kd.int .i64) 3 w112 w.heap.size (fun k => some k ≠ (Value.slice (some ad198) x12_4.length co111).ownBlock ∧ some k ≠ (Value.slice Ao113 t195.length co113).ownBlock) (.slice (some ad193) t167.length co22) t167) := ⟨by rw [← hq_]; exact (Kd.R_drewN HO_171000.out _)⟩
                              have n4_ : Aside0 (Kd.S k68 68 w112 w.heap.size (fun k => (some k ≠ (Value.slice (some ad198) x12_4.length co111).ownBlock ∧ some k ≠ (Value.slice (some ad193) t167.length co22).ownBlock) ∧ some k ≠ (Value.slice Ao113 t195.length co113).ownBlock) u9 x9_1) := ⟨by rw [← hq_]; exact (Kd.S_drewN HO_9.out _)⟩
                              have n5_ : Aside0 (w112.heap[gb163]? = some (.cells #[.int .i64 0, .int .i64 0] 28 (0, 0))) := ⟨by rw [← hq_]; exact (bk_ BK163)⟩
                              have n6_ : Aside0 (w112.heap[gb166]? = some (.cells #[.int .i64 t164, .int .i64 t165] 28 (0, 0))) := ⟨by rw [← hq_]; exact (bk_ BK166)⟩
                              have n7_ : Aside0 (w112.heap[gb170]? = some (.cells #[.slice (some ad193) t167.length co22] 22 (0, 0))) := ⟨by rw [← hq_]; exact (bk_ BK170)⟩
                              have n8_ : Aside0 (Below w.heap.size w w112) := ⟨by rw [← hq_]; exact (bw_ HB)⟩
                              clear HO197 HO_11 HO_12 HO_171000 HO_9 BK163 BK166 BK170 HB hq_
                              have HO197 := n0_
                              have HO_11 := n1_
                              have HO_12 := n2_
                              have HO_171000 := n3_
                              have HO_9 := n4_
                              have BK163 := n5_
                              have BK166 := n6_
                              have BK170 := n7_
                              have HB := n8_
                              clear n0_ n1_ n2_ n3_ n4_ n5_ n6_ n7_ n8_
                              have p108 : 0 ≤ (x102_4 : Int) := of_decide_eq_true (by first | (with_reducible assumption) | assumption)
                              have q108 : (x102_4 : Int) < ((x11_4.length : Int) : Int) := of_decide_eq_true (by first | (with_reducible assumption) | assumption)
                              obtain ⟨hx108_0, hf108_0⟩ := Kd.R_celln false HO_11.out (x102_4 : Int) p108 q108
                              replace p108 := eq_true p108
                              replace q108 := eq_true q108
                              obtain ⟨hy114_, hz114_⟩ := Kd.R_celln false HO_11.out (x102_4 : Int) (of_decide_eq_true (by first | (with_reducible assumption) | assumption)) (of_decide_eq_true (by first | (with_reducible assumption) | assumption))
                              have HP114 := Kd.R_putg HO_11.out (x102_4 : Int) true
                              try go_wp2_with (first | ((with_reducible refine gate_store (t := 4) (p := 130) rfl ?_); refine store_event (t := 4) (p := 130) (v := ?vo_w115) (w1 := (w112.setCell ⟨go84, (x102_4 : Int).toNat, none⟩ (.bool true))) ?hg ?ho ?hn ?hr ?_; (case ho => rfl); (case hg => rfl); (case hn => rfl); (case hr => first | (go_simp; done) | (go_simp; rfl)); intro w115 hw; have hg : w112.grownBy w115 (some go84) := (by rw [hw]; exact HP114.2); have hp_ : Kd.R Kd.bool 4 w115 w.heap.size (fun _ => True) (.slice (some ⟨go84, 0, none⟩) x11_4.length co84) y200 := (by rw [hw, Ny200.out]; exact HP114.1); clear HP114; have n0_ := Aside0.mk (Kd.S_over' (v := (.slice (some ⟨go84, 0, none⟩) x11_4.length co84)) (by (with_reducible repeat (first | apply Kd.S_alloc | apply Kd.S_drewN | apply Kd.S_drew)); exact HO_9.out) (Kd.R_typed HO_11.out) (by decide) hg); have n1_ := Aside0.mk (hp_); have n2_ := Aside0.mk (Kd.Q_over' (v := (.slice (some ⟨go84, 0, none⟩) x11_4.length co84)) (by (with_reducible repeat (first | apply Kd.Q_alloc | apply Kd.Q_drewN | apply Kd.Q_drew)); exact HO_12.out) (Kd.R_typed HO_11.out) (by decide) hg); have n3_ := Aside0.mk (Kd.R_over' (v := (.slice (some ⟨go84, 0, none⟩) x11_4.length co84)) (by (with_reducible repeat (first | apply Kd.R_alloc | apply Kd.R_drewN | apply Kd.R_drew)); exact HO_171000.out) (Kd.R_typed HO_11.out) (by decide) hg); have n4_ := Aside0.mk (blk_grown (g := gb163) (o := .cells #[.int .i64 0, .int .i64 0] 28 (0, 0)) (bk_ BK163) hg (Kd.R_ne HO_11.out BK163.out (by decide))); have n5_ := Aside0.mk (blk_grown (g := gb166) (o := .cells #[.int .i64 t164, .int .i64 t165] 28 (0, 0)) (bk_ BK166) hg (Kd.R_ne HO_11.out BK166.out (by decide))); have n6_ := Aside0.mk (blk_grown (g := gb170) (o := .cells #[.slice (some ad193) t167.length co22] 22 (0, 0)) (bk_ BK170) hg (Kd.R_ne HO_11.out BK170.out (by decide))); have n7_ := Aside0.mk (Kd.R_over' (v := (.slice (some ⟨go84, 0, none⟩) x11_4.length co84)) (by (with_reducible repeat (first | apply Kd.R_alloc | apply Kd.R_drewN | apply Kd.R_drew)); exact HO197.out) (Kd.R_typed HO_11.out) (by decide) hg); have n8_ := Aside0.mk ((by rw [hw]; exact below_set (HB.out) GB84.out : Below w.heap.size w w115)); clear HO_9; clear HO_11; clear HO_12; clear HO_171000; clear BK163; clear BK166; clear BK170; clear HO197; clear HB; have HO_9 := n0_; have HO_11 := n1_; have HO_12 := n2_; have HO_171000 := n3_; have BK163 := n4_; have BK166 := n5_; have BK170 := n6_; have HO197 := n7_; have HB := n8_; clear n0_ n1_ n2_ n3_ n4_ n5_ n6_ n7_ n8_; clear hg hw hp_) | ((with_reducible refine gate_builtin (b := .append) (xs := #[.tmp 131, .tmp 133]) rfl ?_); at_builtin; refine Kd.Q_append (Kd.int .i64) (w0 := w) w.heap.size rfl (.tmp 131) (.tmp 133) 22 3 (.int .i64 0) 8 rfl Try.underlying22 info3 rfl (by decide) (by omega) (.slice (some ad198) x12_4.length co111) x12_4 x102_4 [.int .i64 x102_4] (fun k_ => some k_ ≠ (.slice (some ad193) t167.length co22 : Value).ownBlock ∧ some k_ ≠ (.slice Ao113 t195.length co113 : Value).ownBlock) (fun _ => False) rfl rfl ?aP (fun _ hk => hk.elim) ?aF ?aO ?aB ?aS ?aL ?_; (case aP => exact rfl); (case aB => exact (bw_ HB)); (case aF => exact (fun k_ hk => ⟨Kd.fresh' (Kd.R_lt (by (with_reducible repeat (first | apply Kd.R_alloc | apply Kd.R_drewN | apply Kd.R_drew)); exact HO_171000.out)) k_ hk, Kd.fresh' (Kd.R_lt (by (with_reducible repeat (first | apply Kd.R_alloc | apply Kd.R_drewN | apply Kd.R_drew)); exact HO197.out)) k_ hk⟩)); (case aO => first | exact (by (with_reducible repeat (first | apply Kd.Q_alloc | apply Kd.Q_drewN | apply Kd.Q_drew)); exact HO_12.out) | exact (by (with_reducible repeat (first | apply Kd.Q_alloc | apply Kd.Q_drewN | apply Kd.Q_drew)); exact Kd.Q_mono HO_12.out (fun _ hk => by (and_intros <;> first | exact hk.1 | exact hk.2 | exact hk.1.1 | exact hk.1.2 | exact hk.2.1 | exact hk.2.2)))); (case aS => exact (below_size (bw_ HB))); (case aL => have := LMc109.out; omega); intro v202 w116 ho hb hg hat; rw [← Ny201.out] at ho; have n0_ := Aside0.mk (Kd.S_after (ok := (fun k_ => some k_ ≠ (.slice (some ad193) t167.length co22 : Value).ownBlock ∧ some k_ ≠ (.slice Ao113 t195.length co113 : Value).ownBlock)) (by (with_reducible repeat (first | apply Kd.S_alloc | apply Kd.S_drewN | apply Kd.S_drew)); exact Kd.S_mono HO_9.out (fun _ hk => by first | exact ⟨⟨hk.1.2, hk.2⟩, hk.1.1⟩ | exact hk | (and_intros <;> first | exact hk.1 | exact hk.2 | exact hk.1.1 | exact hk.1.2 | exact hk.2.1 | exact hk.2.2))) hg hat); have n1_ := Aside0.mk (Kd.R_over' (by (with_reducible repeat (first | apply Kd.R_alloc | apply Kd.R_drewN | apply Kd.R_drew)); exact HO_11.out) (Kd.Q_typed (by (with_reducible repeat (first | apply Kd.Q_alloc | apply Kd.Q_drewN | apply Kd.Q_drew)); exact HO_12.out)) (by decide) hg); have n2_ := Aside0.mk (Kd.R_after (ok := (fun k_ => some k_ ≠ (.slice Ao113 t195.length co113 : Value).ownBlock)) (by (with_reducible repeat (first | apply Kd.R_alloc | apply Kd.R_drewN | apply Kd.R_drew)); exact Kd.R_mono HO_171000.out (fun _ hk => by first | exact ⟨hk.2, hk.1⟩ | exact hk | (and_intros <;> first | exact hk.1 | exact hk.2 | exact hk.1.1 | exact hk.1.2 | exact hk.2.1 | exact hk.2.2))) hg hat); have n3_ := Aside0.mk (blk_grown (g := gb163) (o := .cells #[.int .i64 0, .int .i64 0] 28 (0, 0)) (bk_ BK163) hg (Kd.Q_ne HO_12.out BK163.out (by decide))); have n4_ := Aside0.mk (blk_grown (g := gb166) (o := .cells #[.int .i64 t164, .int .i64 t165] 28 (0, 0)) (bk_ BK166) hg (Kd.Q_ne HO_12.out BK166.out (by decide))); have n5_ := Aside0.mk (blk_grown (g := gb170) (o := .cells #[.slice (some ad193) t167.length co22] 22 (0, 0)) (bk_ BK170) hg (Kd.Q_ne HO_12.out BK170.out (by decide))); have n6_ := Aside0.mk (Kd.R_after (ok := (fun k_ => some k_ ≠ (.slice (some ad193) t167.length co22 : Value).ownBlock)) (by (with_reducible repeat (first | apply Kd.R_alloc | apply Kd.R_drewN | apply Kd.R_drew)); exact Kd.R_mono HO197.out (fun _ hk => by first | exact ⟨hk.2, hk.1.2⟩ | exact hk | (and_intros <;> first | exact hk.1 | exact hk.2 | exact hk.1.1 | exact hk.1.2 | exact hk.2.1 | exact hk.2.2))) hg hat); have n7_ := Aside0.mk (hb); have n8_ := Aside0.mk (ho); clear HO_9; clear HO_11; clear HO_171000; clear BK163; clear BK166; clear BK170; clear HO197; clear HB; clear HO_12; have HO_9 := n0_; have HO_11 := n1_; have HO_171000 := n2_; have BK163 := n3_; have BK166 := n4_; have BK170 := n5_; have HO197 := n6_; have HB := n7_; have HO203 := n8_; clear n0_ n1_ n2_ n3_ n4_ n5_ n6_ n7_ n8_; clear ho hb hg hat))
                              (try simp only [← hl11_4])
                              go_roundg k4
                              case measure => have := HK1.out; have := HK2.out; have := HK3.out; have := HK4.out; omega
                              case rel => exact ⟨(y200), (y201), (wrap64 (x102_4 + 1)), rs_, H', ⟨by have := HK1.out; have := HK2.out; have := HK3.out; have := HK4.out; omega⟩, ⟨by (try simp only [hl11_3]); (try simp only [hl11_4]); (with_reducible repeat (first | apply Kd.S_alloc | apply Kd.S_drewN | apply Kd.S_drew)); exact Kd.S_mono HO_9.out (fun _ hk => by first | exact ⟨hk.2, hk.1.1⟩ | exact hk | (and_intros <;> first | exact hk.1 | exact hk.2 | exact hk.1.1 | exact hk.1.2 | exact hk.2.1 | exact hk.2.2))⟩, ⟨by (try simp only [hl11_3]); (try simp only [hl11_4]); (with_reducible repeat (first | apply Kd.R_alloc | apply Kd.R_drewN | apply Kd.R_drew)); exact HO_11.out⟩, ⟨by (try simp only [hl11_3]); (try simp only [hl11_4]); (with_reducible repeat (first | apply Kd.Q_alloc | apply Kd.Q_drewN | apply Kd.Q_drew)); exact Kd.Q_mono HO203.out (fun _ hk => hk.1)⟩, ⟨by (try simp only [hl11_3]); (try simp only [hl11_4]); (with_reducible repeat (first | apply Kd.R_alloc | apply Kd.R_drewN | apply Kd.R_drew)); exact Kd.R_mono HO_171000.out (fun _ hk => hk.2)⟩, ⟨by (try simp only [hl11_3]); (try simp only [hl11_4]); (with_reducible repeat (first | refine blk_drewN ?_ _ | refine blk_drew ?_ | refine blk_alloc ?_ _)); exact BK163.out⟩, ⟨by (try simp only [hl11_3]); (try simp only [hl11_4]); (with_reducible repeat (first | refine blk_drewN ?_ _ | refine blk_drew ?_ | refine blk_alloc ?_ _)); exact BK166.out⟩, ⟨by (try simp only [hl11_3]); (try simp only [hl11_4]); (with_reducible repeat (first | refine blk_drewN ?_ _ | refine blk_drew ?_ | refine blk_alloc ?_ _)); exact BK170.out⟩, ⟨bw_ HB⟩⟩
                             ·
                              rw [if_neg c109] at H
                              exact absurd H (by simp)
                            ·
                             replace c107 := Bool.eq_false_iff.mpr c107
                             subst c107
                             have H1 : (flow_Loops.l3 k4 l0 x9_1 x31_1 x11_4 x12_4 (l0.length : Int) x31_1 (l0.length : Int) (wrap64 (x102_4 + 1)) t167) = some (r1, r2, r3) := by rw [if_neg (show ¬ (false = true) by decide)] at H; exact H
                             clear H
                             have H := H1
                             clear H1
                             have H' := Aside0.mk H
                             clear H
                             try go_wp2
                             have n0_ := Aside0.mk (Kd.S_drew HO_9.out)
                             have n1_ := Aside0.mk (Kd.R_drew HO_11.out)
                             have n2_ := Aside0.mk (Kd.Q_drew HO_12.out)
                             have n3_ := Aside0.mk (Kd.R_drew HO_171000.out)
                             have n4_ := Aside0.mk (blk_drew BK163.out)
                             have n5_ := Aside0.mk (blk_drew BK166.out)
                             have n6_ := Aside0.mk (blk_drew BK170.out)
                             have n7_ := Aside0.mk (below_drew1 HB.out)
                             clear HO_9
                             clear HO_11
                             clear HO_12
                             clear HO_171000
                             clear BK163
                             clear BK166
                             clear BK170
                             clear HB
                             have HO_9 := n0_
                             have HO_11 := n1_
                             have HO_12 := n2_
                             have HO_171000 := n3_
                             have BK163 := n4_
                             have BK166 := n5_
                             have BK170 := n6_
                             have HB := n7_
                             clear n0_ n1_ n2_ n3_ n4_ n5_ n6_ n7_
                             have p192 : 0 ≤ (x102_4 : Int) := of_decide_eq_true (by first | (with_reducible assumption) | assumption)
                             have q192 : x102_4 < (x11_4.length : Int) := of_decide_eq_true (by first | (with_reducible assumption) | assumption)
                             obtain ⟨ad192, e192, hx192_0⟩ := Kd.at_bool (Kd.R_reads' HO_11.out).2.2 x102_4 p192 q192
                             (try rw [← Nbq98.out] at hx192_0)
                             obtain rfl : (⟨go84, 0, none⟩ : Addr) = ad192 := (by injection e192)
                             (first | simp only [add_plain] at hx192_0 | simp only [add_at] at hx192_0 | simp only [Addr.add, Nat.zero_add] at hx192_0 | skip)
                             replace p192 := eq_true p192
                             replace q192 := eq_true q192
                             have p193 : 0 ≤ (x102_4 : Int) := of_decide_eq_true (by first | (with_reducible assumption) | assumption)
                             have q193 : x102_4 < (t167.length : Int) := of_decide_eq_true (by first | (with_reducible assumption) | assumption)
                             obtain ⟨ad193, e193, hx193_0⟩ := Kd.at_int (Kd.R_reads' HO_171000.out).2.2 x102_4 p193 q193
                             cases e193
                             replace p193 := eq_true p193
                             replace q193 := eq_true q193
                             have p194 : 0 ≤ (x102_4 : Int) := of_decide_eq_true (by first | (with_reducible assumption) | assumption)
                             have q194 : x102_4 < (l0.length : Int) := of_decide_eq_true (by first | (with_reducible assumption) | assumption)
                             obtain ⟨ad194, A194_3, c194_3, e194, hx194_0, hx194_1, hx194_2, hx194_3, hl194_3, hi194_3⟩ := at_T62 HR0.out x102_4 p194 q194
                             have hw194_3 := hx194_3
                             have hw194_2 := hx194_2
                             have hw194_1 := hx194_1
                             have hw194_0 := hx194_0
                             cases e194
                             replace hx194_0 := (HB.out.cell (World.block_lt_of_cell? w _ hx194_0)).trans hx194_0
                             replace hx194_1 := (HB.out.cell (World.block_lt_of_cell? w _ hx194_1)).trans hx194_1
                             replace hx194_2 := (HB.out.cell (World.block_lt_of_cell? w _ hx194_2)).trans hx194_2
                             replace hx194_3 := (HB.out.cell (World.block_lt_of_cell? w _ hx194_3)).trans hx194_3
                             have HR194_3 := Aside0.mk hi194_3
                             have HC194_3 := Aside0.mk hl194_3
                             clear hi194_3 hl194_3
                             replace p194 := eq_true p194
                             replace q194 := eq_true q194
                             obtain ⟨Ao118, co118, eo118, _⟩ := Kd.Q_slice HO_12.out
                             (first | subst eo118 | (injection eo118 with f1_ f2_ f3_; have f4_ := f1_.symm; have f5_ := f3_.symm; clear f1_ f2_ f3_; subst f4_; subst f5_))
                             have p198 : 0 ≤ (0 : Int) := (by omega)
                             have q198 : 0 < (x12_4.length : Int) := of_decide_eq_true (by first | (with_reducible assumption) | assumption)
                             obtain ⟨ad198, e198, hx198_0⟩ := Kd.at_int (Kd.Q_reads' HO_12.out).2.2 0 p198 q198
                             cases e198
                             have qi198 : (0 < x12_4.length) = True := eq_true (by omega)
                             (try rw [show ((0 : Int)).toNat = 0 from rfl] at hx198_0)
                             (try rw [Addr.add_zero'] at hx198_0)
                             replace p198 := eq_true p198
                             replace q198 := eq_true q198
                             refine start_ (n := 23) (S := fun w' => w'.cell? ⟨gb170, 0, none⟩ = some (.slice (some ad193) t167.length co22) ∧ w'.cell? ⟨go84, (x102_4).toNat, none⟩ = some (.bool false) ∧ w'.cell? (ad193.add (x102_4).toNat) = some (.int .i64 (rd t167 x102_4)) ∧ w'.cell? (ad194.add ((x102_4).toNat * 4)) = some (.int .i64 ((rd_T62 l0 x102_4).f0)) ∧ w'.cell? ⟨(ad194.add ((x102_4).toNat * 4)).block, (ad194.add ((x102_4).toNat * 4)).off + 1, none⟩ = some (.int .i64 ((rd_T62 l0 x102_4).f1)) ∧ w'.cell? ⟨(ad194.add ((x102_4).toNat * 4)).block, (ad194.add ((x102_4).toNat * 4)).off + 2, none⟩ = some (.int .i64 ((rd_T62 l0 x102_4).f2)) ∧ w'.cell? ⟨(ad194.add ((x102_4).toNat * 4)).block, (ad194.add ((x102_4).toNat * 4)).off + 3, none⟩ = some (.slice A194_3 ((rd_T62 l0 x102_4).f3).length c194_3) ∧ w'.cell? ad198 = some (.int .i64 (rd x12_4 0))) (ds := []) #[false, false, false, false, false, false, false, false, false, false, false, false, false, false, false, false, false, false, false, false, false, false, false] (by kernel_rfl) rfl rfl ⟨(blk_cell BK170.out 0).trans rfl, hx192_0, hx193_0, ((HB.out.cell (World.block_lt_of_cell? w _ hw194_0)).trans hw194_0), ((HB.out.cell (World.block_lt_of_cell? w _ hw194_1)).trans hw194_1), ((HB.out.cell (World.block_lt_of_cell? w _ hw194_2)).trans hw194_2), ((HB.out.cell (World.block_lt_of_cell? w _ hw194_3)).trans hw194_3), hx198_0⟩ (fun hHeld => ?_); refine with_tabW flow_Loops.tab27 flow_Loops.bits27 (fun HT_ HW_ => ?_)
                             generalize wr.drew = w117 at HO_9 HO_11 HO_12 HO_171000 BK163 BK166 BK170 HB HR194_3 hx192_0 hx193_0 hx194_0 hx194_1 hx194_2 hx194_3 hx198_0 hHeld ⊢
                             refine pure_ (i := 0) (N := some 105) (v := ?_) (a' := ?_) #[true, false, false, false, false, false, false, false, false, false, false, false, false, false, false, false, false, false, false, false, false, false, false] rfl rfl (any_of HT_.out (by kernel_rfl)) (fun _ _ _ h => h) (Or.inl ⟨by rfl, ?_⟩) ?_ ?_
                             rotate_left
                             ·
                              intro w'
                              go_simp
                              with_reducible rfl
                             rotate_left
                             ·
                              simp only [Act.put, List.setIfInBounds_toArray, List.set_cons_zero, List.set_cons_succ, i64_w, i32_w]
                              rfl
                             refine pure_ (i := 1) (N := some 106) (v := ?_) (a' := ?_) #[true, true, false, false, false, false, false, false, false, false, false, false, false, false, false, false, false, false, false, false, false, false, false] rfl rfl (any_of HT_.out (by kernel_rfl)) (fun _ _ _ h => h) (Or.inl ⟨by rfl, ?_⟩) ?_ ?_
                             rotate_left
                             ·
                              intro w'
                              go_simp
                              with_reducible rfl
                             rotate_left
                             ·
                              simp only [Act.put, List.setIfInBounds_toArray, List.set_cons_zero, List.set_cons_succ, i64_w, i32_w]
                              rfl
                             refine pure_ (i := 2) (N := some 107) (v := ?_) (a' := ?_) #[true, true, true, false, false, false, false, false, false, false, false, false, false, false, false, false, false, false, false, false, false, false, false] rfl rfl (any_of HT_.out (by kernel_rfl)) (fun _ _ _ h => h) (Or.inl ⟨by rfl, ?_⟩) ?_ ?_
                             rotate_left
                             ·
                              intro w'
                              go_simp
                              with_reducible rfl
                             rotate_left
                             ·
                              simp only [Act.put, List.setIfInBounds_toArray, List.set_cons_zero, List.set_cons_succ, i64_w, i32_w]
                              rfl
                             refine take_ (i := 3) (N := some 108) (v := ?_) (a' := ?_) #[true, true, true, true, false, false, false, false, false, false, false, false, false, false, false, false, false, false, false, false, false, false, false] rfl rfl (take_ofW HT_.out HW_.out (by kernel_rfl)) (fun _ _ _ h => h) (Or.inl ⟨by rfl, ?_⟩) hHeld ?_ ?_
                             rotate_left
                             ·
                              rintro w' ⟨s0, s1, s2, s3, s4, s5, s6, s7⟩
                              go_simp
                              with_reducible rfl
                             rotate_left
                             ·
                              simp only [Act.put, List.setIfInBounds_toArray, List.set_cons_zero, List.set_cons_succ, i64_w, i32_w]
                              rfl
                             refine pure_ (i := 4) (N := some 109) (v := ?_) (a' := ?_) #[true, true, true, true, true, false, false, false, false, false, false, false, false, false, false, false, false, false, false, false, false, false, false] rfl rfl (any_of HT_.out (by kernel_rfl)) (fun _ _ _ h => h) (Or.inl ⟨by rfl, ?_⟩) ?_ ?_
                             rotate_left
                             ·
                              intro w'
                              go_simp
                              with_reducible rfl
                             rotate_left
                             ·
                              simp only [Act.put, List.setIfInBounds_toArray, List.set_cons_zero, List.set_cons_succ, i64_w, i32_w]
                              rfl
                             refine pure_ (i := 5) (N := some 110) (v := ?_) (a' := ?_) #[true, true, true, true, true, true, false, false, false, false, false, false, false, false, false, false, false, false, false, false, false, false, false] rfl rfl (any_of HT_.out (by kernel_rfl)) (fun _ _ _ h => h) (Or.inl ⟨by rfl, ?_⟩) ?_ ?_
                             rotate_left
                             ·
                              intro w'
                              go_simp
                              with_reducible rfl
                             rotate_left
                             ·
                              simp only [Act.put, List.setIfInBounds_toArray, List.set_cons_zero, List.set_cons_succ, i64_w, i32_w]
                              rfl
                             refine pure_ (i := 7) (N := some 112) (v := ?_) (a' := ?_) #[true, true, true, true, true, true, false, true, false, false, false, false, false, false, false, false, false, false, false, false, false, false, false] rfl rfl (any_of HT_.out (by kernel_rfl)) (fun _ _ _ h => h) (Or.inl ⟨by rfl, ?_⟩) ?_ ?_
                             rotate_left
                             ·
                              intro w'
                              go_simp
                              with_reducible rfl
                             rotate_left
                             ·
                              simp only [Act.put, List.setIfInBounds_toArray, List.set_cons_zero, List.set_cons_succ, i64_w, i32_w]
                              rfl
                             refine take_ (i := 6) (N := some 111) (v := ?_) (a' := ?_) #[true, true, true, true, true, true, true, true, false, false, false, false, false, false, false, false, false, false, false, false, false, false, false] rfl rfl (take_ofW HT_.out HW_.out (by kernel_rfl)) (fun _ _ _ h => h) (Or.inl ⟨by rfl, ?_⟩) hHeld ?_ ?_
                             rotate_left
                             ·
                              rintro w' ⟨s0, s1, s2, s3, s4, s5, s6, s7⟩
                              go_simp
                              with_reducible rfl
                             rotate_left
                             ·
                              simp only [Act.put, List.setIfInBounds_toArray, List.set_cons_zero, List.set_cons_succ, i64_w, i32_w]
                              rfl
                             refine pure_ (i := 8) (N := some 113) (v := ?_) (a' := ?_) #[true, true, true, true, true, true, true, true, true, false, false, false, false, false, false, false, false, false, false, false, false, false, false] rfl rfl (any_of HT_.out (by kernel_rfl)) (fun _ _ _ h => h) (Or.inl ⟨by rfl, ?_⟩) ?_ ?_
                             rotate_left
                             ·
                              intro w'
                              go_simp
                              with_reducible rfl
                             rotate_left
                             ·
                              simp only [Act.put, List.setIfInBounds_toArray, List.set_cons_zero, List.set_cons_succ, i64_w, i32_w]
                              rfl
                             refine take_ (i := 9) (N := some 114) (v := ?_) (a' := ?_) #[true, true, true, true, true, true, true, true, true, true, false, false, false, false, false, false, false, false, false, false, false, false, false] rfl rfl (take_ofW HT_.out HW_.out (by kernel_rfl)) (fun _ _ _ h => h) (Or.inl ⟨by rfl, ?_⟩) hHeld ?_ ?_
                             rotate_left
                             ·
                              rintro w' ⟨s0, s1, s2, s3, s4, s5, s6, s7⟩
                              go_simp
                              with_reducible rfl
                             rotate_left
                             ·
                              simp only [Act.put, List.setIfInBounds_toArray, List.set_cons_zero, List.set_cons_succ, i64_w, i32_w]
                              rfl
                             refine pure_ (i := 10) (N := some 115) (v := ?_) (a' := ?_) #[true, true, true, true, true, true, true, true, true, true, true, false, false, false, false, false, false, false, false, false, false, false, false] rfl rfl (any_of HT_.out (by kernel_rfl)) (fun _ _ _ h => h) (Or.inl ⟨by rfl, ?_⟩) ?_ ?_
                             rotate_left
                             ·
                              intro w'
                              go_simp
                              with_reducible rfl
                             rotate_left
                             ·
                              simp only [Act.put, List.setIfInBounds_toArray, List.set_cons_zero, List.set_cons_succ, i64_w, i32_w]
                              rfl
                             refine pure_ (i := 11) (N := some 116) (v := ?_) (a' := ?_) #[true, true, true, true, true, true, true, true, true, true, true, true, false, false, false, false, false, false, false, false, false, false, false] rfl rfl (any_of HT_.out (by kernel_rfl)) (fun _ _ _ h => h) (Or.inl ⟨by rfl, ?_⟩) ?_ ?_
                             rotate_left
                             ·
                              intro w'
                              go_simp
                              with_reducible rfl
                             rotate_left
                             ·
                              simp only [Act.put, List.setIfInBounds_toArray, List.set_cons_zero, List.set_cons_succ, i64_w, i32_w]
                              rfl
                             refine pure_ (i := 12) (N := some 117) (v := ?_) (a' := ?_) #[true, true, true, true, true, true, true, true, true, true, true, true, true, false, false, false, false, false, false, false, false, false, false] rfl rfl (any_of HT_.out (by kernel_rfl)) (fun _ _ _ h => h) (Or.inl ⟨by rfl, ?_⟩) ?_ ?_
                             rotate_left
                             ·
                              intro w'
                              go_simp
                              with_reducible rfl
                             rotate_left
                             ·
                              simp only [Act.put, List.setIfInBounds_toArray, List.set_cons_zero, List.set_cons_succ, i64_w, i32_w]
                              rfl
                             refine pure_ (i := 13) (N := some 118) (v := ?_) (a' := ?_) #[true, true, true, true, true, true, true, true, true, true, true, true, true, true, false, false, false, false, false, false, false, false, false] rfl rfl (any_of HT_.out (by kernel_rfl)) (fun _ _ _ h => h) (Or.inl ⟨by rfl, ?_⟩) ?_ ?_
                             rotate_left
                             ·
                              intro w'
                              go_simp
                              with_reducible rfl
                             rotate_left
                             ·
                              simp only [Act.put, List.setIfInBounds_toArray, List.set_cons_zero, List.set_cons_succ, i64_w, i32_w]
                              rfl
                             refine pure_ (i := 14) (N := some 119) (v := ?_) (a' := ?_) #[true, true, true, true, true, true, true, true, true, true, true, true, true, true, true, false, false, false, false, false, false, false, false] rfl rfl (any_of HT_.out (by kernel_rfl)) (fun _ _ _ h => h) (Or.inl ⟨by rfl, ?_⟩) ?_ ?_
                             rotate_left
                             ·
                              intro w'
                              go_simp
                              with_reducible rfl
                             rotate_left
                             ·
                              simp only [Act.put, List.setIfInBounds_toArray, List.set_cons_zero, List.set_cons_succ, i64_w, i32_w]
                              rfl
                             refine pure_ (i := 15) (N := some 120) (v := ?_) (a' := ?_) #[true, true, true, true, true, true, true, true, true, true, true, true, true, true, true, true, false, false, false, false, false, false, false] rfl rfl (any_of HT_.out (by kernel_rfl)) (fun _ _ _ h => h) (Or.inl ⟨by rfl, ?_⟩) ?_ ?_
                             rotate_left
                             ·
                              intro w'
                              go_simp
                              with_reducible rfl
                             rotate_left
                             ·
                              simp only [Act.put, List.setIfInBounds_toArray, List.set_cons_zero, List.set_cons_succ, i64_w, i32_w]
                              rfl
                             refine pure_ (i := 18) (N := some 123) (v := ?_) (a' := ?_) #[true, true, true, true, true, true, true, true, true, true, true, true, true, true, true, true, false, false, true, false, false, false, false] rfl rfl (any_of HT_.out (by kernel_rfl)) (fun _ _ _ h => h) (Or.inl ⟨by rfl, ?_⟩) ?_ ?_
                             rotate_left
                             ·
                              intro w'
                              go_simp
                              with_reducible rfl
                             rotate_left
                             ·
                              simp only [Act.put, List.setIfInBounds_toArray, List.set_cons_zero, List.set_cons_succ, i64_w, i32_w]
                              rfl
                             refine pure_ (i := 19) (N := some 124) (v := ?_) (a' := ?_) #[true, true, true, true, true, true, true, true, true, true, true, true, true, true, true, true, false, false, true, true, false, false, false] rfl rfl (any_of HT_.out (by kernel_rfl)) (fun _ _ _ h => h) (Or.inl ⟨by rfl, ?_⟩) ?_ ?_
                             rotate_left
                             ·
                              intro w'
                              go_simp
                              with_reducible rfl
                             rotate_left
                             ·
                              simp only [Act.put, List.setIfInBounds_toArray, List.set_cons_zero, List.set_cons_succ, i64_w, i32_w]
                              rfl
                             refine take_ (i := 16) (N := some 121) (v := ?_) (a' := ?_) #[true, true, true, true, true, true, true, true, true, true, true, true, true, true, true, true, true, false, true, true, false, false, false] rfl rfl (take_ofW HT_.out HW_.out (by kernel_rfl)) (fun _ _ _ h => h) (Or.inl ⟨by rfl, ?_⟩) hHeld ?_ ?_
                             rotate_left
                             ·
                              rintro w' ⟨s0, s1, s2, s3, s4, s5, s6, s7⟩
                              go_simp
                              with_reducible rfl
                             rotate_left
                             ·
                              simp only [Act.put, List.setIfInBounds_toArray, List.set_cons_zero, List.set_cons_succ, i64_w, i32_w]
                              rfl
                             refine take_ (i := 20) (N := some 125) (v := ?_) (a' := ?_) #[true, true, true, true, true, true, true, true, true, true, true, true, true, true, true, true, true, false, true, true, true, false, false] rfl rfl (take_ofW HT_.out HW_.out (by kernel_rfl)) (fun _ _ _ h => h) (Or.inl ⟨by rfl, ?_⟩) hHeld ?_ ?_
                             rotate_left
                             ·
                              rintro w' ⟨s0, s1, s2, s3, s4, s5, s6, s7⟩
                              go_simp
                              with_reducible rfl
                             rotate_left
                             ·
                              simp only [Act.put, List.setIfInBounds_toArray, List.set_cons_zero, List.set_cons_succ, i64_w, i32_w]
                              rfl
                             refine one_ (i := 17) (N := some 122) #[true, true, true, true, true, true, true, true, true, true, true, true, true, true, true, true, true, true, true, true, true, false, false] rfl rfl (one_of HT_.out (by kernel_rfl)) (by decide) (fun K hK => ?_)
                             refine goes_ Try.func48 (by kernel_rfl) rfl #[.agg #[.int .i64 ((rd_T62 l0 x102_4).f0), .int .i64 ((rd_T62 l0 x102_4).f1), .int .i64 ((rd_T62 l0 x102_4).f2), .slice A194_3 ((rd_T62 l0 x102_4).f3).length c194_3]] (by rfl) rfl rfl ar_ ?_
                             with_reducible refine (flow_Inner.calls k4 ((rd_T62 l0 x102_4).f0) ((rd_T62 l0 x102_4).f1) ((rd_T62 l0 x102_4).f2) _ _ ((rd_T62 l0 x102_4).f3) t195 _ ?side1 ?side2 A104.out).mono ?_
                             (case side1 => exact cb_ HR194_3 HB)
                             (case side2 => exact HC194_3.out)
                             rintro e w119 ⟨v196, rfl, ho0, hb⟩
                             have HS1_ := (hb.cell (World.block_lt_of_cell? _ _ (hHeld.2.1))).trans (hHeld.2.1)
                             have HS2_ := (hb.cell (World.block_lt_of_cell? _ _ (hHeld.2.2.1))).trans (hHeld.2.2.1)
                             have HS7_ := (hb.cell (World.block_lt_of_cell? _ _ (hHeld.2.2.2.2.2.2.2))).trans (hHeld.2.2.2.2.2.2.2)
                             refine ⟨_, rfl, ?_⟩
                             have n0_ := Aside0.mk (Kd.S_elder' (by (with_reducible repeat (first | apply Kd.S_alloc | apply Kd.S_drewN | apply Kd.S_drew)); exact HO_9.out) (Kd.R_base ho0) hb)
                             have n1_ := Aside0.mk (Kd.R_below (by (with_reducible repeat (first | apply Kd.R_alloc | apply Kd.R_drewN | apply Kd.R_drew)); exact HO_11.out) hb)
                             have n2_ := Aside0.mk (Kd.Q_elder' (by (with_reducible repeat (first | apply Kd.Q_alloc | apply Kd.Q_drewN | apply Kd.Q_drew)); exact HO_12.out) (Kd.R_base ho0) hb)
                             have n3_ := Aside0.mk (Kd.R_elder' (by (with_reducible repeat (first | apply Kd.R_alloc | apply Kd.R_drewN | apply Kd.R_drew)); exact HO_171000.out) (Kd.R_base ho0) hb)
                             have n4_ := Aside0.mk (Kd.R_lower (Kd.R_new' (Kd.R_new' ho0 (Kd.Q_lt (by (with_reducible repeat (first | apply Kd.Q_alloc | apply Kd.Q_drewN | apply Kd.Q_drew)); exact HO_12.out))) (Kd.R_lt (by (with_reducible repeat (first | apply Kd.R_alloc | apply Kd.R_drewN | apply Kd.R_drew)); exact HO_171000.out))) (below_size (bw_ HB)))
                             have n5_ := Aside0.mk (blk_below (g := gb163) (o := .cells #[.int .i64 0, .int .i64 0] 28 (0, 0)) (bk_ BK163) hb)
                             have n6_ := Aside0.mk (blk_below (g := gb166) (o := .cells #[.int .i64 t164, .int .i64 t165] 28 (0, 0)) (bk_ BK166) hb)
                             have n7_ := Aside0.mk (blk_below (g := gb170) (o := .cells #[.slice (some ad193) t167.length co22] 22 (0, 0)) (bk_ BK170) hb)
                             have n8_ := Aside0.mk (below_step (bw_ HB) hb)
                             clear HO_9
                             clear HO_11
                             clear HO_12
                             clear HO_171000
                             clear BK163
                             clear BK166
                             clear BK170
                             clear HB
                             have HO_9 := n0_
                             have HO_11 := n1_
                             have HO_12 := n2_
                             have HO_171000 := n3_
                             have HO197 := n4_
                             have BK163 := n5_
                             have BK166 := n6_
                             have BK170 := n7_
                             have HB := n8_
                             clear n0_ n1_ n2_ n3_ n4_ n5_ n6_ n7_ n8_
                             (try clear hb)
                             (try clear hb2)
                             (try clear hk)
                             (try clear hi)
                             (try clear ho0)
                             obtain ⟨Ao120, co120, eo120⟩ := Kd.R_slice HO197.out
                             (first | subst eo120 | (injection eo120 with f1_ f2_ f3_; have f4_ := f1_.symm; have f5_ := f3_.symm; clear f1_ f2_ f3_; subst f4_; subst f5_))
                             refine hK.out _ _ ⟨(blk_cell BK170.out 0).trans rfl, HS1_, HS2_, ((HB.out.cell (World.block_lt_of_cell? w _ hw194_0)).trans hw194_0), ((HB.out.cell (World.block_lt_of_cell? w _ hw194_1)).trans hw194_1), ((HB.out.cell (World.block_lt_of_cell? w _ hw194_2)).trans hw194_2), ((HB.out.cell (World.block_lt_of_cell? w _ hw194_3)).trans hw194_3), HS7_⟩ (fun hHeld => ?_)
                             clear hK K
                             refine norm_ (a' := ?_) ?_ ?_
                             rotate_left
                             ·
                              show Act.put _ (some 122) _ = _
                              simp only [Act.put, List.setIfInBounds_toArray, List.set_cons_zero, List.set_cons_succ, i64_w, i32_w]
                              rfl
                             refine one_ (i := 21) (N := some 126) #[true, true, true, true, true, true, true, true, true, true, true, true, true, true, true, true, true, true, true, true, true, true, false] rfl rfl (one_of HT_.out (by kernel_rfl)) (by decide) (fun K hK => ?_)
                             refine goes_ Try.func47 (by kernel_rfl) rfl #[.slice Ao120 t195.length co120, .int .i64 (rd x12_4 0)] (by rfl) rfl rfl ar_ ?_
                             with_reducible refine (slices_Contains_int_int.calls k4 _ _ t195 (rd x12_4 0) false _ ?side1 ?side2 A106.out).mono ?_
                             (case side1 => repeat (first | exact (Kd.R_reads' HO197.out).2.2 | (with_reducible refine Kd.C_alloc ?_ _) | (with_reducible refine Kd.C_drewN ?_ _) | (with_reducible refine Kd.C_drew ?_)))
                             (case side2 => exact (Kd.R_reads' HO197.out).2.1)
                             rintro e w' ⟨rfl, ⟨nd, rfl⟩⟩
                             refine ⟨_, rfl, ?_⟩
                             refine hK.out _ _ ⟨(blk_cell BK170.out 0).trans rfl, hHeld.2.1, hHeld.2.2.1, ((HB.out.cell (World.block_lt_of_cell? w _ hw194_0)).trans hw194_0), ((HB.out.cell (World.block_lt_of_cell? w _ hw194_1)).trans hw194_1), ((HB.out.cell (World.block_lt_of_cell? w _ hw194_2)).trans hw194_2), ((HB.out.cell (World.block_lt_of_cell? w _ hw194_3)).trans hw194_3), hHeld.2.2.2.2.2.2.2⟩ (fun hHeld => ?_)
                             clear hK K
                             refine norm_ (a' := ?_) ?_ ?_
                             rotate_left
                             ·
                              show Act.put _ (some 126) _ = _
                              simp only [Act.put, List.setIfInBounds_toArray, List.set_cons_zero, List.set_cons_succ, i64_w, i32_w]
                              rfl
                             refine pure_ (i := 22) (N := some 127) (v := ?_) (a' := ?_) #[true, true, true, true, true, true, true, true, true, true, true, true, true, true, true, true, true, true, true, true, true, true, true] rfl rfl (any_of HT_.out (by kernel_rfl)) (fun _ _ _ h => h) (Or.inl ⟨by rfl, ?_⟩) ?_ ?_
                             rotate_left
                             ·
                              intro w'
                              go_simp
                              with_reducible rfl
                             rotate_left
                             ·
                              simp only [Act.put, List.setIfInBounds_toArray, List.set_cons_zero, List.set_cons_succ, i64_w, i32_w]
                              rfl
                             refine done_ (done_of HT_.out (by kernel_rfl)) ?_
                             try go_wp2
                             (try simp only [← hl11_4])
                             go_roundg k4
                             case measure => have := HK1.out; have := HK2.out; have := HK3.out; have := HK4.out; omega
                             case rel => exact ⟨(x11_4), (x12_4), (wrap64 (x102_4 + 1)), rs_, H', ⟨by have := HK1.out; have := HK2.out; have := HK3.out; have := HK4.out; omega⟩, ⟨by (try simp only [hl11_3]); (try simp only [hl11_4]); (with_reducible repeat (first | apply Kd.S_alloc | apply Kd.S_drewN | apply Kd.S_drew)); exact Kd.S_mono HO_9.out (fun _ hk => by first | exact ⟨hk.1.1, hk.1.2⟩ | exact hk | (and_intros <;> first | exact hk.1 | exact hk.2 | exact hk.1.1 | exact hk.1.2 | exact hk.2.1 | exact hk.2.2))⟩, ⟨by (try simp only [hl11_3]); (try simp only [hl11_4]); (with_reducible repeat (first | apply Kd.R_alloc | apply Kd.R_drewN | apply Kd.R_drew)); exact HO_11.out⟩, ⟨by (try simp only [hl11_3]); (try simp only [hl11_4]); (with_reducible repeat (first | apply Kd.Q_alloc | apply Kd.Q_drewN | apply Kd.Q_drew)); exact Kd.Q_mono HO_12.out (fun _ hk => hk.1)⟩, ⟨by (try simp only [hl11_3]); (try simp only [hl11_4]); (with_reducible repeat (first | apply Kd.R_alloc | apply Kd.R_drewN | apply Kd.R_drew)); exact Kd.R_mono HO_171000.out (fun _ hk => hk.1)⟩, ⟨by (try simp only [hl11_3]); (try simp only [hl11_4]); (with_reducible repeat (first | refine blk_drewN ?_ _ | refine blk_drew ?_ | refine blk_alloc ?_ _)); exact BK163.out⟩, ⟨by (try simp only [hl11_3]); (try simp only [hl11_4]); (with_reducible repeat (first | refine blk_drewN ?_ _ | refine blk_drew ?_ | refine blk_alloc ?_ _)); exact BK166.out⟩, ⟨by (try simp only [hl11_3]); (try simp only [hl11_4]); (with_reducible repeat (first | refine blk_drewN ?_ _ | refine blk_drew ?_ | refine blk_alloc ?_ _)); exact BK170.out⟩, ⟨bw_ HB⟩⟩
                           ·
                            rw [if_neg c105] at H
                            exact absurd H (by simp)
                          ·
                           rw [if_neg c103] at H
                           exact absurd H (by simp)
                         ·
                          rw [if_neg c102] at H
                          have c102b0 : decide (0 ≤ (rd t167 x102_4)) = false := decide_eq_false c102
                          clear c102
                          have H' := Aside0.mk H
                          clear H
                          try go_wp2
                          have n0_ := Aside0.mk (Kd.S_drew HO_9.out)
                          have n1_ := Aside0.mk (Kd.R_drew HO_11.out)
                          have n2_ := Aside0.mk (Kd.Q_drew HO_12.out)
                          have n3_ := Aside0.mk (Kd.R_drew HO_171000.out)
                          have n4_ := Aside0.mk (blk_drew BK163.out)
                          have n5_ := Aside0.mk (blk_drew BK166.out)
                          have n6_ := Aside0.mk (blk_drew BK170.out)
                          have n7_ := Aside0.mk (below_drew1 HB.out)
                          clear HO_9
                          clear HO_11
                          clear HO_12
                          clear HO_171000
                          clear BK163
                          clear BK166
                          clear BK170
                          clear HB
                          have HO_9 := n0_
                          have HO_11 := n1_
                          have HO_12 := n2_
                          have HO_171000 := n3_
                          have BK163 := n4_
                          have BK166 := n5_
                          have BK170 := n6_
                          have HB := n7_
                          clear n0_ n1_ n2_ n3_ n4_ n5_ n6_ n7_
                          have p192 : 0 ≤ (x102_4 : Int) := of_decide_eq_true (by first | (with_reducible assumption) | assumption)
                          have q192 : x102_4 < (x11_4.length : Int) := of_decide_eq_true (by first | (with_reducible assumption) | assumption)
                          obtain ⟨ad192, e192, hx192_0⟩ := Kd.at_bool (Kd.R_reads' HO_11.out).2.2 x102_4 p192 q192
                          (try rw [← Nbq98.out] at hx192_0)
                          obtain rfl : (⟨go84, 0, none⟩ : Addr) = ad192 := (by injection e192)
                          (first | simp only [add_plain] at hx192_0 | simp only [add_at] at hx192_0 | simp only [Addr.add, Nat.zero_add] at hx192_0 | skip)
                          replace p192 := eq_true p192
                          replace q192 := eq_true q192
                          have p193 : 0 ≤ (x102_4 : Int) := of_decide_eq_true (by first | (with_reducible assumption) | assumption)
                          have q193 : x102_4 < (t167.length : Int) := of_decide_eq_true (by first | (with_reducible assumption) | assumption)
                          obtain ⟨ad193, e193, hx193_0⟩ := Kd.at_int (Kd.R_reads' HO_171000.out).2.2 x102_4 p193 q193
                          cases e193
                          replace p193 := eq_true p193
                          replace q193 := eq_true q193
                          refine start_ (n := 23) (S := fun w' => w'.cell? ⟨gb170, 0, none⟩ = some (.slice (some ad193) t167.length co22) ∧ w'.cell? ⟨go84, (x102_4).toNat, none⟩ = some (.bool false) ∧ w'.cell? (ad193.add (x102_4).toNat) = some (.int .i64 (rd t167 x102_4))) (ds := []) #[false, false, false, false, false, false, false, false, false, false, false, false, false, false, false, false, false, false, false, false, false, false, false] (by kernel_rfl) rfl rfl ⟨(blk_cell BK170.out 0).trans rfl, hx192_0, hx193_0⟩ (fun hHeld => ?_); refine with_tabW flow_Loops.tab27 flow_Loops.bits27 (fun HT_ HW_ => ?_)
                          generalize wr.drew = w121 at HO_9 HO_11 HO_12 HO_171000 BK163 BK166 BK170 HB hx192_0 hx193_0 hHeld ⊢
                          refine pure_ (i := 0) (N := some 105) (v := ?_) (a' := ?_) #[true, false, false, false, false, false, false, false, false, false, false, false, false, false, false, false, false, false, false, false, false, false, false] rfl rfl (any_of HT_.out (by kernel_rfl)) (fun _ _ _ h => h) (Or.inl ⟨by rfl, ?_⟩) ?_ ?_
                          rotate_left
                          ·
                           intro w'
                           go_simp
                           with_reducible rfl
                          rotate_left
                          ·
                           simp only [Act.put, List.setIfInBounds_toArray, List.set_cons_zero, List.set_cons_succ, i64_w, i32_w]
                           rfl
                          refine pure_ (i := 1) (N := some 106) (v := ?_) (a' := ?_) #[true, true, false, false, false, false, false, false, false, false, false, false, false, false, false, false, false, false, false, false, false, false, false] rfl rfl (any_of HT_.out (by kernel_rfl)) (fun _ _ _ h => h) (Or.inl ⟨by rfl, ?_⟩) ?_ ?_
                          rotate_left
                          ·
                           intro w'
                           go_simp
                           with_reducible rfl
                          rotate_left
                          ·
                           simp only [Act.put, List.setIfInBounds_toArray, List.set_cons_zero, List.set_cons_succ, i64_w, i32_w]
                           rfl
                          refine pure_ (i := 2) (N := some 107) (v := ?_) (a' := ?_) #[true, true, true, false, false, false, false, false, false, false, false, false, false, false, false, false, false, false, false, false, false, false, false] rfl rfl (any_of HT_.out (by kernel_rfl)) (fun _ _ _ h => h) (Or.inl ⟨by rfl, ?_⟩) ?_ ?_
                          rotate_left
                          ·
                           intro w'
                           go_simp
                           with_reducible rfl
                          rotate_left
                          ·
                           simp only [Act.put, List.setIfInBounds_toArray, List.set_cons_zero, List.set_cons_succ, i64_w, i32_w]
                           rfl
                          refine take_ (i := 3) (N := some 108) (v := ?_) (a' := ?_) #[true, true, true, true, false, false, false, false, false, false, false, false, false, false, false, false, false, false, false, false, false, false, false] rfl rfl (take_ofW HT_.out HW_.out (by kernel_rfl)) (fun _ _ _ h => h) (Or.inl ⟨by rfl, ?_⟩) hHeld ?_ ?_
                          rotate_left
                          ·
                           rintro w' ⟨s0, s1, s2⟩
                           go_simp
                           with_reducible rfl
                          rotate_left
                          ·
                           simp only [Act.put, List.setIfInBounds_toArray, List.set_cons_zero, List.set_cons_succ, i64_w, i32_w]
                           rfl
                          refine pure_ (i := 4) (N := some 109) (v := ?_) (a' := ?_) #[true, true, true, true, true, false, false, false, false, false, false, false, false, false, false, false, false, false, false, false, false, false, false] rfl rfl (any_of HT_.out (by kernel_rfl)) (fun _ _ _ h => h) (Or.inl ⟨by rfl, ?_⟩) ?_ ?_
                          rotate_left
                          ·
                           intro w'
                           go_simp
                           with_reducible rfl
                          rotate_left
                          ·
                           simp only [Act.put, List.setIfInBounds_toArray, List.set_cons_zero, List.set_cons_succ, i64_w, i32_w]
                           rfl
                          refine pure_ (i := 5) (N := some 110) (v := ?_) (a' := ?_) #[true, true, true, true, true, true, false, false, false, false, false, false, false, false, false, false, false, false, false, false, false, false, false] rfl rfl (any_of HT_.out (by kernel_rfl)) (fun _ _ _ h => h) (Or.inl ⟨by rfl, ?_⟩) ?_ ?_
                          rotate_left
                          ·
                           intro w'
                           go_simp
                           with_reducible rfl
                          rotate_left
                          ·
                           simp only [Act.put, List.setIfInBounds_toArray, List.set_cons_zero, List.set_cons_succ, i64_w, i32_w]
                           rfl
                          refine pure_ (i := 7) (N := some 112) (v := ?_) (a' := ?_) #[true, true, true, true, true, true, false, true, false, false, false, false, false, false, false, false, false, false, false, false, false, false, false] rfl rfl (any_of HT_.out (by kernel_rfl)) (fun _ _ _ h => h) (Or.inl ⟨by rfl, ?_⟩) ?_ ?_
                          rotate_left
                          ·
                           intro w'
                           go_simp
                           with_reducible rfl
                          rotate_left
                          ·
                           simp only [Act.put, List.setIfInBounds_toArray, List.set_cons_zero, List.set_cons_succ, i64_w, i32_w]
                           rfl
                          refine take_ (i := 6) (N := some 111) (v := ?_) (a' := ?_) #[true, true, true, true, true, true, true, true, false, false, false, false, false, false, false, false, false, false, false, false, false, false, false] rfl rfl (take_ofW HT_.out HW_.out (by kernel_rfl)) (fun _ _ _ h => h) (Or.inl ⟨by rfl, ?_⟩) hHeld ?_ ?_
                          rotate_left
                          ·
                           rintro w' ⟨s0, s1, s2⟩
                           go_simp
                           with_reducible rfl
                          rotate_left
                          ·
                           simp only [Act.put, List.setIfInBounds_toArray, List.set_cons_zero, List.set_cons_succ, i64_w, i32_w]
                           rfl
                          refine pure_ (i := 8) (N := some 113) (v := ?_) (a' := ?_) #[true, true, true, true, true, true, true, true, true, false, false, false, false, false, false, false, false, false, false, false, false, false, false] rfl rfl (any_of HT_.out (by kernel_rfl)) (fun _ _ _ h => h) (Or.inl ⟨by rfl, ?_⟩) ?_ ?_
                          rotate_left
                          ·
                           intro w'
                           go_simp
                           with_reducible rfl
                          rotate_left
                          ·
                           simp only [Act.put, List.setIfInBounds_toArray, List.set_cons_zero, List.set_cons_succ, i64_w, i32_w]
                           rfl
                          refine take_ (i := 9) (N := some 114) (v := ?_) (a' := ?_) #[true, true, true, true, true, true, true, true, true, true, false, false, false, false, false, false, false, false, false, false, false, false, false] rfl rfl (take_ofW HT_.out HW_.out (by kernel_rfl)) (fun _ _ _ h => h) (Or.inl ⟨by rfl, ?_⟩) hHeld ?_ ?_
                          rotate_left
                          ·
                           rintro w' ⟨s0, s1, s2⟩
                           go_simp
                           with_reducible rfl
                          rotate_left
                          ·
                           simp only [Act.put, List.setIfInBounds_toArray, List.set_cons_zero, List.set_cons_succ, i64_w, i32_w]
                           rfl
                          refine pure_ (i := 10) (N := some 115) (v := ?_) (a' := ?_) #[true, true, true, true, true, true, true, true, true, true, true, false, false, false, false, false, false, false, false, false, false, false, false] rfl rfl (any_of HT_.out (by kernel_rfl)) (fun _ _ _ h => h) (Or.inl ⟨by rfl, ?_⟩) ?_ ?_
                          rotate_left
                          ·
                           intro w'
                           go_simp
                           with_reducible rfl
                          rotate_left
                          ·
                           simp only [Act.put, List.setIfInBounds_toArray, List.set_cons_zero, List.set_cons_succ, i64_w, i32_w]
                           rfl
                          refine pure_ (i := 11) (N := some 116) (v := ?_) (a' := ?_) #[true, true, true, true, true, true, true, true, true, true, true, true, false, false, false, false, false, false, false, false, false, false, false] rfl rfl (any_of HT_.out (by kernel_rfl)) (fun _ _ _ h => h) (Or.inl ⟨by rfl, ?_⟩) ?_ ?_
                          rotate_left
                          ·
                           intro w'
                           go_simp
                           with_reducible rfl
                          rotate_left
                          ·
                           simp only [Act.put, List.setIfInBounds_toArray, List.set_cons_zero, List.set_cons_succ, i64_w, i32_w]
                           rfl
                          refine pure_ (i := 12) (N := some 117) (v := ?_) (a' := ?_) #[true, true, true, true, true, true, true, true, true, true, true, true, true, false, false, false, false, false, false, false, false, false, false] rfl rfl (any_of HT_.out (by kernel_rfl)) (fun _ _ _ h => h) (Or.inl ⟨by rfl, ?_⟩) ?_ ?_
                          rotate_left
                          ·
                           intro w'
                           go_simp
                           with_reducible rfl
                          rotate_left
                          ·
                           simp only [Act.put, List.setIfInBounds_toArray, List.set_cons_zero, List.set_cons_succ, i64_w, i32_w]
                           rfl
                          refine pure_ (i := 13) (N := some 118) (v := undef) (a' := ?_) #[true, true, true, true, true, true, true, true, true, true, true, true, true, true, false, false, false, false, false, false, false, false, false] rfl rfl (any_of HT_.out (by kernel_rfl)) (fun _ _ _ h => h) (Or.inr ⟨by rfl, rfl⟩) ?_ ?_
                          rotate_left
                          ·
                           simp only [Act.put, List.setIfInBounds_toArray, List.set_cons_zero, List.set_cons_succ, i64_w, i32_w]
                           rfl
                          refine pure_ (i := 14) (N := some 119) (v := undef) (a' := ?_) #[true, true, true, true, true, true, true, true, true, true, true, true, true, true, true, false, false, false, false, false, false, false, false] rfl rfl (any_of HT_.out (by kernel_rfl)) (fun _ _ _ h => h) (Or.inr ⟨by rfl, rfl⟩) ?_ ?_
                          rotate_left
                          ·
                           simp only [Act.put, List.setIfInBounds_toArray, List.set_cons_zero, List.set_cons_succ, i64_w, i32_w]
                           rfl
                          refine pure_ (i := 15) (N := some 120) (v := undef) (a' := ?_) #[true, true, true, true, true, true, true, true, true, true, true, true, true, true, true, true, false, false, false, false, false, false, false] rfl rfl (any_of HT_.out (by kernel_rfl)) (fun _ _ _ h => h) (Or.inr ⟨by rfl, rfl⟩) ?_ ?_
                          rotate_left
                          ·
                           simp only [Act.put, List.setIfInBounds_toArray, List.set_cons_zero, List.set_cons_succ, i64_w, i32_w]
                           rfl
                          refine pure_ (i := 16) (N := some 121) (v := undef) (a' := ?_) #[true, true, true, true, true, true, true, true, true, true, true, true, true, true, true, true, true, false, false, false, false, false, false] rfl rfl (any_of HT_.out (by kernel_rfl)) (fun _ _ _ h => h) (Or.inr ⟨by rfl, rfl⟩) ?_ ?_
                          rotate_left
                          ·
                           simp only [Act.put, List.setIfInBounds_toArray, List.set_cons_zero, List.set_cons_succ, i64_w, i32_w]
                           rfl
                          refine pure_ (i := 17) (N := some 122) (v := undef) (a' := ?_) #[true, true, true, true, true, true, true, true, true, true, true, true, true, true, true, true, true, true, false, false, false, false, false] rfl rfl (any_of HT_.out (by kernel_rfl)) (fun _ _ _ h => h) (Or.inr ⟨by rfl, rfl⟩) ?_ ?_
                          rotate_left
                          ·
                           simp only [Act.put, List.setIfInBounds_toArray, List.set_cons_zero, List.set_cons_succ, i64_w, i32_w]
                           rfl
                          refine pure_ (i := 18) (N := some 123) (v := undef) (a' := ?_) #[true, true, true, true, true, true, true, true, true, true, true, true, true, true, true, true, true, true, true, false, false, false, false] rfl rfl (any_of HT_.out (by kernel_rfl)) (fun _ _ _ h => h) (Or.inr ⟨by rfl, rfl⟩) ?_ ?_
                          rotate_left
                          ·
                           simp only [Act.put, List.setIfInBounds_toArray, List.set_cons_zero, List.set_cons_succ, i64_w, i32_w]
                           rfl
                          refine pure_ (i := 19) (N := some 124) (v := undef) (a' := ?_) #[true, true, true, true, true, true, true, true, true, true, true, true, true, true, true, true, true, true, true, true, false, false, false] rfl rfl (any_of HT_.out (by kernel_rfl)) (fun _ _ _ h => h) (Or.inr ⟨by rfl, rfl⟩) ?_ ?_
                          rotate_left
                          ·
                           simp only [Act.put, List.setIfInBounds_toArray, List.set_cons_zero, List.set_cons_succ, i64_w, i32_w]
                           rfl
                          refine pure_ (i := 20) (N := some 125) (v := undef) (a' := ?_) #[true, true, true, true, true, true, true, true, true, true, true, true, true, true, true, true, true, true, true, true, true, false, false] rfl rfl (any_of HT_.out (by kernel_rfl)) (fun _ _ _ h => h) (Or.inr ⟨by rfl, rfl⟩) ?_ ?_
                          rotate_left
                          ·
                           simp only [Act.put, List.setIfInBounds_toArray, List.set_cons_zero, List.set_cons_succ, i64_w, i32_w]
                           rfl
                          refine pure_ (i := 21) (N := some 126) (v := undef) (a' := ?_) #[true, true, true, true, true, true, true, true, true, true, true, true, true, true, true, true, true, true, true, true, true, true, false] rfl rfl (any_of HT_.out (by kernel_rfl)) (fun _ _ _ h => h) (Or.inr ⟨by rfl, rfl⟩) ?_ ?_
                          rotate_left
                          ·
                           simp only [Act.put, List.setIfInBounds_toArray, List.set_cons_zero, List.set_cons_succ, i64_w, i32_w]
                           rfl
                          refine pure_ (i := 22) (N := some 127) (v := ?_) (a' := ?_) #[true, true, true, true, true, true, true, true, true, true, true, true, true, true, true, true, true, true, true, true, true, true, true] rfl rfl (any_of HT_.out (by kernel_rfl)) (fun _ _ _ h => h) (Or.inl ⟨by rfl, ?_⟩) ?_ ?_
                          rotate_left
                          ·
                           intro w'
                           go_simp
                           with_reducible rfl
                          rotate_left
                          ·
                           simp only [Act.put, List.setIfInBounds_toArray, List.set_cons_zero, List.set_cons_succ, i64_w, i32_w]
                           rfl
                          refine done_ (done_of HT_.out (by kernel_rfl)) ?_
                          try go_wp2
                          (try simp only [← hl11_4])
                          go_roundg k4
                          case measure => have := HK1.out; have := HK2.out; have := HK3.out; have := HK4.out; omega
                          case rel => exact ⟨(x11_4), (x12_4), (wrap64 (x102_4 + 1)), rs_, H', ⟨by have := HK1.out; have := HK2.out; have := HK3.out; have := HK4.out; omega⟩, ⟨by (try simp only [hl11_3]); (try simp only [hl11_4]); (with_reducible repeat (first | apply Kd.S_alloc | apply Kd.S_drewN | apply Kd.S_drew)); exact HO_9.out⟩, ⟨by (try simp only [hl11_3]); (try simp only [hl11_4]); (with_reducible repeat (first | apply Kd.R_alloc | apply Kd.R_drewN | apply Kd.R_drew)); exact HO_11.out⟩, ⟨by (try simp only [hl11_3]); (try simp only [hl11_4]); (with_reducible repeat (first | apply Kd.Q_alloc | apply Kd.Q_drewN | apply Kd.Q_drew)); exact HO_12.out⟩, ⟨by (try simp only [hl11_3]); (try simp only [hl11_4]); (with_reducible repeat (first | apply Kd.R_alloc | apply Kd.R_drewN | apply Kd.R_drew)); exact HO_171000.out⟩, ⟨by (try simp only [hl11_3]); (try simp only [hl11_4]); (with_reducible repeat (first | refine blk_drewN ?_ _ | refine blk_drew ?_ | refine blk_alloc ?_ _)); exact BK163.out⟩, ⟨by (try simp only [hl11_3]); (try simp only [hl11_4]); (with_reducible repeat (first | refine blk_drewN ?_ _ | refine blk_drew ?_ | refine blk_alloc ?_ _)); exact BK166.out⟩, ⟨by (try simp only [hl11_3]); (try simp only [hl11_4]); (with_reducible repeat (first | refine blk_drewN ?_ _ | refine blk_drew ?_ | refine blk_alloc ?_ _)); exact BK170.out⟩, ⟨bw_ HB⟩⟩
                        ·
                         rw [if_neg c101] at H
                         exact absurd H (by simp)
                      ·
                       rw [if_neg c97] at H
                       exact absurd H (by simp)
                     ·
                      rw [if_neg c96] at H
                      exact absurd H (by simp)
                    ·
                     rw [if_neg c95] at H
                     have c95b0 : decide (x102_4 < (l0.length : Int)) = false := decide_eq_false c95
                     clear c95
                     by_cases c122 : 1 ≤ (x12_4.length : Int)
                     ·
                      rw [if_pos c122] at H
                      have c122b0 := eq_true c122
                      have c122b1 : decide (1 ≤ (x12_4.length : Int)) = true := decide_eq_true c122
                      clear c122
                      obtain ⟨y204, hy204⟩ : ∃ y_ : List Int, y_ = (x12_4.drop (1 : Int).toNat) := ⟨_, rfl⟩
                      replace H : (flow_Loops.l2 k4 l0 x9_1 x31_1 x11_4 y204 (l0.length : Int) x31_1 t167) = some (r1, r2, r3) := by first | (rw [hy204]; with_reducible exact H) | (have H2_ := (Option.bind_some _ _).symm.trans H; rw [hy204]; with_reducible exact H2_) | (have H2_ := (Option.bind_some _ _).symm.trans H; with_reducible exact H2_) | with_reducible exact H | (rw [hy204]; exact H) | exact H
                      have Ny204 := Aside0.mk hy204
                      clear hy204
                      have H' := Aside0.mk H
                      clear H
                      obtain ⟨Ao123, co123, eo123, _⟩ := Kd.Q_slice HO_12.out
                      subst eo123
                      have q124 : (1 : Int) ≤ ((x12_4.length : Int) : Int) := of_decide_eq_true (by first | (with_reducible assumption) | assumption)
                      obtain ⟨i0124, hi0124, _, hsz124, _⟩ := info_parts info3
                      have hcut124 := cut_from (P := Try.prog) 22 3 .i64 Try.underlying22 hi0124 1 hsz124 Ao123 x12_4.length co123 1 (by omega) q124
                      have hr124 := Kd.Q_drop (k := (1 : Int).toNat) HO_12.out (by omega)
                      obtain ⟨A124, hA124⟩ : ∃ A1, A1 = (if co123 = (1 : Int).toNat then Ao123 else (Ao123 : Option Addr).map (·.add ((1 : Int).toNat * 1))) := ⟨_, rfl⟩
                      obtain ⟨c124, hc124⟩ : ∃ c1, c1 = co123 - (1 : Int).toNat := ⟨_, rfl⟩
                      have hy124 : y204.length = x12_4.length - (1 : Int).toNat := (by rw [Ny204.out, List.length_drop])
                      rw [← Ny204.out] at hr124
                      rw [← hy124, ← hA124, ← hc124] at hcut124
                      replace hr124 : Kd.Q (Kd.int .i64) 3 wr w.heap.size (fun k_ => some k_ ≠ (.slice Ao22 t167.length co22 : Value).ownBlock) (.slice A124 y204.length c124) y204 := (by rw [hA124, hc124, hy124]; exact hr124)
                      have HE124 : Aside0 ((Value.slice A124 y204.length c124).ownBlock = (.slice Ao123 x12_4.length co123 : Value).ownBlock) := ⟨by rw [hA124]; split <;> (cases (Ao123 : Option Addr) <;> rfl)⟩
                      clear hy124 hi0124 hsz124 HO_12 hA124 hc124
                      have HO206 := Aside0.mk hr124
                      clear hr124
                      replace q124 := eq_true q124
                      have n_ := Aside0.mk (Kd.S_mono (ok' := fun k_ => (some k_ ≠ (.slice A124 y204.length c124 : Value).ownBlock ∧ some k_ ≠ (.slice Ao22 t167.length co22 : Value).ownBlock)) HO_9.out (fun k_ hk => ⟨(by rw [HE124.out]; exact hk.1), hk.2⟩))
                      clear HO_9
                      have HO_9 := n_
                      clear n_
                      have n_ := Aside0.mk (Kd.R_mono (ok' := fun k_ => some k_ ≠ (.slice A124 y204.length c124 : Value).ownBlock) HO_171000.out (fun k_ hk => (by rw [HE124.out]; exact hk)))
                      clear HO_171000
                      have HO_171000 := n_
                      clear n_
                      go_wp2
                      (try simp only [← hl11_3, ← hl11_4])
                      go_roundg k4
                      case measure => have := HK1.out; have := HK2.out; have := HK3.out; have := HK4.out; omega
                      case rel => exact ⟨(x11_4), (y204), H', ⟨by have := HK1.out; have := HK2.out; have := HK3.out; have := HK4.out; omega⟩, ⟨by (try simp only [hl11_3]); (try simp only [hl11_4]); (with_reducible repeat (first | apply Kd.S_alloc | apply Kd.S_drewN | apply Kd.S_drew)); exact HO_9.out⟩, ⟨by (try simp only [hl11_3]); (try simp only [hl11_4]); (with_reducible repeat (first | apply Kd.R_alloc | apply Kd.R_drewN | apply Kd.R_drew)); exact HO_11.out⟩, ⟨by (try simp only [hl11_3]); (try simp only [hl11_4]); (with_reducible repeat (first | apply Kd.Q_alloc | apply Kd.Q_drewN | apply Kd.Q_drew)); exact HO206.out⟩, ⟨by (try simp only [hl11_3]); (try simp only [hl11_4]); (with_reducible repeat (first | apply Kd.R_alloc | apply Kd.R_drewN | apply Kd.R_drew)); exact HO_171000.out⟩, ⟨by (try simp only [hl11_3]); (try simp only [hl11_4]); (with_reducible repeat (first | refine blk_drewN ?_ _ | refine blk_drew ?_ | refine blk_alloc ?_ _)); exact BK163.out⟩, ⟨by (try simp only [hl11_3]); (try simp only [hl11_4]); (with_reducible repeat (first | refine blk_drewN ?_ _ | refine blk_drew ?_ | refine blk_alloc ?_ _)); exact BK166.out⟩, ⟨by (try simp only [hl11_3]); (try simp only [hl11_4]); (with_reducible repeat (first | refine blk_drewN ?_ _ | refine blk_drew ?_ | refine blk_alloc ?_ _)); exact BK170.out⟩, ⟨bw_ HB⟩⟩
                     ·
                      rw [if_neg c122] at H
                      exact absurd H (by simp)
                ·
                 rw [if_neg c89] at H
                 exact absurd H (by simp)
               ·
                rw [if_neg c88] at H
                have c88b0 : decide (0 < (x12_3.length : Int)) = false := decide_eq_false c88
                have c88b1 : decide (0 < x12_3.length) = false := decide_eq_false (by omega)
                clear c88
                have H' := Aside0.mk H
                clear H
                obtain ⟨Ao125, co125, eo125, _⟩ := Kd.Q_slice HO_12.out
                subst eo125
                go_wp2_with (first | ((with_reducible refine gate_dst (N := 15) rfl ?_); refine bx_ (N := 15) (cs := #[.int .i64 0, .slice none 0 0]) (t := 68) ?_; intro gb207 hg w126 hbox hb; have n0_ := Aside0.mk (Kd.S_below (Kd.S_elderB (by (with_reducible repeat (first | apply Kd.S_alloc | apply Kd.S_drewN | apply Kd.S_drew)); exact HO_9.out) gb207 (Nat.le_of_eq hg.symm)) hb); have n1_ := Aside0.mk (Kd.R_below (by (with_reducible repeat (first | apply Kd.R_alloc | apply Kd.R_drewN | apply Kd.R_drew)); exact HO_11.out) hb); have n2_ := Aside0.mk (Kd.Q_below (by (with_reducible repeat (first | apply Kd.Q_alloc | apply Kd.Q_drewN | apply Kd.Q_drew)); exact HO_12.out) hb); have n3_ := Aside0.mk (Kd.R_below (by (with_reducible repeat (first | apply Kd.R_alloc | apply Kd.R_drewN | apply Kd.R_drew)); exact HO_171000.out) hb); have n4_ := Aside0.mk (blk_below (g := gb163) (o := .cells #[.int .i64 0, .int .i64 0] 28 (0, 0)) (bk_ BK163) hb); have n5_ := Aside0.mk (blk_below (g := gb166) (o := .cells #[.int .i64 t164, .int .i64 t165] 28 (0, 0)) (bk_ BK166) hb); have n6_ := Aside0.mk (blk_below (g := gb170) (o := .cells #[.slice Ao22 t167.length co22] 22 (0, 0)) (bk_ BK170) hb); have n7_ := Aside0.mk (below_step (bw_ HB) hb); have n8_ := Aside0.mk (hbox); have n9_ := Aside0.mk ((by rw [hg]; exact (below_size (bw_ HB)) : w.heap.size ≤ gb207)); have n10_ := Aside0.mk ((by rw [hg]; exact (below_size (bw_ HB)) : w.heap.size ≤ gb207)); have n11_ := Aside0.mk ((by rw [hg]; exact Nat.ne_of_lt (blk_lt (g := gb163) (o := .cells #[.int .i64 0, .int .i64 0] 28 (0, 0)) (bk_ BK163)) : gb163 ≠ gb207)); have n12_ := Aside0.mk ((by rw [hg]; exact Nat.ne_of_gt (blk_lt (g := gb163) (o := .cells #[.int .i64 0, .int .i64 0] 28 (0, 0)) (bk_ BK163)) : gb207 ≠ gb163)); have n13_ := Aside0.mk ((by rw [hg]; exact Nat.ne_of_lt (blk_lt (g := gb166) (o := .cells #[.int .i64 t164, .int .i64 t165] 28 (0, 0)) (bk_ BK166)) : gb166 ≠ gb207)); have n14_ := Aside0.mk ((by rw [hg]; exact Nat.ne_of_gt (blk_lt (g := gb166) (o := .cells #[.int .i64 t164, .int .i64 t165] 28 (0, 0)) (bk_ BK166)) : gb207 ≠ gb166)); have n15_ := Aside0.mk ((by rw [hg]; exact Nat.ne_of_lt (blk_lt (g := gb170) (o := .cells #[.slice Ao22 t167.length co22] 22 (0, 0)) (bk_ BK170)) : gb170 ≠ gb207)); have n16_ := Aside0.mk ((by rw [hg]; exact Nat.ne_of_gt (blk_lt (g := gb170) (o := .cells #[.slice Ao22 t167.length co22] 22 (0, 0)) (bk_ BK170)) : gb207 ≠ gb170)); clear HO_9; clear HO_11; clear HO_12; clear HO_171000; clear BK163; clear BK166; clear BK170; clear HB; have HO_9 := n0_; have HO_11 := n1_; have HO_12 := n2_; have HO_171000 := n3_; have BK163 := n4_; have BK166 := n5_; have BK170 := n6_; have HB := n7_; have BK207 := n8_; have GW207 := n9_; have GE207 := n10_; have NB163_207 := n11_; have NB207_163 := n12_; have NB166_207 := n13_; have NB207_166 := n14_; have NB170_207 := n15_; have NB207_170 := n16_; clear n0_ n1_ n2_ n3_ n4_ n5_ n6_ n7_ n8_ n9_ n10_ n11_ n12_ n13_ n14_ n15_ n16_; clear hb hbox hg; have hnb127 := NB207_163.out; have hnc127 := NB163_207.out; have hnb128 := NB207_166.out; have hnc128 := NB166_207.out; have hnb129 := NB207_170.out; have hnc129 := NB170_207.out; obtain ⟨hcz130_0, hcz130_1, hfz130_0, hfz130_1⟩ := cz2_ BK207))
                go_loopg [140] k3 (fun kq v140 w' => ∃ (x140_4 : Int) (x208001_4 : List Int) (u208001 : Value), v140 = .int .i64 x140_4 ∧ Aside0 (flow_Loops.l4 kq l0 x9_1 (l0.length : Int) x31_1 x11_3 (x11_3.length : Int) x140_4 t167 x31_1 x208001_4 = some (r1, r2, r3)) ∧ Aside0 (kq ≤ k3) ∧ Aside0 (Kd.S k68 68 w' w.heap.size (fun k_ => some k_ ≠ ((.slice Ao22 t167.length co22) : Value).ownBlock ∧ some k_ ≠ (u208001 : Value).ownBlock ∧ k_ ≠ gb207) u9 x9_1) ∧ Aside0 (Kd.R Kd.bool 4 w' w.heap.size (fun _ => True) (.slice (some ⟨go84, 0, none⟩) x11_3.length co84) x11_3) ∧ Aside0 (Kd.R (Kd.int .i64) 3 w' w.heap.size (fun k_ => some k_ ≠ (u208001 : Value).ownBlock) (.slice Ao22 t167.length co22) t167) ∧ Aside0 (Kd.R (Kd.int .i64) 3 w' w.heap.size (fun k_ => some k_ ≠ ((.slice Ao22 t167.length co22) : Value).ownBlock) u208001 x208001_4) ∧ Aside0 (w'.heap[gb163]? = some (.cells #[.int .i64 0, .int .i64 0] 28 (0, 0))) ∧ Aside0 (w'.heap[gb166]? = some (.cells #[.int .i64 t164, .int .i64 t165] 28 (0, 0))) ∧ Aside0 (w'.heap[gb170]? = some (.cells #[(.slice Ao22 t167.length co22)] 22 (0, 0))) ∧ Aside0 (w'.heap[gb207]? = some (.cells #[.int .i64 x31_1, u208001] 68 (0, 0))) ∧ Aside0 (Below w.heap.size w w'))
                case atStart => exact ⟨(0), (([] : List Int)), (.slice none 0 0), rs_, H', ⟨Nat.le_refl _⟩, ⟨by (try simp only [hl11_3]); (with_reducible repeat (first | apply Kd.S_alloc | apply Kd.S_drewN | apply Kd.S_drew)); exact Kd.S_mono (Kd.S_far (p := ⟨gb207, 1, none⟩) (Kd.S_far (p := ⟨gb207, 0, none⟩) (Kd.S_mono HO_9.out (fun k_ hk => (⟨hk, hk.2⟩ : _ ∧ k_ ≠ gb207))) (fun _ hk => hk.2) (.int .i64 x31_1)) (fun _ hk => hk.2) (.slice none 0 0)) (fun _ hk => ⟨hk.1.1.2, ⟨(by simp [Value.ownBlock]), hk.1.2⟩⟩)⟩, ⟨by (try simp only [hl11_3]); (with_reducible repeat (first | apply Kd.R_alloc | apply Kd.R_drewN | apply Kd.R_drew)); exact Kd.R_mono (Kd.R_far (p := ⟨gb207, 1, none⟩) (Kd.R_far (p := ⟨gb207, 0, none⟩) (Kd.R_types HO_11.out BK207.out (by decide)) (fun _ hk => hk.2) (.int .i64 x31_1)) (fun _ hk => hk.2) (.slice none 0 0)) (fun _ hk => trivial)⟩, ⟨by (try simp only [hl11_3]); (with_reducible repeat (first | apply Kd.R_alloc | apply Kd.R_drewN | apply Kd.R_drew)); exact Kd.R_mono (Kd.R_far (p := ⟨gb207, 1, none⟩) (Kd.R_far (p := ⟨gb207, 0, none⟩) (Kd.R_types HO_171000.out BK207.out (by decide)) (fun _ hk => hk.2) (.int .i64 x31_1)) (fun _ hk => hk.2) (.slice none 0 0)) (fun _ hk => (by simp [Value.ownBlock]))⟩, ⟨by (try simp only [hl11_3]); first | exact Kd.R_nil _ _ _ _ _ | exact Kd.N_nil _ _ _ _ _ | exact Kd.V_nil _ _ _ _ _ | exact Kd.Q_nil _ _ _ _ _ | exact Kd.S_nil _ _ _ _ _⟩, ⟨by (try simp only [hl11_3]); (with_reducible repeat (first | refine blk_drewN ?_ _ | refine blk_drew ?_ | refine blk_alloc ?_ _)); refine blk_far ?_ NB163_207.out _; (with_reducible repeat (first | refine blk_drewN ?_ _ | refine blk_drew ?_ | refine blk_alloc ?_ _)); refine blk_far ?_ NB163_207.out _; (with_reducible repeat (first | refine blk_drewN ?_ _ | refine blk_drew ?_ | refine blk_alloc ?_ _)); exact BK163.out⟩, ⟨by (try simp only [hl11_3]); (with_reducible repeat (first | refine blk_drewN ?_ _ | refine blk_drew ?_ | refine blk_alloc ?_ _)); refine blk_far ?_ NB166_207.out _; (with_reducible repeat (first | refine blk_drewN ?_ _ | refine blk_drew ?_ | refine blk_alloc ?_ _)); refine blk_far ?_ NB166_207.out _; (with_reducible repeat (first | refine blk_drewN ?_ _ | refine blk_drew ?_ | refine blk_alloc ?_ _)); exact BK166.out⟩, ⟨by (try simp only [hl11_3]); (with_reducible repeat (first | refine blk_drewN ?_ _ | refine blk_drew ?_ | refine blk_alloc ?_ _)); refine blk_far ?_ NB170_207.out _; (with_reducible repeat (first | refine blk_drewN ?_ _ | refine blk_drew ?_ | refine blk_alloc ?_ _)); refine blk_far ?_ NB170_207.out _; (with_reducible repeat (first | refine blk_drewN ?_ _ | refine blk_drew ?_ | refine blk_alloc ?_ _)); exact BK170.out⟩, ⟨by (try simp only [hl11_3]); (with_reducible repeat (first | refine blk_drewN ?_ _ | refine blk_drew ?_ | refine blk_alloc ?_ _)); refine Mine.blk_all2 (.int .i64 0) (.slice none 0 0) ?_ _ _; (with_reducible repeat (first | refine blk_drewN ?_ _ | refine blk_drew ?_ | refine blk_alloc ?_ _)); exact BK207.out⟩, ⟨bw_ HB⟩⟩
                case round =>
                 clear H'
                 (try clear c1); (try clear p1); (try clear q1); (try clear hx1); (try clear qi1); (try clear p2); (try clear c4); (try clear p6); (try clear c8); (try clear c9); (try clear q9); (try clear c10); (try clear p10); (try clear q10); (try clear c12); (try clear q12); (try clear c19); (try clear p19); (try clear q19); (try clear hx19); (try clear qi19); (try clear c47); (try clear c48); (try clear p64); (try clear c88); (try clear c88b0); (try clear c88b1); (try clear c89); (try clear c95); (try clear c95b0); (try clear c96); (try clear c97); (try clear q98); (try clear c101); (try clear c102); (try clear c102b0); (try clear c103); (try clear c105); (try clear c107); (try clear p108); (try clear q108); (try clear c109); (try clear c122); (try clear c122b0); (try clear c122b1); (try clear c124); (try clear q124); (try clear c127); (try clear c128); (try clear c129); (try clear hcz130_0); (try clear hcz130_1); (try clear hfz130_0); (try clear hfz130_1); (try clear hx192_0); (try clear hx193_0); (try clear hx194_0); (try clear hx194_1); (try clear hx194_2); (try clear hx194_3); (try clear hx198_0); (try clear p108); (try clear p192); (try clear p193); (try clear p194); (try clear p198); (try clear q108); (try clear q124); (try clear q192); (try clear q193); (try clear q194); (try clear q198)
                 obtain ⟨x140_4, x208001_4, u208001, rfl, HA, HK4, HO_9, HO_138, HO_171000, HO_208001, BK163, BK166, BK170, BK207, HB⟩ := hrel
                 cases gk with
                 | zero => exact absurd HA.out (by simp [flow_Loops.l4])
                 | succ k4 =>
                  have H := HA.out
                  clear HA
                  simp only [flow_Loops.l4] at H
                  by_cases c131 : x140_4 < (x11_3.length : Int)
                  ·
                   rw [if_pos c131] at H
                   have c131b0 : decide (x140_4 < (x11_3.length : Int)) = true := decide_eq_true c131
                   clear c131
                   by_cases c132 : 0 ≤ x140_4
                   ·
                    rw [if_pos c132] at H
                    have c132b0 : decide (0 ≤ x140_4) = true := decide_eq_true c132
                    clear c132
                    by_cases c133 : x140_4 < (x11_3.length : Int)
                    ·
                     rw [if_pos c133] at H
                     have c133b0 : decide (x140_4 < (x11_3.length : Int)) = true := decide_eq_true c133
                     clear c133
                     obtain ⟨bq134, hbq134⟩ : ∃ b_ : Bool, b_ = (rdOf false x11_3 x140_4) := ⟨_, rfl⟩
                     replace H : (if bq134 = true then (if x208001_4.length < 17592186044416 then (flow_Loops.l4 k4 l0 x9_1 (l0.length : Int) x31_1 x11_3 (x11_3.length : Int) (wrap64 (x140_4 + 1)) t167 x31_1 (x208001_4 ++ [x140_4])) else (none)) else (flow_Loops.l4 k4 l0 x9_1 (l0.length : Int) x31_1 x11_3 (x11_3.length : Int) (wrap64 (x140_4 + 1)) t167 x31_1 x208001_4)) = some (r1, r2, r3) := by rw [← hbq134] at H; exact H
                     have Nbq134 := Aside0.mk hbq134
                     clear hbq134
                     by_cases c135 : bq134 = true
                     ·
                      subst c135
                      have H1 : (if x208001_4.length < 17592186044416 then (flow_Loops.l4 k4 l0 x9_1 (l0.length : Int) x31_1 x11_3 (x11_3.length : Int) (wrap64 (x140_4 + 1)) t167 x31_1 (x208001_4 ++ [x140_4])) else (none)) = some (r1, r2, r3) := by rw [if_pos rfl] at H; exact H
                      clear H
                      have H := H1
                      clear H1
                      by_cases c136 : x208001_4.length < 17592186044416
                      ·
                       rw [if_pos c136] at H
                       have LMc136 := Aside0.mk c136
                       clear c136
                       obtain ⟨y209, hy209⟩ : ∃ y_ : List Int, y_ = (x208001_4 ++ [x140_4]) := ⟨_, rfl⟩
                       replace H : (flow_Loops.l4 k4 l0 x9_1 (l0.length : Int) x31_1 x11_3 (x11_3.length : Int) (wrap64 (x140_4 + 1)) t167 x31_1 y209) = some (r1, r2, r3) := by first | (rw [hy209]; with_reducible exact H) | (have H2_ := (Option.bind_some _ _).symm.trans H; rw [hy209]; with_reducible exact H2_) | (have H2_ := (Option.bind_some _ _).symm.trans H; with_reducible exact H2_) | with_reducible exact H | (rw [hy209]; exact H) | exact H
                       have Ny209 := Aside0.mk hy209
                       clear hy209
                       have H' := Aside0.mk H
                       clear H
                       have p208 : 0 ≤ (x140_4 : Int) := of_decide_eq_true (by first | (with_reducible assumption) | assumption)
                       have q208 : x140_4 < (x11_3.length : Int) := of_decide_eq_true (by first | (with_reducible assumption) | assumption)
                       obtain ⟨ad208, e208, hx208_0⟩ := Kd.at_bool (Kd.R_reads' HO_138.out).2.2 x140_4 p208 q208
                       (try rw [← Nbq134.out] at hx208_0)
                       obtain rfl : (⟨go84, 0, none⟩ : Addr) = ad208 := (by injection e208)
                       (first | simp only [add_plain] at hx208_0 | simp only [add_at] at hx208_0 | simp only [Addr.add, Nat.zero_add] at hx208_0 | skip)
                       replace p208 := eq_true p208
                       replace q208 := eq_true q208
                       have hnb137 := NB207_163.out
                       have hnc137 := NB163_207.out
                       have hnb138 := NB207_166.out
                       have hnc138 := NB166_207.out
                       have hnb139 := NB207_170.out
                       have hnc139 := NB170_207.out
                       obtain ⟨hcz140_0, hcz140_1, hfz140_0, hfz140_1⟩ := cz2_ BK207
                       go_wp2_with (first | ((with_reducible refine gate_builtin (b := .append) (xs := #[.tmp 147, .tmp 149]) rfl ?_); at_builtin; refine Kd.R_append (Kd.int .i64) (w0 := w) w.heap.size rfl (.tmp 147) (.tmp 149) 22 3 (.int .i64 0) 8 rfl Try.underlying22 info3 rfl (by decide) (by omega) u208001 x208001_4 x140_4 [.int .i64 x140_4] (fun k_ => some k_ ≠ (.slice Ao22 t167.length co22 : Value).ownBlock) (fun _ => False) rfl rfl ?aP (fun _ hk => hk.elim) ?aF ?aO ?aB ?aS ?aL ?_; (case aP => exact rfl); (case aB => exact (bw_ HB)); (case aF => exact (fun k_ hk => Kd.fresh' (Kd.R_lt (by (with_reducible repeat (first | apply Kd.R_alloc | apply Kd.R_drewN | apply Kd.R_drew)); exact HO_171000.out)) k_ hk)); (case aO => exact (by (with_reducible repeat (first | apply Kd.R_alloc | apply Kd.R_drewN | apply Kd.R_drew)); exact HO_208001.out)); (case aS => exact (below_size (bw_ HB))); (case aL => have := LMc136.out; omega); intro v210 w141 ho hb hg hat; rw [← Ny209.out] at ho; have n0_ := Aside0.mk (Kd.S_after (ok := (fun k_ => some k_ ≠ (.slice Ao22 t167.length co22 : Value).ownBlock ∧ k_ ≠ gb207)) (by (with_reducible repeat (first | apply Kd.S_alloc | apply Kd.S_drewN | apply Kd.S_drew)); exact Kd.S_mono HO_9.out (fun _ hk => by first | exact ⟨⟨hk.1, hk.2.2⟩, hk.2.1⟩ | exact hk | (and_intros <;> first | exact hk.1 | exact hk.2 | exact hk.1.1 | exact hk.1.2 | exact hk.2.1 | exact hk.2.2))) hg hat); have n1_ := Aside0.mk (Kd.R_over' (by (with_reducible repeat (first | apply Kd.R_alloc | apply Kd.R_drewN | apply Kd.R_drew)); exact HO_138.out) (Kd.R_typed (by (with_reducible repeat (first | apply Kd.R_alloc | apply Kd.R_drewN | apply Kd.R_drew)); exact HO_208001.out)) (by decide) hg); have n2_ := Aside0.mk (Kd.R_after (ok := (fun _ => True)) (by (with_reducible repeat (first | apply Kd.R_alloc | apply Kd.R_drewN | apply Kd.R_drew)); exact Kd.R_mono HO_171000.out (fun _ hk => by first | exact ⟨trivial, hk⟩ | exact hk | (and_intros <;> first | exact hk.1 | exact hk.2 | exact hk.1.1 | exact hk.1.2 | exact hk.2.1 | exact hk.2.2))) hg hat); have n3_ := Aside0.mk (blk_grown (g := gb163) (o := .cells #[.int .i64 0, .int .i64 0] 28 (0, 0)) (bk_ BK163) hg (Kd.R_ne HO_208001.out BK163.out (by decide))); have n4_ := Aside0.mk (blk_grown (g := gb166) (o := .cells #[.int .i64 t164, .int .i64 t165] 28 (0, 0)) (bk_ BK166) hg (Kd.R_ne HO_208001.out BK166.out (by decide))); have n5_ := Aside0.mk (blk_grown (g := gb170) (o := .cells #[.slice Ao22 t167.length co22] 22 (0, 0)) (bk_ BK170) hg (Kd.R_ne HO_208001.out BK170.out (by decide))); have n6_ := Aside0.mk (blk_grown (g := gb207) (o := .cells #[.int .i64 x31_1, u208001] 68 (0, 0)) (bk_ BK207) hg (Kd.R_ne HO_208001.out BK207.out (by decide))); have n7_ := Aside0.mk (hb); have n8_ := Aside0.mk (ho); clear HO_9; clear HO_138; clear HO_171000; clear BK163; clear BK166; clear BK170; clear BK207; clear HB; clear HO_208001; have HO_9 := n0_; have HO_138 := n1_; have HO_171000 := n2_; have BK163 := n3_; have BK166 := n4_; have BK170 := n5_; have BK207 := n6_; have HB := n7_; have HO211 := n8_; clear n0_ n1_ n2_ n3_ n4_ n5_ n6_ n7_ n8_; clear ho hb hg hat; obtain ⟨Ao142, co142, eo142⟩ := Kd.R_slice HO211.out; subst eo142; obtain ⟨hcz143_0, hcz143_1, hfz143_0, hfz143_1⟩ := cz2_ BK207))
                       go_roundg k4
                       case measure => have := HK1.out; have := HK2.out; have := HK3.out; have := HK4.out; omega
                       case rel => exact ⟨(wrap64 (x140_4 + 1)), (y209), (.slice Ao142 y209.length co142), rs_, H', ⟨by have := HK1.out; have := HK2.out; have := HK3.out; have := HK4.out; omega⟩, ⟨by (try simp only [hl11_3]); (with_reducible repeat (first | apply Kd.S_alloc | apply Kd.S_drewN | apply Kd.S_drew)); exact Kd.S_mono (Kd.S_far (p := ⟨gb207, 1, none⟩) (Kd.S_mono HO_9.out (fun k_ hk => (⟨hk, hk.1.2⟩ : _ ∧ k_ ≠ gb207))) (fun _ hk => hk.2) (.slice Ao142 y209.length co142)) (fun _ hk => ⟨hk.1.1.1, ⟨hk.1.2, hk.1.1.2⟩⟩)⟩, ⟨by (try simp only [hl11_3]); (with_reducible repeat (first | apply Kd.R_alloc | apply Kd.R_drewN | apply Kd.R_drew)); exact Kd.R_mono (Kd.R_far (p := ⟨gb207, 1, none⟩) (Kd.R_types HO_138.out BK207.out (by decide)) (fun _ hk => hk.2) (.slice Ao142 y209.length co142)) (fun _ hk => trivial)⟩, ⟨by (try simp only [hl11_3]); (with_reducible repeat (first | apply Kd.R_alloc | apply Kd.R_drewN | apply Kd.R_drew)); exact Kd.R_mono (Kd.R_far (p := ⟨gb207, 1, none⟩) (Kd.R_types HO_171000.out BK207.out (by decide)) (fun _ hk => hk.2) (.slice Ao142 y209.length co142)) (fun _ hk => hk.1.2)⟩, ⟨by (try simp only [hl11_3]); (with_reducible repeat (first | apply Kd.R_alloc | apply Kd.R_drewN | apply Kd.R_drew)); exact Kd.R_mono (Kd.R_far (p := ⟨gb207, 1, none⟩) (Kd.R_types HO211.out BK207.out (by decide)) (fun _ hk => hk.2) (.slice Ao142 y209.length co142)) (fun _ hk => hk.1)⟩, ⟨by (try simp only [hl11_3]); (with_reducible repeat (first | refine blk_drewN ?_ _ | refine blk_drew ?_ | refine blk_alloc ?_ _)); refine blk_far ?_ NB163_207.out _; (with_reducible repeat (first | refine blk_drewN ?_ _ | refine blk_drew ?_ | refine blk_alloc ?_ _)); exact BK163.out⟩, ⟨by (try simp only [hl11_3]); (with_reducible repeat (first | refine blk_drewN ?_ _ | refine blk_drew ?_ | refine blk_alloc ?_ _)); refine blk_far ?_ NB166_207.out _; (with_reducible repeat (first | refine blk_drewN ?_ _ | refine blk_drew ?_ | refine blk_alloc ?_ _)); exact BK166.out⟩, ⟨by (try simp only [hl11_3]); (with_reducible repeat (first | refine blk_drewN ?_ _ | refine blk_drew ?_ | refine blk_alloc ?_ _)); refine blk_far ?_ NB170_207.out _; (with_reducible repeat (first | refine blk_drewN ?_ _ | refine blk_drew ?_ | refine blk_alloc ?_ _)); exact BK170.out⟩, ⟨by (try simp only [hl11_3]); (with_reducible repeat (first | refine blk_drewN ?_ _ | refine blk_drew ?_ | refine blk_alloc ?_ _)); refine blk_put (cs := #[.int .i64 x31_1, u208001]) ?_ 1 _ rfl; (with_reducible repeat (first | refine blk_drewN ?_ _ | refine blk_drew ?_ | refine blk_alloc ?_ _)); exact BK207.out⟩, ⟨bw_ HB⟩⟩
                      ·
                       rw [if_neg c136] at H
                       exact absurd H (by simp)
                     ·
                      replace c135 := Bool.eq_false_iff.mpr c135
                      subst c135
                      have H1 : (flow_Loops.l4 k4 l0 x9_1 (l0.length : Int) x31_1 x11_3 (x11_3.length : Int) (wrap64 (x140_4 + 1)) t167 x31_1 x208001_4) = some (r1, r2, r3) := by rw [if_neg (show ¬ (false = true) by decide)] at H; exact H
                      clear H
                      have H := H1
                      clear H1
                      have H' := Aside0.mk H
                      clear H
                      have p208 : 0 ≤ (x140_4 : Int) := of_decide_eq_true (by first | (with_reducible assumption) | assumption)
                      have q208 : x140_4 < (x11_3.length : Int) := of_decide_eq_true (by first | (with_reducible assumption) | assumption)
                      obtain ⟨ad208, e208, hx208_0⟩ := Kd.at_bool (Kd.R_reads' HO_138.out).2.2 x140_4 p208 q208
                      (try rw [← Nbq134.out] at hx208_0)
                      obtain rfl : (⟨go84, 0, none⟩ : Addr) = ad208 := (by injection e208)
                      (first | simp only [add_plain] at hx208_0 | simp only [add_at] at hx208_0 | simp only [Addr.add, Nat.zero_add] at hx208_0 | skip)
                      replace p208 := eq_true p208
                      replace q208 := eq_true q208
                      go_wp2
                      go_roundg k4
                      case measure => have := HK1.out; have := HK2.out; have := HK3.out; have := HK4.out; omega
                      case rel => exact ⟨(wrap64 (x140_4 + 1)), (x208001_4), (u208001), rs_, H', ⟨by have := HK1.out; have := HK2.out; have := HK3.out; have := HK4.out; omega⟩, ⟨by (try simp only [hl11_3]); (with_reducible repeat (first | apply Kd.S_alloc | apply Kd.S_drewN | apply Kd.S_drew)); exact HO_9.out⟩, ⟨by (try simp only [hl11_3]); (with_reducible repeat (first | apply Kd.R_alloc | apply Kd.R_drewN | apply Kd.R_drew)); exact HO_138.out⟩, ⟨by (try simp only [hl11_3]); (with_reducible repeat (first | apply Kd.R_alloc | apply Kd.R_drewN | apply Kd.R_drew)); exact HO_171000.out⟩, ⟨by (try simp only [hl11_3]); (with_reducible repeat (first | apply Kd.R_alloc | apply Kd.R_drewN | apply Kd.R_drew)); exact HO_208001.out⟩, ⟨by (try simp only [hl11_3]); (with_reducible repeat (first | refine blk_drewN ?_ _ | refine blk_drew ?_ | refine blk_alloc ?_ _)); exact BK163.out⟩, ⟨by (try simp only [hl11_3]); (with_reducible repeat (first | refine blk_drewN ?_ _ | refine blk_drew ?_ | refine blk_alloc ?_ _)); exact BK166.out⟩, ⟨by (try simp only [hl11_3]); (with_reducible repeat (first | refine blk_drewN ?_ _ | refine blk_drew ?_ | refine blk_alloc ?_ _)); exact BK170.out⟩, ⟨by (try simp only [hl11_3]); (with_reducible repeat (first | refine blk_drewN ?_ _ | refine blk_drew ?_ | refine blk_alloc ?_ _)); exact BK207.out⟩, ⟨bw_ HB⟩⟩
                    ·
                     rw [if_neg c133] at H
                     exact absurd H (by simp)
                   ·
                    rw [if_neg c132] at H
                    exact absurd H (by simp)
                  ·
                   rw [if_neg c131] at H
                   have c131b0 : decide (x140_4 < (x11_3.length : Int)) = false := decide_eq_false c131
                   clear c131
                   by_cases c144 : x9_1.length < 4398046511104
                   ·
                    rw [if_pos c144] at H
                    have LMc144 := Aside0.mk c144
                    clear c144
                    obtain ⟨y212, hy212⟩ : ∃ y_ : List (S68), y_ = (x9_1 ++ [(⟨x31_1, x208001_4⟩ : S68)]) := ⟨_, rfl⟩
                    replace H : (flow_Loops.l0 k4 l0 y212 (l0.length : Int) (wrap64 (x31_1 + 1)) t167) = some (r1, r2, r3) := by first | (rw [hy212]; with_reducible exact H) | (have H2_ := (Option.bind_some _ _).symm.trans H; rw [hy212]; with_reducible exact H2_) | (have H2_ := (Option.bind_some _ _).symm.trans H; with_reducible exact H2_) | with_reducible exact H | (rw [hy212]; exact H) | exact H
                    have Ny212 := Aside0.mk hy212
                    clear hy212
                    have H' := Aside0.mk H
                    clear H
                    have hnb145 := NB207_163.out
                    have hnc145 := NB163_207.out
                    have hnb146 := NB207_166.out
                    have hnc146 := NB166_207.out
                    have hnb147 := NB207_170.out
                    have hnc147 := NB170_207.out
                    obtain ⟨hcz148_0, hcz148_1, hfz148_0, hfz148_1⟩ := cz2_ BK207
                    obtain ⟨Ao150, co150, eo150⟩ := Kd.R_slice HO_208001.out
                    subst eo150
                    go_wp2_with (first | ((with_reducible refine gate_builtin (b := .append) (xs := #[.tmp 153, .tmp 155]) rfl ?_); at_builtin; refine Kd.S_append k68 (w0 := w) w.heap.size rfl (.tmp 153) (.tmp 155) 49 68 (.agg #[(.int .i64 0), (.slice none 0 0)]) 32 rfl Try.underlying49 info68 rfl (by decide) (by omega) u9 x9_1 (⟨x31_1, x208001_4⟩ : S68) [.int .i64 x31_1, .slice Ao150 x208001_4.length co150] (fun k_ => some k_ ≠ (.slice Ao22 t167.length co22 : Value).ownBlock ∧ k_ ≠ gb207) (fun k_ => some k_ = (.slice Ao150 x208001_4.length co150 : Value).ownBlock) rfl rfl ?aP (fun k_ hk_ => ((Kd.R_mono (ok' := fun k_ => ((fun k_ => some k_ ≠ (.slice Ao22 t167.length co22 : Value).ownBlock ∧ k_ ≠ gb207)) k_ ∧ some k_ ≠ (u9 : Value).ownBlock) (Kd.R_types (Kd.R_apart' (HO_208001.out) (Kd.S_typed HO_9.out) (by decide)) BK207.out (by decide)) (fun k_ hk => ⟨⟨hk.1.1, hk.2⟩, hk.1.2⟩))).1 k_ hk_.symm) ?aF ?aO ?aB ?aS ?aL ?_; (case aP => exact k68_mkM _ _ _ (⟨x31_1, x208001_4⟩ : S68) (Kd.R_mono (Kd.R_tight rfl (Kd.R_mono (ok' := fun k_ => ((fun k_ => some k_ ≠ (.slice Ao22 t167.length co22 : Value).ownBlock ∧ k_ ≠ gb207)) k_ ∧ some k_ ≠ (u9 : Value).ownBlock) (Kd.R_types (Kd.R_apart' (HO_208001.out) (Kd.S_typed HO_9.out) (by decide)) BK207.out (by decide)) (fun k_ hk => ⟨⟨hk.1.1, hk.2⟩, hk.1.2⟩))) (fun _ h_ => h_))); (case aB => exact (bw_ HB)); (case aF => exact (fun k_ hk => ⟨Kd.fresh' (Kd.R_lt (by (with_reducible repeat (first | apply Kd.R_alloc | apply Kd.R_drewN | apply Kd.R_drew)); exact HO_171000.out)) k_ hk, Kd.freshB (g := gb207) (o := .cells #[.int .i64 x31_1, .slice Ao150 x208001_4.length co150] 68 (0, 0)) (bk_ BK207) k_ hk⟩)); (case aO => exact (by (with_reducible repeat (first | apply Kd.S_alloc | apply Kd.S_drewN | apply Kd.S_drew)); exact Kd.S_mono HO_9.out (fun k_ hk => ⟨⟨hk.1, hk.2.2⟩, fun e_ => hk.2.1 e_⟩))); (case aS => exact (below_size (bw_ HB))); (case aL => have := LMc144.out; omega); intro v213 w149 ho hb hg hat; rw [← Ny212.out] at ho; have n0_ := Aside0.mk (Kd.R_over' (by (with_reducible repeat (first | apply Kd.R_alloc | apply Kd.R_drewN | apply Kd.R_drew)); exact HO_138.out) (Kd.S_typed (by (with_reducible repeat (first | apply Kd.S_alloc | apply Kd.S_drewN | apply Kd.S_drew)); exact HO_9.out)) (by decide) hg); have n1_ := Aside0.mk (Kd.R_over' (by (with_reducible repeat (first | apply Kd.R_alloc | apply Kd.R_drewN | apply Kd.R_drew)); exact HO_171000.out) (Kd.S_typed (by (with_reducible repeat (first | apply Kd.S_alloc | apply Kd.S_drewN | apply Kd.S_drew)); exact HO_9.out)) (by decide) hg); have n2_ := Aside0.mk (blk_grown (g := gb163) (o := .cells #[.int .i64 0, .int .i64 0] 28 (0, 0)) (bk_ BK163) hg (Kd.S_ne HO_9.out BK163.out (by decide))); have n3_ := Aside0.mk (blk_grown (g := gb166) (o := .cells #[.int .i64 t164, .int .i64 t165] 28 (0, 0)) (bk_ BK166) hg (Kd.S_ne HO_9.out BK166.out (by decide))); have n4_ := Aside0.mk (blk_grown (g := gb170) (o := .cells #[.slice Ao22 t167.length co22] 22 (0, 0)) (bk_ BK170) hg (Kd.S_ne HO_9.out BK170.out (by decide))); have n5_ := Aside0.mk (blk_grown (g := gb207) (o := .cells #[.int .i64 x31_1, .slice Ao150 x208001_4.length co150] 68 (0, 0)) (bk_ BK207) hg (Kd.S_away HO_9.out (fun _ hk => hk.2.2))); have n6_ := Aside0.mk (hb); have n7_ := Aside0.mk (ho); clear HO_138; clear HO_171000; clear BK163; clear BK166; clear BK170; clear BK207; clear HB; clear HO_9; clear HO_208001; have HO_138 := n0_; have HO_171000 := n1_; have BK163 := n2_; have BK166 := n3_; have BK170 := n4_; have BK207 := n5_; have HB := n6_; have HO214 := n7_; clear n0_ n1_ n2_ n3_ n4_ n5_ n6_ n7_; clear ho hb hg hat))
                    (try simp only [← hl11_3])
                    go_roundg k4
                    case measure => have := HK1.out; have := HK2.out; have := HK3.out; have := HK4.out; omega
                    case rel => exact ⟨(y212), (wrap64 (x31_1 + 1)), rs_, H', ⟨by have := HK1.out; have := HK2.out; have := HK3.out; have := HK4.out; omega⟩, ⟨by (try simp only [hl11_3]); (with_reducible repeat (first | apply Kd.S_alloc | apply Kd.S_drewN | apply Kd.S_drew)); exact Kd.S_mono HO214.out (fun _ hk => hk.1)⟩, ⟨by (try simp only [hl11_3]); (with_reducible repeat (first | apply Kd.R_alloc | apply Kd.R_drewN | apply Kd.R_drew)); exact Kd.R_mono HO_171000.out (fun _ hk => trivial)⟩, ⟨by (try simp only [hl11_3]); (with_reducible repeat (first | refine blk_drewN ?_ _ | refine blk_drew ?_ | refine blk_alloc ?_ _)); exact BK163.out⟩, ⟨by (try simp only [hl11_3]); (with_reducible repeat (first | refine blk_drewN ?_ _ | refine blk_drew ?_ | refine blk_alloc ?_ _)); exact BK166.out⟩, ⟨by (try simp only [hl11_3]); (with_reducible repeat (first | refine blk_drewN ?_ _ | refine blk_drew ?_ | refine blk_alloc ?_ _)); exact BK170.out⟩, ⟨bw_ HB⟩⟩
                   ·
                    rw [if_neg c144] at H
                    exact absurd H (by simp)
            ·
             rw [if_neg c83] at H
             exact absurd H (by simp)
           ·
            rw [if_neg c82] at H
            exact absurd H (by simp)
      ·
       rw [if_neg c28] at H
       exact absurd H (by simp)
     ·
      rw [if_neg c27] at H
      exact absurd H (by simp)
    ·
     rw [if_neg c26] at H
     have c26b0 : decide (x31_1 < (l0.length : Int)) = false := decide_eq_false c26
     clear c26
     simp only [Option.some.injEq, Prod.mk.injEq] at H
     obtain ⟨rfl, rfl, rfl⟩ := H
     have hnb151 := NB163_166.out
     have hnc151 := NB166_163.out
     have hnb152 := NB163_170.out
     have hnc152 := NB170_163.out
     obtain ⟨hcz153_0, hcz153_1, hfz153_0, hfz153_1⟩ := cz2_ BK163
     go_wp2
     refine bodyPost_ret (results_tc rfl _ _ gb163 28 #[.int .i64 0, .int .i64 0] (0, 0) _ rfl (bk_ BK163) Try.underlying28 rfl (by kernel_rfl)) rfl ?_
     exact ⟨_, by first | rfl | (simp [errW_none, errW_some] <;> rfl) | (simp [*, errW_none, errW_some] <;> rfl), by (with_reducible repeat (first | apply Kd.S_alloc | apply Kd.S_drewN | apply Kd.S_drew)); exact Kd.S_mono (Kd.S_far (p := ⟨gb163, 1, none⟩) (Kd.S_far (p := ⟨gb163, 0, none⟩) (Kd.S_types HO_9.out BK163.out (by decide)) (fun _ hk => hk.2) (.int .i64 0)) (fun _ hk => hk.2) (.int .i64 0)) (fun _ hk => trivial), bw_ HB⟩

end Go.Proofs.Ytaellapacoikaaa.PB
