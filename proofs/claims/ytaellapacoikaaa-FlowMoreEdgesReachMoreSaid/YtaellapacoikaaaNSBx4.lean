import Derived.Test.YtaellapacoikaaaN0
import Derived.Test.YtaellapacoikaaaNSBx0
import Derived.Test.YtaellapacoikaaaNSBx1
import Derived.Test.YtaellapacoikaaaNSBx2
import Derived.Test.YtaellapacoikaaaNSBx3
namespace Go.Proofs.Ytaellapacoikaaa.PB
open Go.RowKit Go.Proofs.YtaellapacoikaaaW.PrintWords Go.Proofs.YtaellapacoikaaaW.PrintLast Go.Proofs.YtaellapacoikaaaW.PrintMore
attribute [local go_sem] max2_int min2_int max_two min_two max_three min_three max_four min_four   -- for this text's walks alone
set_option linter.unusedVariables false
set_option linter.unusedSimpArgs false

attribute [local go_sem high] eqA28
/-! ### flow_Dominators: function 19 -/
set_option maxRecDepth 100000 in
def flow_Dominators.f (k : Nat) (l0 : List (S62)) (a1 : Int) : Option (List Int × Int × Int) := (flow_check.f k l0 a1).bind fun bt127 => (if (!(bt127.1 == 0) || (!(bt127.2 == 0))) = true then (some (([] : List Int), bt127.1, bt127.2)) else ((flow_dominators.f k l0 a1).bind fun t130 => (some (t130, 0, 0))))
set_option maxRecDepth 100000 in
theorem flow_Dominators.mono : ∀ a0 a1 k, LeO (flow_Dominators.f k a0 a1) (flow_Dominators.f (k + 1) a0 a1) := by
 intro a0 a1 k
 unfold flow_Dominators.f
 repeat' first
   | (with_reducible exact flow_check.mono _ _ _)
   | (with_reducible exact flow_dominators.mono _ _ _)
   | (with_reducible exact LeO.refl _)
   | (with_reducible exact LeO.none _)
   | (with_reducible refine LeO.ite ?_ ?_)
   | (with_reducible refine LeO.bind ?_ (fun _ => ?_))
   | exact flow_check.mono _ _ _
   | exact flow_dominators.mono _ _ _
   | exact LeO.none _
   | refine LeO.ite ?_ ?_
   | refine LeO.bind ?_ (fun _ => ?_)
set_option maxHeartbeats 8000000 in
set_option maxRecDepth 100000 in
theorem flow_Dominators.calls (k : Nat) (A0 : Option Addr) (c0 : Nat) (l0 : List (S62)) (a1 : Int) (r1 : List Int) (r2 : Int) (r3 : Int) (w : World) (hr0 : Kd.C k62 w A0 l0.length l0) (hc0 : l0.length ≤ c0) (h : flow_Dominators.f k l0 a1 = some (r1, r2, r3)) :
  Calls Try.prog 19 #[.slice A0 l0.length c0, .int .i64 a1] w fun e w' => ∃ v0_ : Value, e = .returned (.tuple #[v0_, .agg #[.int .i64 r2, .int .i64 r3]]) ∧ Kd.R (Kd.int .i64) 3 w' w.heap.size (fun _ => True) v0_ r1 ∧ Below w.heap.size w w' := by
 have hu28 := Try.underlying28
 have HR0 := Aside0.mk hr0
 have HC0 := Aside0.mk hc0
 clear hr0 hc0
 have HB := Aside0.mk (Below.refl w.heap.size w)
 have H : ((flow_check.f k l0 a1).bind fun bt127 => (if (!(bt127.1 == 0) || (!(bt127.2 == 0))) = true then (some (([] : List Int), bt127.1, bt127.2)) else ((flow_dominators.f k l0 a1).bind fun t130 => (some (t130, 0, 0))))) = some (r1, r2, r3) := h
 clear h
 replace H := Option.bind_eq_some_iff.mp H
 obtain ⟨⟨t127, t128⟩, A30, H⟩ := H
 replace H : (if (!(t127 == 0) || (!(t128 == 0))) = true then (some (([] : List Int), t127, t128)) else ((flow_dominators.f k l0 a1).bind fun t130 => (some (t130, 0, 0)))) = some (r1, r2, r3) := H
 have A3 := Aside0.mk A30
 clear A30
 by_cases c4 : (!(t127 == 0) || (!(t128 == 0))) = true
 ·
  rw [if_pos c4] at H
  have c4b0 : (!(t127 == 0) || (!(t128 == 0))) = true := c4
  clear c4
  simp only [Option.some.injEq, Prod.mk.injEq] at H
  obtain ⟨rfl, rfl, rfl⟩ := H
  go_enter Try.func19, Try.ntmps19
  try go_wp2_with (first | ((with_reducible refine gate_dst (N := 5) rfl ?_); refine bx_ (N := 5) (cs := #[.int .i64 0, .int .i64 0]) (t := 28) ?_; intro gb126 hg w5 hbox hb; have BK126 := Aside0.mk hbox; have GW126 := bs_ HB hg; have GE126 := bs_ HB hg; replace HB := hs_ HB hb; clear hb hbox hg) | ((with_reducible refine gate_callee (f := 42) rfl ?_); refine goesL_ (some 9) rfl rfl Try.func42 (by kernel_rfl) rfl #[.slice A0 l0.length c0, .int .i64 a1] rfl ar_ ?_; (with_reducible refine (flow_check.calls k _ _ l0 a1 t127 t128 _ ?side1 ?side2 A3.out).mono ?_); (case side1 => exact cb_ HR0 HB); (case side2 => exact HC0.out); rintro e w6 ⟨rfl, hb⟩; refine ⟨_, rfl, ?_⟩; replace BK126 := bb_ BK126 hb; replace HB := hs_ HB hb; (try clear hb); (try clear hb2); (try clear hk); (try clear hi)) | ((with_reducible refine gate_dst (N := 6) rfl ?_); refine bx_ (N := 6) (cs := #[.int .i64 0, .int .i64 0]) (t := 28) ?_; intro gb129 hg w7 hbox hb; have BK129 := Aside0.mk hbox; have GW129 := bs_ HB hg; have GE129 := bs_ HB hg; have NB126_129 := nl_ BK126 hg; have NB129_126 := ng_ BK126 hg; replace BK126 := bb_ BK126 hb; replace HB := hs_ HB hb; clear hb hbox hg; have hnb8 := NB129_126.out; have hnc8 := NB126_129.out; obtain ⟨hcz9_0, hcz9_1, hfz9_0, hfz9_1⟩ := cz2_ BK129))
  have n0_ : Aside0 (((w7.setCell ⟨gb129, 0, none⟩ (.int .i64 t127)).setCell ⟨gb129, 1, none⟩ (.int .i64 t128)).heap[gb126]? = some (.cells #[.int .i64 0, .int .i64 0] 28 (0, 0))) := ⟨bk_ BK126⟩
  have n1_ : Aside0 (((w7.setCell ⟨gb129, 0, none⟩ (.int .i64 t127)).setCell ⟨gb129, 1, none⟩ (.int .i64 t128)).heap[gb129]? = some (.cells #[.int .i64 t127, .int .i64 t128] 28 (0, 0))) := ⟨bk_ BK129⟩
  have n2_ : Aside0 (Below w.heap.size w ((w7.setCell ⟨gb129, 0, none⟩ (.int .i64 t127)).setCell ⟨gb129, 1, none⟩ (.int .i64 t128))) := ⟨bw_ HB⟩
  (try clear BK126)
  (try clear BK129)
  (try clear HB)
  generalize ((w7.setCell ⟨gb129, 0, none⟩ (.int .i64 t127)).setCell ⟨gb129, 1, none⟩ (.int .i64 t128)) = w10 at n0_ n1_ n2_ ⊢
  have BK126 := n0_
  have BK129 := n1_
  have HB := n2_
  clear n0_ n1_ n2_
  have n0_ := Aside0.mk (blk_drew BK126.out)
  have n1_ := Aside0.mk (blk_drew BK129.out)
  have n2_ := Aside0.mk (below_drew1 HB.out)
  clear BK126
  clear BK129
  clear HB
  have BK126 := n0_
  have BK129 := n1_
  have HB := n2_
  clear n0_ n1_ n2_
  refine start_ (n := 3) (S := fun w' => w'.cell? ⟨gb129, 0, none⟩ = some (.int .i64 t127) ∧ w'.cell? ⟨gb129, 1, none⟩ = some (.int .i64 t128)) (ds := []) #[false, false, false] (by kernel_rfl) rfl rfl ⟨(blk_cell BK129.out 0).trans rfl, (blk_cell BK129.out 1).trans rfl⟩ (fun hHeld => ?_)
  generalize w10.drew = w11 at BK126 BK129 HB hHeld ⊢
  refine pure_ (i := 1) (N := some 4) (v := ?_) (a' := ?_) #[false, true, false] rfl rfl (by kernel_rfl) (fun _ _ _ h => h) (Or.inl ⟨by rfl, ?_⟩) ?_ ?_
  rotate_left
  ·
   intro w'
   go_simp
   with_reducible rfl
  rotate_left
  ·
   simp only [Act.put, List.setIfInBounds_toArray, List.set_cons_zero, List.set_cons_succ, i64_w, i32_w]
   rfl
  refine take_ (i := 0) (N := some 13) (v := ?_) (a' := ?_) #[true, true, false] rfl rfl (by kernel_rfl) (fun _ _ _ h => h) (Or.inl ⟨by rfl, ?_⟩) hHeld ?_ ?_
  rotate_left
  ·
   rintro w' ⟨s0, s1⟩
   go_simp
   with_reducible rfl
  rotate_left
  ·
   simp only [Act.put, List.setIfInBounds_toArray, List.set_cons_zero, List.set_cons_succ, i64_w, i32_w]
   rfl
  refine one_ (i := 2) (N := none) #[true, true, true] rfl rfl (by kernel_rfl) (by decide) (fun K hK => ?_)
  have hs12 : w11.cell? ⟨gb126, 0, none⟩ = some (.int .i64 0) := (blk_cell BK126.out 0).trans rfl
  have hfs12 := blk_frozen BK126.out 0
  have hns12_1 := NB129_126.out
  have hms12_1 := NB126_129.out
  have hs13 : w11.cell? ⟨gb126, 1, none⟩ = some (.int .i64 0) := (blk_cell BK126.out 1).trans rfl
  have hfs13 := blk_frozen BK126.out 1
  have hns13_1 := NB129_126.out
  have hms13_1 := NB126_129.out
  refine skip_ (w1 := ?_) (by rfl) rfl ?_ ?_
  rotate_left
  ·
   go_simp
   rfl
  refine hK.out _ _ ⟨((cell_far (p := ⟨gb126, _, none⟩) NB129_126.out _).trans (((cell_far (p := ⟨gb126, _, none⟩) NB129_126.out _).trans (hHeld.1)))), ((cell_far (p := ⟨gb126, _, none⟩) NB129_126.out _).trans (((cell_far (p := ⟨gb126, _, none⟩) NB129_126.out _).trans (hHeld.2))))⟩ (fun hHeld => ?_)
  clear hK K
  refine done_ (by kernel_rfl) ?_
  try go_wp2
  refine bodyPost_ret (results_tc rfl _ _ gb126 28 #[.int .i64 t127, .int .i64 t128] (0, 0) _ rfl (bk_ BK126) Try.underlying28 rfl (by kernel_rfl)) rfl ?_
  exact ⟨_, by first | rfl | (simp [errW_none, errW_some] <;> rfl) | (simp [*, errW_none, errW_some] <;> rfl), by first | exact Kd.R_nil _ _ _ _ _ | exact Kd.N_nil _ _ _ _ _ | exact Kd.V_nil _ _ _ _ _ | exact Kd.Q_nil _ _ _ _ _ | exact Kd.S_nil _ _ _ _ _, bw_ HB⟩
 ·
  rw [if_neg c4] at H
  have c4b0 : (!(t127 == 0) || (!(t128 == 0))) = false := by simpa using c4
  clear c4
  replace H := Option.bind_eq_some_iff.mp H
  obtain ⟨t130, A140, H⟩ := H
  replace H : (some (t130, 0, 0)) = some (r1, r2, r3) := H
  have A14 := Aside0.mk A140
  clear A140
  simp only [Option.some.injEq, Prod.mk.injEq] at H
  obtain ⟨rfl, rfl, rfl⟩ := H
  go_enter Try.func19, Try.ntmps19
  go_wp2_with (first | ((with_reducible refine gate_dst (N := 5) rfl ?_); refine bx_ (N := 5) (cs := #[.int .i64 0, .int .i64 0]) (t := 28) ?_; intro gb126 hg w15 hbox hb; have BK126 := Aside0.mk hbox; have GW126 := bs_ HB hg; have GE126 := bs_ HB hg; replace HB := hs_ HB hb; clear hb hbox hg) | ((with_reducible refine gate_callee (f := 42) rfl ?_); refine goesL_ (some 9) rfl rfl Try.func42 (by kernel_rfl) rfl #[.slice A0 l0.length c0, .int .i64 a1] rfl ar_ ?_; (with_reducible refine (flow_check.calls k _ _ l0 a1 t127 t128 _ ?side1 ?side2 A3.out).mono ?_); (case side1 => exact cb_ HR0 HB); (case side2 => exact HC0.out); rintro e w16 ⟨rfl, hb⟩; refine ⟨_, rfl, ?_⟩; replace BK126 := bb_ BK126 hb; replace HB := hs_ HB hb; (try clear hb); (try clear hb2); (try clear hk); (try clear hi)) | ((with_reducible refine gate_dst (N := 6) rfl ?_); refine bx_ (N := 6) (cs := #[.int .i64 0, .int .i64 0]) (t := 28) ?_; intro gb129 hg w17 hbox hb; have BK129 := Aside0.mk hbox; have GW129 := bs_ HB hg; have GE129 := bs_ HB hg; have NB126_129 := nl_ BK126 hg; have NB129_126 := ng_ BK126 hg; replace BK126 := bb_ BK126 hb; replace HB := hs_ HB hb; clear hb hbox hg; have hnb18 := NB129_126.out; have hnc18 := NB126_129.out; obtain ⟨hcz19_0, hcz19_1, hfz19_0, hfz19_1⟩ := cz2_ BK129) | ((with_reducible refine gate_callee (f := 43) rfl ?_); refine goesL_ (some 16) rfl rfl Try.func43 (by kernel_rfl) rfl #[.slice A0 l0.length c0, .int .i64 a1] rfl ar_ ?_; (with_reducible refine (flow_dominators.calls k _ _ l0 a1 t130 _ ?side1 ?side2 A14.out).mono ?_); (case side1 => exact cb_ HR0 HB); (case side2 => exact HC0.out); rintro e w20 ⟨v131, rfl, ho0, hb⟩; refine ⟨_, rfl, ?_⟩; have n0_ := Aside0.mk (Kd.R_lower ho0 (below_size (bw_ HB))); have n1_ := Aside0.mk (blk_below (g := gb126) (o := .cells #[.int .i64 0, .int .i64 0] 28 (0, 0)) (bk_ BK126) hb); have n2_ := Aside0.mk (blk_below (g := gb129) (o := .cells #[.int .i64 t127, .int .i64 t128] 28 (0, 0)) (bk_ BK129) hb); have n3_ := Aside0.mk (below_step (bw_ HB) hb); clear BK126; clear BK129; clear HB; have HO132 := n0_; have BK126 := n1_; have BK129 := n2_; have HB := n3_; clear n0_ n1_ n2_ n3_; (try clear hb); (try clear hb2); (try clear hk); (try clear hi); (try clear ho0); obtain ⟨hcz21_0, hcz21_1, hfz21_0, hfz21_1⟩ := cz2_ BK126))
  refine bodyPost_ret (results_tc rfl _ _ gb126 28 #[.int .i64 0, .int .i64 0] (0, 0) _ rfl (bk_ BK126) Try.underlying28 rfl (by kernel_rfl)) rfl ?_
  exact ⟨_, by first | rfl | (simp [errW_none, errW_some] <;> rfl) | (simp [*, errW_none, errW_some] <;> rfl), by (with_reducible repeat (first | apply Kd.R_alloc | apply Kd.R_drewN | apply Kd.R_drew)); exact Kd.R_mono (Kd.R_far (p := ⟨gb126, 1, none⟩) (Kd.R_far (p := ⟨gb126, 0, none⟩) (Kd.R_types HO132.out BK126.out (by decide)) (fun _ hk => hk.2) (.int .i64 0)) (fun _ hk => hk.2) (.int .i64 0)) (fun _ hk => trivial), bw_ HB⟩

/-! ### linkhouseref7_In: function 16 -/
set_option maxRecDepth 100000 in
def linkhouseref7_In.f (a0 : Int) (a1 : Int) (a2 : Int) : Option (Bool) := if a1 ≤ a0 then (some (decide (a0 ≤ a2))) else (some false)
set_option maxHeartbeats 8000000 in
set_option maxRecDepth 100000 in
theorem linkhouseref7_In.calls (a0 : Int) (a1 : Int) (a2 : Int) (r : Bool) (w : World) (h : linkhouseref7_In.f a0 a1 a2 = some r) :
  Calls Try.prog 16 #[.int .i64 a0, .int .i64 a1, .int .i64 a2] w fun e w' => e = .returned (.bool r) ∧ Drawn0 w w' := by
 have H : (if a1 ≤ a0 then (some (decide (a0 ≤ a2))) else (some false)) = some r := h
 clear h
 by_cases c4 : a1 ≤ a0
 ·
  rw [if_pos c4] at H
  have c4b0 : decide (a1 ≤ a0) = true := decide_eq_true c4
  clear c4
  obtain rfl := Option.some.inj H
  go_enter Try.func16, Try.ntmps16
  go_wp2
  go_ret
  exact ⟨by first | rfl | (simp; done) | (simp [*]; done), by repeat (first | exact Drawn0.refl _ | apply Drawn0.step)⟩
 ·
  rw [if_neg c4] at H
  have c4b0 : decide (a1 ≤ a0) = false := decide_eq_false c4
  clear c4
  obtain rfl := Option.some.inj H
  go_enter Try.func16, Try.ntmps16
  go_wp2
  go_ret
  exact ⟨by first | rfl | (simp; done) | (simp [*]; done), by repeat (first | exact Drawn0.refl _ | apply Drawn0.step)⟩

/-! ### linkhouseref7_At: function 17 -/
set_option maxRecDepth 100000 in
def linkhouseref7_At.f (a0 : Int) (a1 : Int) : Option (Int × Int) := some (a0, a1)
set_option maxHeartbeats 8000000 in
set_option maxRecDepth 100000 in
theorem linkhouseref7_At.calls (a0 : Int) (a1 : Int) (r1 : Int) (r2 : Int) (w : World) (h : linkhouseref7_At.f a0 a1 = some (r1, r2)) :
  Calls Try.prog 17 #[.int .i64 a0, .int .i64 a1] w fun e w' => e = .returned (.agg #[.int .i64 r1, .int .i64 r2]) ∧ Below w.heap.size w w' := by
 have hu28 := Try.underlying28
 have HB := Aside0.mk (Below.refl w.heap.size w)
 have H : (some (a0, a1)) = some (r1, r2) := h
 clear h
 simp only [Option.some.injEq, Prod.mk.injEq] at H
 obtain ⟨rfl, rfl⟩ := H
 go_enter Try.func17, Try.ntmps17
 go_wp2_with (first | ((with_reducible refine gate_dst (N := 4) rfl ?_); refine bx_ (N := 4) (cs := #[.int .i64 0, .int .i64 0]) (t := 28) ?_; intro gb133 hg w3 hbox hb; have BK133 := Aside0.mk hbox; have GW133 := bs_ HB hg; have GE133 := bs_ HB hg; replace HB := hs_ HB hb; clear hb hbox hg; obtain ⟨hcz4_0, hcz4_1, hfz4_0, hfz4_1⟩ := cz2_ BK133))
 refine bodyPost_ret (results_cell_row rfl _ _ gb133 28 #[.int .i64 a0, .int .i64 a1] (0, 0) _ rfl (bk_ BK133) Try.underlying28 rfl (by kernel_rfl)) rfl ?_
 exact ⟨id_, bw_ HB⟩

/-! ### linkhouseref7_GraphFault: function 29 -/
set_option maxRecDepth 100000 in
mutual
def linkhouseref7_GraphFault.l0 : Nat → List (S62) → Int → Int → Option (Int × Int)
 | 0, _, _, _ => none
 | k + 1, x0, x3, x4 => if x4 < (x0.length : Int) then (if 0 ≤ x4 then (if (wrap64 (x3 + (((rd_T62 x0 x4).f3).length : Int))) > 300 then ((linkhouseref7_At.f 2 x4).bind fun bt138 => (some (bt138.1, bt138.2))) else (linkhouseref7_GraphFault.l1 k x0 (wrap64 (x3 + (((rd_T62 x0 x4).f3).length : Int))) x4 0)) else (none)) else (some (0, 0))
def linkhouseref7_GraphFault.l1 : Nat → List (S62) → Int → Int → Int → Option (Int × Int)
 | 0, _, _, _, _ => none
 | k + 1, x0, x3, x4, x5 => if 0 ≤ x4 then (if x4 < (x0.length : Int) then (if x5 < (((rd_T62 x0 x4).f3).length : Int) then (if 0 ≤ x5 then ((linkhouseref7_In.f ((rd_T64 ((rd_T62 x0 x4).f3) x5).f0) 1 3).bind fun t143 => (if t143 = true then ((linkhouseref7_In.f ((rd_T64 ((rd_T62 x0 x4).f3) x5).f1) (-1) (wrap64 ((x0.length : Int) - 1))).bind fun t148 => (if t148 = true then (linkhouseref7_GraphFault.l1 k x0 x3 x4 (wrap64 (x5 + 1))) else ((linkhouseref7_At.f 3 x4).bind fun bt149 => (some (bt149.1, bt149.2))))) else ((linkhouseref7_At.f 4 x4).bind fun bt144 => (some (bt144.1, bt144.2))))) else (none)) else (linkhouseref7_GraphFault.l0 k x0 x3 (wrap64 (x4 + 1)))) else (none)) else (none)
end
set_option maxRecDepth 100000 in
def linkhouseref7_GraphFault.f (k : Nat) (l0 : List (S62)) : Option (Int × Int) := if (l0.length : Int) > 100 then ((linkhouseref7_At.f 2 (-1)).bind fun bt135 => (some (bt135.1, bt135.2))) else (linkhouseref7_GraphFault.l0 k l0 0 0)
set_option maxRecDepth 100000 in
theorem linkhouseref7_GraphFault.mono_l : ∀ k, (∀ y0 y1 y2, LeO (linkhouseref7_GraphFault.l0 k y0 y1 y2) (linkhouseref7_GraphFault.l0 (k + 1) y0 y1 y2)) ∧ (∀ y0 y1 y2 y3, LeO (linkhouseref7_GraphFault.l1 k y0 y1 y2 y3) (linkhouseref7_GraphFault.l1 (k + 1) y0 y1 y2 y3))
 | 0 => ⟨fun _ _ _ r h => by simp [linkhouseref7_GraphFault.l0] at h, fun _ _ _ _ r h => by simp [linkhouseref7_GraphFault.l1] at h⟩
 | k + 1 => by
  obtain ⟨ih0, ih1⟩ := linkhouseref7_GraphFault.mono_l k
  refine ⟨?_, ?_⟩
  ·
   intro y0 y1 y2
   unfold linkhouseref7_GraphFault.l0
   repeat' first
   | (with_reducible exact ih0 _ _ _)
   | (with_reducible exact ih1 _ _ _ _)
   | (with_reducible exact LeO.refl _)
   | (with_reducible exact LeO.none _)
   | (with_reducible refine LeO.ite ?_ ?_)
   | (with_reducible refine LeO.bind ?_ (fun _ => ?_))
   | exact ih0 _ _ _
   | exact ih1 _ _ _ _
   | exact LeO.none _
   | refine LeO.ite ?_ ?_
   | refine LeO.bind ?_ (fun _ => ?_)
  ·
   intro y0 y1 y2 y3
   unfold linkhouseref7_GraphFault.l1
   repeat' first
   | (with_reducible exact ih0 _ _ _)
   | (with_reducible exact ih1 _ _ _ _)
   | (with_reducible exact LeO.refl _)
   | (with_reducible exact LeO.none _)
   | (with_reducible refine LeO.ite ?_ ?_)
   | (with_reducible refine LeO.bind ?_ (fun _ => ?_))
   | exact ih0 _ _ _
   | exact ih1 _ _ _ _
   | exact LeO.none _
   | refine LeO.ite ?_ ?_
   | refine LeO.bind ?_ (fun _ => ?_)
set_option maxRecDepth 100000 in
theorem linkhouseref7_GraphFault.mono : ∀ a0 k, LeO (linkhouseref7_GraphFault.f k a0) (linkhouseref7_GraphFault.f (k + 1) a0) := by
 intro a0 k
 obtain ⟨ih0, ih1⟩ := linkhouseref7_GraphFault.mono_l k
 unfold linkhouseref7_GraphFault.f
 repeat' first
   | (with_reducible exact ih0 _ _ _)
   | (with_reducible exact ih1 _ _ _ _)
   | (with_reducible exact LeO.refl _)
   | (with_reducible exact LeO.none _)
   | (with_reducible refine LeO.ite ?_ ?_)
   | (with_reducible refine LeO.bind ?_ (fun _ => ?_))
   | exact ih0 _ _ _
   | exact ih1 _ _ _ _
   | exact LeO.none _
   | refine LeO.ite ?_ ?_
   | refine LeO.bind ?_ (fun _ => ?_)
set_option maxHeartbeats 8000000 in
set_option maxRecDepth 100000 in
theorem linkhouseref7_GraphFault.calls (k : Nat) (A0 : Option Addr) (c0 : Nat) (l0 : List (S62)) (r1 : Int) (r2 : Int) (w : World) (hr0 : Kd.C k62 w A0 l0.length l0) (hc0 : l0.length ≤ c0) (h : linkhouseref7_GraphFault.f k l0 = some (r1, r2)) :
  Calls Try.prog 29 #[.slice A0 l0.length c0] w fun e w' => e = .returned (.agg #[.int .i64 r1, .int .i64 r2]) ∧ Below w.heap.size w w' := by
 have hu28 := Try.underlying28
 have HR0 := Aside0.mk hr0
 have HC0 := Aside0.mk hc0
 clear hr0 hc0
 have HB := Aside0.mk (Below.refl w.heap.size w)
 have H : (if (l0.length : Int) > 100 then ((linkhouseref7_At.f 2 (-1)).bind fun bt135 => (some (bt135.1, bt135.2))) else (linkhouseref7_GraphFault.l0 k l0 0 0)) = some (r1, r2) := h
 clear h
 by_cases c2 : (l0.length : Int) > 100
 ·
  rw [if_pos c2] at H
  have c2b0 : decide (100 < (l0.length : Int)) = true := decide_eq_true c2
  have c2b1 : decide (100 < l0.length) = true := decide_eq_true (by omega)
  clear c2
  replace H := Option.bind_eq_some_iff.mp H
  obtain ⟨⟨t135, t136⟩, A30, H⟩ := H
  replace H : (some (t135, t136)) = some (r1, r2) := H
  have A3 := Aside0.mk A30
  clear A30
  simp only [Option.some.injEq, Prod.mk.injEq] at H
  obtain ⟨rfl, rfl⟩ := H
  go_enter Try.func29, Try.ntmps29
  go_wp2_with (first | ((with_reducible refine gate_dst (N := 2) rfl ?_); refine bx_ (N := 2) (cs := #[.int .i64 0, .int .i64 0]) (t := 28) ?_; intro gb134 hg w4 hbox hb; have BK134 := Aside0.mk hbox; have GW134 := bs_ HB hg; have GE134 := bs_ HB hg; replace HB := hs_ HB hb; clear hb hbox hg) | ((with_reducible refine gate_callee (f := 17) rfl ?_); refine goesL_ (some 9) rfl rfl Try.func17 (by kernel_rfl) rfl #[.int .i64 2, .int .i64 (-1)] rfl ar_ ?_; (with_reducible refine (linkhouseref7_At.calls 2 (-1) t135 t136 _ A3.out).mono ?_); rintro e w5 ⟨rfl, hb⟩; refine ⟨_, rfl, ?_⟩; replace BK134 := bb_ BK134 hb; replace HB := hs_ HB hb; (try clear hb); (try clear hb2); (try clear hk); (try clear hi); obtain ⟨hcz6_0, hcz6_1, hfz6_0, hfz6_1⟩ := cz2_ BK134))
  refine bodyPost_ret (results_cell_row rfl _ _ gb134 28 #[.int .i64 t135, .int .i64 t136] (0, 0) _ rfl (bk_ BK134) Try.underlying28 rfl (by kernel_rfl)) rfl ?_
  exact ⟨id_, bw_ HB⟩
 ·
  rw [if_neg c2] at H
  have c2b0 : decide (100 < (l0.length : Int)) = false := decide_eq_false c2
  have c2b1 : decide (100 < l0.length) = false := decide_eq_false (by omega)
  clear c2
  have H' := Aside0.mk H
  clear H
  go_enter Try.func29, Try.ntmps29
  go_wp2_with (first | ((with_reducible refine gate_dst (N := 2) rfl ?_); refine bx_ (N := 2) (cs := #[.int .i64 0, .int .i64 0]) (t := 28) ?_; intro gb134 hg w7 hbox hb; have BK134 := Aside0.mk hbox; have GW134 := bs_ HB hg; have GE134 := bs_ HB hg; replace HB := hs_ HB hb; clear hb hbox hg))
  go_loopg [3, 4] k (fun kq v3 v4 w' => ∃ (x3_1 : Int) (x4_1 : Int) (x135000_1 : Int) (x135001_1 : Int), v3 = .int .i64 x3_1 ∧ v4 = .int .i64 x4_1 ∧ Aside0 (linkhouseref7_GraphFault.l0 kq l0 x3_1 x4_1 = some (r1, r2)) ∧ Aside0 (kq ≤ k) ∧ Aside0 (w'.heap[gb134]? = some (.cells #[.int .i64 x135000_1, .int .i64 x135001_1] 28 (0, 0))) ∧ Aside0 (Below w.heap.size w w'))
  case atStart => exact ⟨(0), (0), (0), (0), rs_, rs_, H', ⟨Nat.le_refl _⟩, ⟨bk_ BK134⟩, ⟨bw_ HB⟩⟩
  case round =>
   clear H'
   (try clear c1); (try clear c2); (try clear c2b0); (try clear c2b1); (try clear p2); (try clear hcz6_0); (try clear hcz6_1); (try clear hfz6_0); (try clear hfz6_1)
   obtain ⟨x3_1, x4_1, x135000_1, x135001_1, rfl, rfl, HA, HK1, BK134, HB⟩ := hrel
   cases gk with
   | zero => exact absurd HA.out (by simp [linkhouseref7_GraphFault.l0])
   | succ k1 =>
    have H := HA.out
    clear HA
    simp only [linkhouseref7_GraphFault.l0] at H
    by_cases c8 : x4_1 < (l0.length : Int)
    ·
     rw [if_pos c8] at H
     have c8b0 : decide (x4_1 < (l0.length : Int)) = true := decide_eq_true c8
     clear c8
     by_cases c9 : 0 ≤ x4_1
     ·
      rw [if_pos c9] at H
      have c9b0 : decide (0 ≤ x4_1) = true := decide_eq_true c9
      clear c9
      by_cases c10 : (wrap64 (x3_1 + (((rd_T62 l0 x4_1).f3).length : Int))) > 300
      ·
       rw [if_pos c10] at H
       have c10b0 : decide (300 < (wrap64 (x3_1 + (((rd_T62 l0 x4_1).f3).length : Int)))) = true := decide_eq_true c10
       clear c10
       replace H := Option.bind_eq_some_iff.mp H
       obtain ⟨⟨t138, t139⟩, A110, H⟩ := H
       replace H : (some (t138, t139)) = some (r1, r2) := H
       have A11 := Aside0.mk A110
       clear A110
       simp only [Option.some.injEq, Prod.mk.injEq] at H
       obtain ⟨rfl, rfl⟩ := H
       have p137 : 0 ≤ (x4_1 : Int) := of_decide_eq_true (by first | (with_reducible assumption) | assumption)
       have q137 : x4_1 < (l0.length : Int) := of_decide_eq_true (by first | (with_reducible assumption) | assumption)
       obtain ⟨ad137, A137_3, c137_3, e137, hx137_0, hx137_1, hx137_2, hx137_3, hl137_3, hi137_3⟩ := at_T62 HR0.out x4_1 p137 q137
       cases e137
       replace hx137_0 := (HB.out.cell (World.block_lt_of_cell? w _ hx137_0)).trans hx137_0
       replace hx137_1 := (HB.out.cell (World.block_lt_of_cell? w _ hx137_1)).trans hx137_1
       replace hx137_2 := (HB.out.cell (World.block_lt_of_cell? w _ hx137_2)).trans hx137_2
       replace hx137_3 := (HB.out.cell (World.block_lt_of_cell? w _ hx137_3)).trans hx137_3
       have HR137_3 := Aside0.mk hi137_3
       have HC137_3 := Aside0.mk hl137_3
       clear hi137_3 hl137_3
       replace p137 := eq_true p137
       replace q137 := eq_true q137
       go_wp2_with (first | ((with_reducible refine gate_callee (f := 17) rfl ?_); refine goesL_ (some 27) rfl rfl Try.func17 (by kernel_rfl) rfl #[.int .i64 2, .int .i64 x4_1] rfl ar_ ?_; (with_reducible refine (linkhouseref7_At.calls 2 x4_1 t138 t139 _ A11.out).mono ?_); rintro e w12 ⟨rfl, hb⟩; refine ⟨_, rfl, ?_⟩; replace BK134 := bb_ BK134 hb; replace HB := hs_ HB hb; (try clear hb); (try clear hb2); (try clear hk); (try clear hi); obtain ⟨hcz13_0, hcz13_1, hfz13_0, hfz13_1⟩ := cz2_ BK134))
       refine bodyPost_ret (results_cell_row rfl _ _ gb134 28 #[.int .i64 t138, .int .i64 t139] (0, 0) _ rfl (bk_ BK134) Try.underlying28 rfl (by kernel_rfl)) rfl ?_
       exact ⟨id_, bw_ HB⟩
      ·
       rw [if_neg c10] at H
       have c10b0 : decide (300 < (wrap64 (x3_1 + (((rd_T62 l0 x4_1).f3).length : Int)))) = false := decide_eq_false c10
       clear c10
       have H' := Aside0.mk H
       clear H
       have p137 : 0 ≤ (x4_1 : Int) := of_decide_eq_true (by first | (with_reducible assumption) | assumption)
       have q137 : x4_1 < (l0.length : Int) := of_decide_eq_true (by first | (with_reducible assumption) | assumption)
       obtain ⟨ad137, A137_3, c137_3, e137, hx137_0, hx137_1, hx137_2, hx137_3, hl137_3, hi137_3⟩ := at_T62 HR0.out x4_1 p137 q137
       cases e137
       replace hx137_0 := (HB.out.cell (World.block_lt_of_cell? w _ hx137_0)).trans hx137_0
       replace hx137_1 := (HB.out.cell (World.block_lt_of_cell? w _ hx137_1)).trans hx137_1
       replace hx137_2 := (HB.out.cell (World.block_lt_of_cell? w _ hx137_2)).trans hx137_2
       replace hx137_3 := (HB.out.cell (World.block_lt_of_cell? w _ hx137_3)).trans hx137_3
       have HR137_3 := Aside0.mk hi137_3
       have HC137_3 := Aside0.mk hl137_3
       clear hi137_3 hl137_3
       replace p137 := eq_true p137
       replace q137 := eq_true q137
       go_wp2
       go_loopg [5] k1 (fun kq v5 w' => ∃ (x5_2 : Int) (x135000_2 : Int) (x135001_2 : Int), v5 = .int .i64 x5_2 ∧ Aside0 (linkhouseref7_GraphFault.l1 kq l0 (wrap64 (x3_1 + (((rd_T62 l0 x4_1).f3).length : Int))) x4_1 x5_2 = some (r1, r2)) ∧ Aside0 (kq ≤ k1) ∧ Aside0 (w'.heap[gb134]? = some (.cells #[.int .i64 x135000_2, .int .i64 x135001_2] 28 (0, 0))) ∧ Aside0 (Below w.heap.size w w'))
       case atStart => exact ⟨(0), (x135000_1), (x135001_1), rs_, H', ⟨Nat.le_refl _⟩, ⟨bk_ BK134⟩, ⟨bw_ HB⟩⟩
       case round =>
        clear H'
        (try clear c1); (try clear p1); (try clear q1); (try clear hx1); (try clear c2); (try clear c2b0); (try clear c2b1); (try clear p2); (try clear p6); (try clear c8); (try clear c8b0); (try clear c9); (try clear c9b0); (try clear c10); (try clear c10b0); (try clear c13); (try clear p13); (try clear q13); (try clear hx13); (try clear hcz13_0); (try clear hcz13_1); (try clear hcz6_0); (try clear hcz6_1); (try clear hfz13_0); (try clear hfz13_1); (try clear hfz6_0); (try clear hfz6_1); (try clear hx137_0); (try clear hx137_1); (try clear hx137_2); (try clear hx137_3); (try clear p137); (try clear p2); (try clear q137)
        obtain ⟨x5_2, x135000_2, x135001_2, rfl, HA, HK2, BK134, HB⟩ := hrel
        cases gk with
        | zero => exact absurd HA.out (by simp [linkhouseref7_GraphFault.l1])
        | succ k2 =>
         have H := HA.out
         clear HA
         simp only [linkhouseref7_GraphFault.l1] at H
         by_cases c14 : 0 ≤ x4_1
         ·
          rw [if_pos c14] at H
          have c14b0 : decide (0 ≤ x4_1) = true := decide_eq_true c14
          clear c14
          by_cases c15 : x4_1 < (l0.length : Int)
          ·
           rw [if_pos c15] at H
           have c15b0 : decide (x4_1 < (l0.length : Int)) = true := decide_eq_true c15
           clear c15
           by_cases c16 : x5_2 < (((rd_T62 l0 x4_1).f3).length : Int)
           ·
            rw [if_pos c16] at H
            have c16b0 : decide (x5_2 < (((rd_T62 l0 x4_1).f3).length : Int)) = true := decide_eq_true c16
            clear c16
            by_cases c17 : 0 ≤ x5_2
            ·
             rw [if_pos c17] at H
             have c17b0 : decide (0 ≤ x5_2) = true := decide_eq_true c17
             clear c17
             replace H := Option.bind_eq_some_iff.mp H
             obtain ⟨t143, A180, H⟩ := H
             replace H : (if t143 = true then ((linkhouseref7_In.f ((rd_T64 ((rd_T62 l0 x4_1).f3) x5_2).f1) (-1) (wrap64 ((l0.length : Int) - 1))).bind fun t148 => (if t148 = true then (linkhouseref7_GraphFault.l1 k2 l0 (wrap64 (x3_1 + (((rd_T62 l0 x4_1).f3).length : Int))) x4_1 (wrap64 (x5_2 + 1))) else ((linkhouseref7_At.f 3 x4_1).bind fun bt149 => (some (bt149.1, bt149.2))))) else ((linkhouseref7_At.f 4 x4_1).bind fun bt144 => (some (bt144.1, bt144.2)))) = some (r1, r2) := H
             have A18 := Aside0.mk A180
             clear A180
             by_cases c19 : t143 = true
             ·
              subst c19
              have H1 : ((linkhouseref7_In.f ((rd_T64 ((rd_T62 l0 x4_1).f3) x5_2).f1) (-1) (wrap64 ((l0.length : Int) - 1))).bind fun t148 => (if t148 = true then (linkhouseref7_GraphFault.l1 k2 l0 (wrap64 (x3_1 + (((rd_T62 l0 x4_1).f3).length : Int))) x4_1 (wrap64 (x5_2 + 1))) else ((linkhouseref7_At.f 3 x4_1).bind fun bt149 => (some (bt149.1, bt149.2))))) = some (r1, r2) := by rw [if_pos rfl] at H; exact H
              clear H
              have H := H1
              clear H1
              replace H := Option.bind_eq_some_iff.mp H
              obtain ⟨t148, A200, H⟩ := H
              replace H : (if t148 = true then (linkhouseref7_GraphFault.l1 k2 l0 (wrap64 (x3_1 + (((rd_T62 l0 x4_1).f3).length : Int))) x4_1 (wrap64 (x5_2 + 1))) else ((linkhouseref7_At.f 3 x4_1).bind fun bt149 => (some (bt149.1, bt149.2)))) = some (r1, r2) := H
              have A20 := Aside0.mk A200
              clear A200
              by_cases c21 : t148 = true
              ·
               subst c21
               have H1 : (linkhouseref7_GraphFault.l1 k2 l0 (wrap64 (x3_1 + (((rd_T62 l0 x4_1).f3).length : Int))) x4_1 (wrap64 (x5_2 + 1))) = some (r1, r2) := by rw [if_pos rfl] at H; exact H
               clear H
               have H := H1
               clear H1
               have H' := Aside0.mk H
               clear H
               have p140 : 0 ≤ (x4_1 : Int) := of_decide_eq_true (by first | (with_reducible assumption) | assumption)
               have q140 : x4_1 < (l0.length : Int) := of_decide_eq_true (by first | (with_reducible assumption) | assumption)
               obtain ⟨ad140, A140_3, c140_3, e140, hx140_0, hx140_1, hx140_2, hx140_3, hl140_3, hi140_3⟩ := at_T62 HR0.out x4_1 p140 q140
               obtain rfl : ad137 = ad140 := (by injection e140)
               replace hx140_0 := (HB.out.cell (World.block_lt_of_cell? w _ hx140_0)).trans hx140_0
               replace hx140_1 := (HB.out.cell (World.block_lt_of_cell? w _ hx140_1)).trans hx140_1
               replace hx140_2 := (HB.out.cell (World.block_lt_of_cell? w _ hx140_2)).trans hx140_2
               have hw140_3 := Aside0.mk hx140_3; replace hx140_3 := (HB.out.cell (World.block_lt_of_cell? w _ hx140_3)).trans hx140_3
               have HR140_3 := Aside0.mk hi140_3
               have HC140_3 := Aside0.mk hl140_3
               clear hi140_3 hl140_3
               replace p140 := eq_true p140
               replace q140 := eq_true q140
               have p141 : 0 ≤ (x4_1 : Int) := of_decide_eq_true (by first | (with_reducible assumption) | assumption)
               have q141 : x4_1 < (l0.length : Int) := of_decide_eq_true (by first | (with_reducible assumption) | assumption)
               obtain ⟨ad141, A141_3, c141_3, e141, hx141_0, hx141_1, hx141_2, hx141_3, hl141_3, hi141_3⟩ := at_T62 HR0.out x4_1 p141 q141
               obtain rfl : ad137 = ad141 := (by injection e141)
               replace hx141_0 := (HB.out.cell (World.block_lt_of_cell? w _ hx141_0)).trans hx141_0
               replace hx141_1 := (HB.out.cell (World.block_lt_of_cell? w _ hx141_1)).trans hx141_1
               replace hx141_2 := (HB.out.cell (World.block_lt_of_cell? w _ hx141_2)).trans hx141_2
               have hw141_3 := Aside0.mk hx141_3; replace hx141_3 := (HB.out.cell (World.block_lt_of_cell? w _ hx141_3)).trans hx141_3
               have HR141_3 := Aside0.mk hi141_3
               have HC141_3 := Aside0.mk hl141_3
               clear hi141_3 hl141_3
               replace p141 := eq_true p141
               replace q141 := eq_true q141
               have ea_ := Option.some.inj (hw140_3.out.symm.trans hw141_3.out)
               injection ea_ with ea_ en_ ec_
               subst ea_
               subst ec_
               clear en_
               have p142 : 0 ≤ (x5_2 : Int) := of_decide_eq_true (by first | (with_reducible assumption) | assumption)
               have q142 : x5_2 < (((rd_T62 l0 x4_1).f3).length : Int) := of_decide_eq_true (by first | (with_reducible assumption) | assumption)
               obtain ⟨ad142, e142, hx142_0, hx142_1⟩ := at_T64 HR141_3.out x5_2 p142 q142
               cases e142
               replace hx142_0 := (HB.out.cell (World.block_lt_of_cell? w _ hx142_0)).trans hx142_0
               replace hx142_1 := (HB.out.cell (World.block_lt_of_cell? w _ hx142_1)).trans hx142_1
               replace p142 := eq_true p142
               replace q142 := eq_true q142
               go_wp2_with (first | ((with_reducible refine gate_callee (f := 16) rfl ?_); refine goesL_ (some 47) rfl rfl Try.func16 (by kernel_rfl) rfl #[.int .i64 ((rd_T64 ((rd_T62 l0 x4_1).f3) x5_2).f0), .int .i64 1, .int .i64 3] rfl ar_ ?_; (with_reducible refine (linkhouseref7_In.calls ((rd_T64 ((rd_T62 l0 x4_1).f3) x5_2).f0) 1 3 true _ A18.out).mono ?_); rintro e w' ⟨rfl, ⟨nd, rfl⟩⟩; refine ⟨_, rfl, ?_⟩; have p146 : 0 ≤ (x4_1 : Int) := of_decide_eq_true (by first | (with_reducible assumption) | assumption); have q146 : x4_1 < (l0.length : Int) := of_decide_eq_true (by first | (with_reducible assumption) | assumption); obtain ⟨ad146, A146_3, c146_3, e146, hx146_0, hx146_1, hx146_2, hx146_3, hl146_3, hi146_3⟩ := at_T62 HR0.out x4_1 p146 q146; obtain rfl : ad137 = ad146 := (by injection e146); replace hx146_0 := (HB.out.cell (World.block_lt_of_cell? w _ hx146_0)).trans hx146_0; replace hx146_1 := (HB.out.cell (World.block_lt_of_cell? w _ hx146_1)).trans hx146_1; replace hx146_2 := (HB.out.cell (World.block_lt_of_cell? w _ hx146_2)).trans hx146_2; have hw146_3 := Aside0.mk hx146_3; replace hx146_3 := (HB.out.cell (World.block_lt_of_cell? w _ hx146_3)).trans hx146_3; have HR146_3 := Aside0.mk hi146_3; have HC146_3 := Aside0.mk hl146_3; clear hi146_3 hl146_3; replace p146 := eq_true p146; replace q146 := eq_true q146; have ea_ := Option.some.inj (hw140_3.out.symm.trans hw146_3.out); injection ea_ with ea_ en_ ec_; subst ea_; subst ec_; clear en_; have p147 : 0 ≤ (x5_2 : Int) := of_decide_eq_true (by first | (with_reducible assumption) | assumption); have q147 : x5_2 < (((rd_T62 l0 x4_1).f3).length : Int) := of_decide_eq_true (by first | (with_reducible assumption) | assumption); obtain ⟨ad147, e147, hx147_0, hx147_1⟩ := at_T64 HR146_3.out x5_2 p147 q147; cases e147; replace hx147_0 := (HB.out.cell (World.block_lt_of_cell? w _ hx147_0)).trans hx147_0; replace hx147_1 := (HB.out.cell (World.block_lt_of_cell? w _ hx147_1)).trans hx147_1; replace p147 := eq_true p147; replace q147 := eq_true q147) | ((with_reducible refine gate_callee (f := 16) rfl ?_); refine goesL_ (some 63) rfl rfl Try.func16 (by kernel_rfl) rfl #[.int .i64 ((rd_T64 ((rd_T62 l0 x4_1).f3) x5_2).f1), .int .i64 (-1), .int .i64 (wrap64 ((l0.length : Int) - 1))] rfl ar_ ?_; (with_reducible refine (linkhouseref7_In.calls ((rd_T64 ((rd_T62 l0 x4_1).f3) x5_2).f1) (-1) (wrap64 ((l0.length : Int) - 1)) true _ A20.out).mono ?_); rintro e w' ⟨rfl, ⟨nd, rfl⟩⟩; refine ⟨_, rfl, ?_⟩))
               go_roundg k2
               case measure => have := HK1.out; have := HK2.out; omega
               case rel => exact ⟨(wrap64 (x5_2 + 1)), (x135000_2), (x135001_2), rs_, H', ⟨by have := HK1.out; have := HK2.out; omega⟩, ⟨bk_ BK134⟩, ⟨bw_ HB⟩⟩
              ·
               replace c21 := Bool.eq_false_iff.mpr c21
               subst c21
               have H1 : ((linkhouseref7_At.f 3 x4_1).bind fun bt149 => (some (bt149.1, bt149.2))) = some (r1, r2) := by rw [if_neg (show ¬ (false = true) by decide)] at H; exact H
               clear H
               have H := H1
               clear H1
               replace H := Option.bind_eq_some_iff.mp H
               obtain ⟨⟨t149, t150⟩, A220, H⟩ := H
               replace H : (some (t149, t150)) = some (r1, r2) := H
               have A22 := Aside0.mk A220
               clear A220
               simp only [Option.some.injEq, Prod.mk.injEq] at H
               obtain ⟨rfl, rfl⟩ := H
               have p140 : 0 ≤ (x4_1 : Int) := of_decide_eq_true (by first | (with_reducible assumption) | assumption)
               have q140 : x4_1 < (l0.length : Int) := of_decide_eq_true (by first | (with_reducible assumption) | assumption)
               obtain ⟨ad140, A140_3, c140_3, e140, hx140_0, hx140_1, hx140_2, hx140_3, hl140_3, hi140_3⟩ := at_T62 HR0.out x4_1 p140 q140
               obtain rfl : ad137 = ad140 := (by injection e140)
               replace hx140_0 := (HB.out.cell (World.block_lt_of_cell? w _ hx140_0)).trans hx140_0
               replace hx140_1 := (HB.out.cell (World.block_lt_of_cell? w _ hx140_1)).trans hx140_1
               replace hx140_2 := (HB.out.cell (World.block_lt_of_cell? w _ hx140_2)).trans hx140_2
               have hw140_3 := Aside0.mk hx140_3; replace hx140_3 := (HB.out.cell (World.block_lt_of_cell? w _ hx140_3)).trans hx140_3
               have HR140_3 := Aside0.mk hi140_3
               have HC140_3 := Aside0.mk hl140_3
               clear hi140_3 hl140_3
               replace p140 := eq_true p140
               replace q140 := eq_true q140
               have p141 : 0 ≤ (x4_1 : Int) := of_decide_eq_true (by first | (with_reducible assumption) | assumption)
               have q141 : x4_1 < (l0.length : Int) := of_decide_eq_true (by first | (with_reducible assumption) | assumption)
               obtain ⟨ad141, A141_3, c141_3, e141, hx141_0, hx141_1, hx141_2, hx141_3, hl141_3, hi141_3⟩ := at_T62 HR0.out x4_1 p141 q141
               obtain rfl : ad137 = ad141 := (by injection e141)
               replace hx141_0 := (HB.out.cell (World.block_lt_of_cell? w _ hx141_0)).trans hx141_0
               replace hx141_1 := (HB.out.cell (World.block_lt_of_cell? w _ hx141_1)).trans hx141_1
               replace hx141_2 := (HB.out.cell (World.block_lt_of_cell? w _ hx141_2)).trans hx141_2
               have hw141_3 := Aside0.mk hx141_3; replace hx141_3 := (HB.out.cell (World.block_lt_of_cell? w _ hx141_3)).trans hx141_3
               have HR141_3 := Aside0.mk hi141_3
               have HC141_3 := Aside0.mk hl141_3
               clear hi141_3 hl141_3
               replace p141 := eq_true p141
               replace q141 := eq_true q141
               have ea_ := Option.some.inj (hw140_3.out.symm.trans hw141_3.out)
               injection ea_ with ea_ en_ ec_
               subst ea_
               subst ec_
               clear en_
               have p142 : 0 ≤ (x5_2 : Int) := of_decide_eq_true (by first | (with_reducible assumption) | assumption)
               have q142 : x5_2 < (((rd_T62 l0 x4_1).f3).length : Int) := of_decide_eq_true (by first | (with_reducible assumption) | assumption)
               obtain ⟨ad142, e142, hx142_0, hx142_1⟩ := at_T64 HR141_3.out x5_2 p142 q142
               cases e142
               replace hx142_0 := (HB.out.cell (World.block_lt_of_cell? w _ hx142_0)).trans hx142_0
               replace hx142_1 := (HB.out.cell (World.block_lt_of_cell? w _ hx142_1)).trans hx142_1
               replace p142 := eq_true p142
               replace q142 := eq_true q142
               go_wp2_with (first | ((with_reducible refine gate_callee (f := 16) rfl ?_); refine goesL_ (some 47) rfl rfl Try.func16 (by kernel_rfl) rfl #[.int .i64 ((rd_T64 ((rd_T62 l0 x4_1).f3) x5_2).f0), .int .i64 1, .int .i64 3] rfl ar_ ?_; (with_reducible refine (linkhouseref7_In.calls ((rd_T64 ((rd_T62 l0 x4_1).f3) x5_2).f0) 1 3 true _ A18.out).mono ?_); rintro e w' ⟨rfl, ⟨nd, rfl⟩⟩; refine ⟨_, rfl, ?_⟩; (try (rw [drewN_self wr]; generalize hq_ : World.drewN wr _ = wr; have n0_ : Aside0 (wr.heap[gb134]? = some (.cells #[.int .i64 x135000_2, .int .i64 x135001_2] 28 (0, 0))) := ⟨by rw [← hq_]; exact (bk_ BK134)⟩; have n1_ : Aside0 (Below w.heap.size w wr) := ⟨by rw [← hq_]; exact (bw_ HB)⟩; clear BK134 HB hq_; have BK134 := n0_; have HB := n1_; clear n0_ n1_)); have p146 : 0 ≤ (x4_1 : Int) := of_decide_eq_true (by first | (with_reducible assumption) | assumption); have q146 : x4_1 < (l0.length : Int) := of_decide_eq_true (by first | (with_reducible assumption) | assumption); obtain ⟨ad146, A146_3, c146_3, e146, hx146_0, hx146_1, hx146_2, hx146_3, hl146_3, hi146_3⟩ := at_T62 HR0.out x4_1 p146 q146; obtain rfl : ad137 = ad146 := (by injection e146); replace hx146_0 := (HB.out.cell (World.block_lt_of_cell? w _ hx146_0)).trans hx146_0; replace hx146_1 := (HB.out.cell (World.block_lt_of_cell? w _ hx146_1)).trans hx146_1; replace hx146_2 := (HB.out.cell (World.block_lt_of_cell? w _ hx146_2)).trans hx146_2; have hw146_3 := Aside0.mk hx146_3; replace hx146_3 := (HB.out.cell (World.block_lt_of_cell? w _ hx146_3)).trans hx146_3; have HR146_3 := Aside0.mk hi146_3; have HC146_3 := Aside0.mk hl146_3; clear hi146_3 hl146_3; replace p146 := eq_true p146; replace q146 := eq_true q146; have ea_ := Option.some.inj (hw140_3.out.symm.trans hw146_3.out); injection ea_ with ea_ en_ ec_; subst ea_; subst ec_; clear en_; have p147 : 0 ≤ (x5_2 : Int) := of_decide_eq_true (by first | (with_reducible assumption) | assumption); have q147 : x5_2 < (((rd_T62 l0 x4_1).f3).length : Int) := of_decide_eq_true (by first | (with_reducible assumption) | assumption); obtain ⟨ad147, e147, hx147_0, hx147_1⟩ := at_T64 HR146_3.out x5_2 p147 q147; cases e147; replace hx147_0 := (HB.out.cell (World.block_lt_of_cell? w _ hx147_0)).trans hx147_0; replace hx147_1 := (HB.out.cell (World.block_lt_of_cell? w _ hx147_1)).trans hx147_1; replace p147 := eq_true p147; replace q147 := eq_true q147) | ((with_reducible refine gate_callee (f := 16) rfl ?_); refine goesL_ (some 63) rfl rfl Try.func16 (by kernel_rfl) rfl #[.int .i64 ((rd_T64 ((rd_T62 l0 x4_1).f3) x5_2).f1), .int .i64 (-1), .int .i64 (wrap64 ((l0.length : Int) - 1))] rfl ar_ ?_; (with_reducible refine (linkhouseref7_In.calls ((rd_T64 ((rd_T62 l0 x4_1).f3) x5_2).f1) (-1) (wrap64 ((l0.length : Int) - 1)) false _ A20.out).mono ?_); rintro e w' ⟨rfl, ⟨nd, rfl⟩⟩; refine ⟨_, rfl, ?_⟩; (try (rw [drewN_self wr]; generalize hq_ : World.drewN wr _ = wr; have n0_ : Aside0 (wr.heap[gb134]? = some (.cells #[.int .i64 x135000_2, .int .i64 x135001_2] 28 (0, 0))) := ⟨by rw [← hq_]; exact (bk_ BK134)⟩; have n1_ : Aside0 (Below w.heap.size w wr) := ⟨by rw [← hq_]; exact (bw_ HB)⟩; clear BK134 HB hq_; have BK134 := n0_; have HB := n1_; clear n0_ n1_))) | ((with_reducible refine gate_callee (f := 17) rfl ?_); refine goesL_ (some 66) rfl rfl Try.func17 (by kernel_rfl) rfl #[.int .i64 3, .int .i64 x4_1] rfl ar_ ?_; (with_reducible refine (linkhouseref7_At.calls 3 x4_1 t149 t150 _ A22.out).mono ?_); rintro e w23 ⟨rfl, hb⟩; refine ⟨_, rfl, ?_⟩; replace BK134 := bb_ BK134 hb; replace HB := hs_ HB hb; (try clear hb); (try clear hb2); (try clear hk); (try clear hi); obtain ⟨hcz24_0, hcz24_1, hfz24_0, hfz24_1⟩ := cz2_ BK134))
               refine bodyPost_ret (results_cell_row rfl _ _ gb134 28 #[.int .i64 t149, .int .i64 t150] (0, 0) _ rfl (bk_ BK134) Try.underlying28 rfl (by kernel_rfl)) rfl ?_
               exact ⟨id_, bw_ HB⟩
             ·
              replace c19 := Bool.eq_false_iff.mpr c19
              subst c19
              have H1 : ((linkhouseref7_At.f 4 x4_1).bind fun bt144 => (some (bt144.1, bt144.2))) = some (r1, r2) := by rw [if_neg (show ¬ (false = true) by decide)] at H; exact H
              clear H
              have H := H1
              clear H1
              replace H := Option.bind_eq_some_iff.mp H
              obtain ⟨⟨t144, t145⟩, A250, H⟩ := H
              replace H : (some (t144, t145)) = some (r1, r2) := H
              have A25 := Aside0.mk A250
              clear A250
              simp only [Option.some.injEq, Prod.mk.injEq] at H
              obtain ⟨rfl, rfl⟩ := H
              have p140 : 0 ≤ (x4_1 : Int) := of_decide_eq_true (by first | (with_reducible assumption) | assumption)
              have q140 : x4_1 < (l0.length : Int) := of_decide_eq_true (by first | (with_reducible assumption) | assumption)
              obtain ⟨ad140, A140_3, c140_3, e140, hx140_0, hx140_1, hx140_2, hx140_3, hl140_3, hi140_3⟩ := at_T62 HR0.out x4_1 p140 q140
              obtain rfl : ad137 = ad140 := (by injection e140)
              replace hx140_0 := (HB.out.cell (World.block_lt_of_cell? w _ hx140_0)).trans hx140_0
              replace hx140_1 := (HB.out.cell (World.block_lt_of_cell? w _ hx140_1)).trans hx140_1
              replace hx140_2 := (HB.out.cell (World.block_lt_of_cell? w _ hx140_2)).trans hx140_2
              have hw140_3 := Aside0.mk hx140_3; replace hx140_3 := (HB.out.cell (World.block_lt_of_cell? w _ hx140_3)).trans hx140_3
              have HR140_3 := Aside0.mk hi140_3
              have HC140_3 := Aside0.mk hl140_3
              clear hi140_3 hl140_3
              replace p140 := eq_true p140
              replace q140 := eq_true q140
              have p141 : 0 ≤ (x4_1 : Int) := of_decide_eq_true (by first | (with_reducible assumption) | assumption)
              have q141 : x4_1 < (l0.length : Int) := of_decide_eq_true (by first | (with_reducible assumption) | assumption)
              obtain ⟨ad141, A141_3, c141_3, e141, hx141_0, hx141_1, hx141_2, hx141_3, hl141_3, hi141_3⟩ := at_T62 HR0.out x4_1 p141 q141
              obtain rfl : ad137 = ad141 := (by injection e141)
              replace hx141_0 := (HB.out.cell (World.block_lt_of_cell? w _ hx141_0)).trans hx141_0
              replace hx141_1 := (HB.out.cell (World.block_lt_of_cell? w _ hx141_1)).trans hx141_1
              replace hx141_2 := (HB.out.cell (World.block_lt_of_cell? w _ hx141_2)).trans hx141_2
              have hw141_3 := Aside0.mk hx141_3; replace hx141_3 := (HB.out.cell (World.block_lt_of_cell? w _ hx141_3)).trans hx141_3
              have HR141_3 := Aside0.mk hi141_3
              have HC141_3 := Aside0.mk hl141_3
              clear hi141_3 hl141_3
              replace p141 := eq_true p141
              replace q141 := eq_true q141
              have ea_ := Option.some.inj (hw140_3.out.symm.trans hw141_3.out)
              injection ea_ with ea_ en_ ec_
              subst ea_
              subst ec_
              clear en_
              have p142 : 0 ≤ (x5_2 : Int) := of_decide_eq_true (by first | (with_reducible assumption) | assumption)
              have q142 : x5_2 < (((rd_T62 l0 x4_1).f3).length : Int) := of_decide_eq_true (by first | (with_reducible assumption) | assumption)
              obtain ⟨ad142, e142, hx142_0, hx142_1⟩ := at_T64 HR141_3.out x5_2 p142 q142
              cases e142
              replace hx142_0 := (HB.out.cell (World.block_lt_of_cell? w _ hx142_0)).trans hx142_0
              replace hx142_1 := (HB.out.cell (World.block_lt_of_cell? w _ hx142_1)).trans hx142_1
              replace p142 := eq_true p142
              replace q142 := eq_true q142
              go_wp2_with (first | ((with_reducible refine gate_callee (f := 16) rfl ?_); refine goesL_ (some 47) rfl rfl Try.func16 (by kernel_rfl) rfl #[.int .i64 ((rd_T64 ((rd_T62 l0 x4_1).f3) x5_2).f0), .int .i64 1, .int .i64 3] rfl ar_ ?_; (with_reducible refine (linkhouseref7_In.calls ((rd_T64 ((rd_T62 l0 x4_1).f3) x5_2).f0) 1 3 false _ A18.out).mono ?_); rintro e w' ⟨rfl, ⟨nd, rfl⟩⟩; refine ⟨_, rfl, ?_⟩; (try (rw [drewN_self wr]; generalize hq_ : World.drewN wr _ = wr; have n0_ : Aside0 (wr.heap[gb134]? = some (.cells #[.int .i64 x135000_2, .int .i64 x135001_2] 28 (0, 0))) := ⟨by rw [← hq_]; exact (bk_ BK134)⟩; have n1_ : Aside0 (Below w.heap.size w wr) := ⟨by rw [← hq_]; exact (bw_ HB)⟩; clear BK134 HB hq_; have BK134 := n0_; have HB := n1_; clear n0_ n1_))) | ((with_reducible refine gate_callee (f := 17) rfl ?_); refine goesL_ (some 50) rfl rfl Try.func17 (by kernel_rfl) rfl #[.int .i64 4, .int .i64 x4_1] rfl ar_ ?_; (with_reducible refine (linkhouseref7_At.calls 4 x4_1 t144 t145 _ A25.out).mono ?_); rintro e w26 ⟨rfl, hb⟩; refine ⟨_, rfl, ?_⟩; replace BK134 := bb_ BK134 hb; replace HB := hs_ HB hb; (try clear hb); (try clear hb2); (try clear hk); (try clear hi); obtain ⟨hcz27_0, hcz27_1, hfz27_0, hfz27_1⟩ := cz2_ BK134))
              refine bodyPost_ret (results_cell_row rfl _ _ gb134 28 #[.int .i64 t144, .int .i64 t145] (0, 0) _ rfl (bk_ BK134) Try.underlying28 rfl (by kernel_rfl)) rfl ?_
              exact ⟨id_, bw_ HB⟩
            ·
             rw [if_neg c17] at H
             exact absurd H (by simp)
           ·
            rw [if_neg c16] at H
            have c16b0 : decide (x5_2 < (((rd_T62 l0 x4_1).f3).length : Int)) = false := decide_eq_false c16
            clear c16
            have H' := Aside0.mk H
            clear H
            have p140 : 0 ≤ (x4_1 : Int) := of_decide_eq_true (by first | (with_reducible assumption) | assumption)
            have q140 : x4_1 < (l0.length : Int) := of_decide_eq_true (by first | (with_reducible assumption) | assumption)
            obtain ⟨ad140, A140_3, c140_3, e140, hx140_0, hx140_1, hx140_2, hx140_3, hl140_3, hi140_3⟩ := at_T62 HR0.out x4_1 p140 q140
            obtain rfl : ad137 = ad140 := (by injection e140)
            replace hx140_0 := (HB.out.cell (World.block_lt_of_cell? w _ hx140_0)).trans hx140_0
            replace hx140_1 := (HB.out.cell (World.block_lt_of_cell? w _ hx140_1)).trans hx140_1
            replace hx140_2 := (HB.out.cell (World.block_lt_of_cell? w _ hx140_2)).trans hx140_2
            have hw140_3 := Aside0.mk hx140_3; replace hx140_3 := (HB.out.cell (World.block_lt_of_cell? w _ hx140_3)).trans hx140_3
            have HR140_3 := Aside0.mk hi140_3
            have HC140_3 := Aside0.mk hl140_3
            clear hi140_3 hl140_3
            replace p140 := eq_true p140
            replace q140 := eq_true q140
            go_wp2
            go_roundg k2
            case measure => have := HK1.out; have := HK2.out; omega
            case rel => exact ⟨((wrap64 (x3_1 + (((rd_T62 l0 x4_1).f3).length : Int)))), (wrap64 (x4_1 + 1)), (x135000_2), (x135001_2), rs_, rs_, H', ⟨by have := HK1.out; have := HK2.out; omega⟩, ⟨bk_ BK134⟩, ⟨bw_ HB⟩⟩
          ·
           rw [if_neg c15] at H
           exact absurd H (by simp)
         ·
          rw [if_neg c14] at H
          exact absurd H (by simp)
     ·
      rw [if_neg c9] at H
      exact absurd H (by simp)
    ·
     rw [if_neg c8] at H
     have c8b0 : decide (x4_1 < (l0.length : Int)) = false := decide_eq_false c8
     clear c8
     simp only [Option.some.injEq, Prod.mk.injEq] at H
     obtain ⟨rfl, rfl⟩ := H
     obtain ⟨hcz28_0, hcz28_1, hfz28_0, hfz28_1⟩ := cz2_ BK134
     go_wp2
     refine bodyPost_ret (results_cell_row rfl _ _ gb134 28 #[.int .i64 0, .int .i64 0] (0, 0) _ rfl (bk_ BK134) Try.underlying28 rfl (by kernel_rfl)) rfl ?_
     exact ⟨id_, bw_ HB⟩

/-! ### linkhouselaw7_fromFault: function 20 -/
set_option maxRecDepth 100000 in
def linkhouselaw7_fromFault.f (k : Nat) (l0 : List (S62)) (a1 : Int) : Option (Int × Int) := (linkhouseref7_GraphFault.f k l0).bind fun bt152 => (if bt152.1 = 0 then ((linkhouseref7_In.f a1 0 (wrap64 ((l0.length : Int) - 1))).bind fun t155 => (if t155 = true then (some (bt152.1, bt152.2)) else ((linkhouseref7_At.f 3 (-9)).bind fun bt156 => (some (bt156.1, bt156.2))))) else (some (bt152.1, bt152.2)))
set_option maxRecDepth 100000 in
theorem linkhouselaw7_fromFault.mono : ∀ a0 a1 k, LeO (linkhouselaw7_fromFault.f k a0 a1) (linkhouselaw7_fromFault.f (k + 1) a0 a1) := by
 intro a0 a1 k
 unfold linkhouselaw7_fromFault.f
 repeat' first
   | (with_reducible exact linkhouseref7_GraphFault.mono _ _)
   | (with_reducible exact LeO.refl _)
   | (with_reducible exact LeO.none _)
   | (with_reducible refine LeO.ite ?_ ?_)
   | (with_reducible refine LeO.bind ?_ (fun _ => ?_))
   | exact linkhouseref7_GraphFault.mono _ _
   | exact LeO.none _
   | refine LeO.ite ?_ ?_
   | refine LeO.bind ?_ (fun _ => ?_)
set_option maxHeartbeats 8000000 in
set_option maxRecDepth 100000 in
theorem linkhouselaw7_fromFault.calls (k : Nat) (A0 : Option Addr) (c0 : Nat) (l0 : List (S62)) (a1 : Int) (r1 : Int) (r2 : Int) (w : World) (hr0 : Kd.C k62 w A0 l0.length l0) (hc0 : l0.length ≤ c0) (h : linkhouselaw7_fromFault.f k l0 a1 = some (r1, r2)) :
  Calls Try.prog 20 #[.slice A0 l0.length c0, .int .i64 a1] w fun e w' => e = .returned (.agg #[.int .i64 r1, .int .i64 r2]) ∧ Below w.heap.size w w' := by
 have hu28 := Try.underlying28
 have HR0 := Aside0.mk hr0
 have HC0 := Aside0.mk hc0
 clear hr0 hc0
 have HB := Aside0.mk (Below.refl w.heap.size w)
 have H : ((linkhouseref7_GraphFault.f k l0).bind fun bt152 => (if bt152.1 = 0 then ((linkhouseref7_In.f a1 0 (wrap64 ((l0.length : Int) - 1))).bind fun t155 => (if t155 = true then (some (bt152.1, bt152.2)) else ((linkhouseref7_At.f 3 (-9)).bind fun bt156 => (some (bt156.1, bt156.2))))) else (some (bt152.1, bt152.2)))) = some (r1, r2) := h
 clear h
 replace H := Option.bind_eq_some_iff.mp H
 obtain ⟨⟨t152, t153⟩, A30, H⟩ := H
 replace H : (if t152 = 0 then ((linkhouseref7_In.f a1 0 (wrap64 ((l0.length : Int) - 1))).bind fun t155 => (if t155 = true then (some (t152, t153)) else ((linkhouseref7_At.f 3 (-9)).bind fun bt156 => (some (bt156.1, bt156.2))))) else (some (t152, t153))) = some (r1, r2) := H
 have A3 := Aside0.mk A30
 clear A30
 by_cases c4 : t152 = 0
 ·
  rw [if_pos c4] at H
  have c4b0 : (t152 == 0) = true := beq_iff_eq.mpr c4
  have c4b1 : (t152 != 0) = false := bne_eq_false_iff_eq.mpr c4
  clear c4
  replace H := Option.bind_eq_some_iff.mp H
  obtain ⟨t155, A50, H⟩ := H
  replace H : (if t155 = true then (some (t152, t153)) else ((linkhouseref7_At.f 3 (-9)).bind fun bt156 => (some (bt156.1, bt156.2)))) = some (r1, r2) := H
  have A5 := Aside0.mk A50
  clear A50
  by_cases c6 : t155 = true
  ·
   subst c6
   have H1 : (some (t152, t153)) = some (r1, r2) := by rw [if_pos rfl] at H; exact H
   clear H
   have H := H1
   clear H1
   simp only [Option.some.injEq, Prod.mk.injEq] at H
   obtain ⟨rfl, rfl⟩ := H
   go_enter Try.func20, Try.ntmps20
   go_wp2_with (first | ((with_reducible refine gate_dst (N := 4) rfl ?_); (try (refine gate_guard (by rfl) ?_; dsimp only)); refine bx_ (N := 4) (cs := #[.int .i64 0, .int .i64 0]) (t := 28) ?_; intro gb151 hg w7 hbox hb; have BK151 := Aside0.mk hbox; have GW151 := bs_ HB hg; have GE151 := bs_ HB hg; replace HB := hs_ HB hb; clear hb hbox hg) | ((with_reducible refine gate_callee (f := 29) rfl ?_); refine goesL_ (some 7) rfl rfl Try.func29 (by kernel_rfl) rfl #[.slice A0 l0.length c0] rfl ar_ ?_; (with_reducible refine (linkhouseref7_GraphFault.calls k _ _ l0 t152 t153 _ ?side1 ?side2 A3.out).mono ?_); (case side1 => exact cb_ HR0 HB); (case side2 => exact HC0.out); rintro e w8 ⟨rfl, hb⟩; refine ⟨_, rfl, ?_⟩; replace BK151 := bb_ BK151 hb; replace HB := hs_ HB hb; (try clear hb); (try clear hb2); (try clear hk); (try clear hi)) | ((with_reducible refine gate_dst (N := 5) rfl ?_); (try (refine gate_guard (by rfl) ?_; dsimp only)); refine bx_ (N := 5) (cs := #[.int .i64 0, .int .i64 0]) (t := 28) ?_; intro gb154 hg w9 hbox hb; have BK154 := Aside0.mk hbox; have GW154 := bs_ HB hg; have GE154 := bs_ HB hg; have NB151_154 := nl_ BK151 hg; have NB154_151 := ng_ BK151 hg; replace BK151 := bb_ BK151 hb; replace HB := hs_ HB hb; clear hb hbox hg; have hnb10 := NB154_151.out; have hnc10 := NB151_154.out; obtain ⟨hcz11_0, hcz11_1, hfz11_0, hfz11_1⟩ := cz2_ BK154) | (go_at_call 16; (with_reducible refine (linkhouseref7_In.calls a1 0 (wrap64 ((l0.length : Int) - 1)) true _ A5.out).mono ?_); rintro e w' ⟨rfl, ⟨nd, rfl⟩⟩; obtain ⟨hcz12_0, hcz12_1, hfz12_0, hfz12_1⟩ := cz2_ BK151))
   refine bodyPost_ret (results_cell_row rfl _ _ gb151 28 #[.int .i64 t152, .int .i64 t153] (0, 0) _ rfl (bk_ BK151) Try.underlying28 rfl (by kernel_rfl)) rfl ?_
   exact ⟨id_, bw_ HB⟩
  ·
   replace c6 := Bool.eq_false_iff.mpr c6
   subst c6
   have H1 : ((linkhouseref7_At.f 3 (-9)).bind fun bt156 => (some (bt156.1, bt156.2))) = some (r1, r2) := by rw [if_neg (show ¬ (false = true) by decide)] at H; exact H
   clear H
   have H := H1
   clear H1
   replace H := Option.bind_eq_some_iff.mp H
   obtain ⟨⟨t156, t157⟩, A130, H⟩ := H
   replace H : (some (t156, t157)) = some (r1, r2) := H
   have A13 := Aside0.mk A130
   clear A130
   simp only [Option.some.injEq, Prod.mk.injEq] at H
   obtain ⟨rfl, rfl⟩ := H
   go_enter Try.func20, Try.ntmps20
   go_wp2_with (first | ((with_reducible refine gate_dst (N := 4) rfl ?_); (try (refine gate_guard (by rfl) ?_; dsimp only)); refine bx_ (N := 4) (cs := #[.int .i64 0, .int .i64 0]) (t := 28) ?_; intro gb151 hg w14 hbox hb; have BK151 := Aside0.mk hbox; have GW151 := bs_ HB hg; have GE151 := bs_ HB hg; replace HB := hs_ HB hb; clear hb hbox hg) | ((with_reducible refine gate_callee (f := 29) rfl ?_); refine goesL_ (some 7) rfl rfl Try.func29 (by kernel_rfl) rfl #[.slice A0 l0.length c0] rfl ar_ ?_; (with_reducible refine (linkhouseref7_GraphFault.calls k _ _ l0 t152 t153 _ ?side1 ?side2 A3.out).mono ?_); (case side1 => exact cb_ HR0 HB); (case side2 => exact HC0.out); rintro e w15 ⟨rfl, hb⟩; refine ⟨_, rfl, ?_⟩; replace BK151 := bb_ BK151 hb; replace HB := hs_ HB hb; (try clear hb); (try clear hb2); (try clear hk); (try clear hi)) | ((with_reducible refine gate_dst (N := 5) rfl ?_); (try (refine gate_guard (by rfl) ?_; dsimp only)); refine bx_ (N := 5) (cs := #[.int .i64 0, .int .i64 0]) (t := 28) ?_; intro gb154 hg w16 hbox hb; have BK154 := Aside0.mk hbox; have GW154 := bs_ HB hg; have GE154 := bs_ HB hg; have NB151_154 := nl_ BK151 hg; have NB154_151 := ng_ BK151 hg; replace BK151 := bb_ BK151 hb; replace HB := hs_ HB hb; clear hb hbox hg; have hnb17 := NB154_151.out; have hnc17 := NB151_154.out; obtain ⟨hcz18_0, hcz18_1, hfz18_0, hfz18_1⟩ := cz2_ BK154) | (go_at_call 16; (with_reducible refine (linkhouseref7_In.calls a1 0 (wrap64 ((l0.length : Int) - 1)) false _ A5.out).mono ?_); rintro e w' ⟨rfl, ⟨nd, rfl⟩⟩) | ((with_reducible refine gate_callee (f := 17) rfl ?_); refine goesL_ (some 19) rfl rfl Try.func17 (by kernel_rfl) rfl #[.int .i64 3, .int .i64 (-9)] rfl ar_ ?_; (with_reducible refine (linkhouseref7_At.calls 3 (-9) t156 t157 _ A13.out).mono ?_); rintro e w19 ⟨rfl, hb⟩; refine ⟨_, rfl, ?_⟩; replace BK151 := bb_ BK151 hb; replace BK154 := bo_ (o' := .cells #[.int .i64 t152, .int .i64 t153] 28 (0, 0)) BK154 hb; replace HB := hs_ HB hb; (try clear hb); (try clear hb2); (try clear hk); (try clear hi); obtain ⟨hcz20_0, hcz20_1, hfz20_0, hfz20_1⟩ := cz2_ BK154; obtain ⟨hcz21_0, hcz21_1, hfz21_0, hfz21_1⟩ := cz2_ BK151))
   refine bodyPost_ret (results_cell_row rfl _ _ gb151 28 #[.int .i64 t156, .int .i64 t157] (0, 0) _ rfl (bk_ BK151) Try.underlying28 rfl (by kernel_rfl)) rfl ?_
   exact ⟨id_, bw_ HB⟩
 ·
  rw [if_neg c4] at H
  have c4b0 : (t152 == 0) = false := beq_eq_false_iff_ne.mpr c4
  have c4b1 : (t152 != 0) = true := bne_iff_ne.mpr c4
  simp only [Option.some.injEq, Prod.mk.injEq] at H
  obtain ⟨rfl, rfl⟩ := H
  go_enter Try.func20, Try.ntmps20
  go_wp2_with (first | ((with_reducible refine gate_dst (N := 4) rfl ?_); (try (refine gate_guard (by rfl) ?_; dsimp only)); refine bx_ (N := 4) (cs := #[.int .i64 0, .int .i64 0]) (t := 28) ?_; intro gb151 hg w22 hbox hb; have BK151 := Aside0.mk hbox; have GW151 := bs_ HB hg; have GE151 := bs_ HB hg; replace HB := hs_ HB hb; clear hb hbox hg) | ((with_reducible refine gate_callee (f := 29) rfl ?_); refine goesL_ (some 7) rfl rfl Try.func29 (by kernel_rfl) rfl #[.slice A0 l0.length c0] rfl ar_ ?_; (with_reducible refine (linkhouseref7_GraphFault.calls k _ _ l0 t152 t153 _ ?side1 ?side2 A3.out).mono ?_); (case side1 => exact cb_ HR0 HB); (case side2 => exact HC0.out); rintro e w23 ⟨rfl, hb⟩; refine ⟨_, rfl, ?_⟩; replace BK151 := bb_ BK151 hb; replace HB := hs_ HB hb; (try clear hb); (try clear hb2); (try clear hk); (try clear hi)) | ((with_reducible refine gate_dst (N := 5) rfl ?_); (try (refine gate_guard (by rfl) ?_; dsimp only)); refine bx_ (N := 5) (cs := #[.int .i64 0, .int .i64 0]) (t := 28) ?_; intro gb154 hg w24 hbox hb; have BK154 := Aside0.mk hbox; have GW154 := bs_ HB hg; have GE154 := bs_ HB hg; have NB151_154 := nl_ BK151 hg; have NB154_151 := ng_ BK151 hg; replace BK151 := bb_ BK151 hb; replace HB := hs_ HB hb; clear hb hbox hg; have hnb25 := NB154_151.out; have hnc25 := NB151_154.out; obtain ⟨hcz26_0, hcz26_1, hfz26_0, hfz26_1⟩ := cz2_ BK154; obtain ⟨hcz27_0, hcz27_1, hfz27_0, hfz27_1⟩ := cz2_ BK151))
  refine bodyPost_ret (results_cell_row rfl _ _ gb151 28 #[.int .i64 t152, .int .i64 t153] (0, 0) _ rfl (bk_ BK151) Try.underlying28 rfl (by kernel_rfl)) rfl ?_
  exact ⟨id_, bw_ HB⟩

/-! ### linkhouseref7_SameInts: function 23 -/
set_option maxRecDepth 100000 in
def linkhouseref7_SameInts.l0 : Nat → List Int → List Int → Int → Option (Bool)
 | 0, _, _, _ => none
 | k + 1, x0, x1, x5 => if x5 < (x0.length : Int) then (if 0 ≤ x5 then (if x5 < (x1.length : Int) then (if (rd x0 x5) = (rd x1 x5) then (linkhouseref7_SameInts.l0 k x0 x1 (wrap64 (x5 + 1))) else (some false)) else (none)) else (none)) else (some true)
set_option maxRecDepth 100000 in
def linkhouseref7_SameInts.f (k : Nat) (l0 : List Int) (l1 : List Int) : Option (Bool) := if (l0.length : Int) = (l1.length : Int) then (linkhouseref7_SameInts.l0 k l0 l1 0) else (some false)
set_option maxRecDepth 100000 in
theorem linkhouseref7_SameInts.mono_l : ∀ k, (∀ y0 y1 y2, LeO (linkhouseref7_SameInts.l0 k y0 y1 y2) (linkhouseref7_SameInts.l0 (k + 1) y0 y1 y2))
 | 0 => fun _ _ _ r h => by simp [linkhouseref7_SameInts.l0] at h
 | k + 1 => by
  have ih0 := linkhouseref7_SameInts.mono_l k
  ·
   intro y0 y1 y2
   unfold linkhouseref7_SameInts.l0
   repeat' first
   | (with_reducible exact ih0 _ _ _)
   | (with_reducible exact LeO.refl _)
   | (with_reducible exact LeO.none _)
   | (with_reducible refine LeO.ite ?_ ?_)
   | (with_reducible refine LeO.bind ?_ (fun _ => ?_))
   | exact ih0 _ _ _
   | exact LeO.none _
   | refine LeO.ite ?_ ?_
   | refine LeO.bind ?_ (fun _ => ?_)
set_option maxRecDepth 100000 in
theorem linkhouseref7_SameInts.mono : ∀ a0 a1 k, LeO (linkhouseref7_SameInts.f k a0 a1) (linkhouseref7_SameInts.f (k + 1) a0 a1) := by
 intro a0 a1 k
 have ih0 := linkhouseref7_SameInts.mono_l k
 unfold linkhouseref7_SameInts.f
 repeat' first
   | (with_reducible exact ih0 _ _ _)
   | (with_reducible exact LeO.refl _)
   | (with_reducible exact LeO.none _)
   | (with_reducible refine LeO.ite ?_ ?_)
   | (with_reducible refine LeO.bind ?_ (fun _ => ?_))
   | exact ih0 _ _ _
   | exact LeO.none _
   | refine LeO.ite ?_ ?_
   | refine LeO.bind ?_ (fun _ => ?_)
set_option maxHeartbeats 8000000 in
set_option maxRecDepth 100000 in
theorem linkhouseref7_SameInts.calls (k : Nat) (A0 : Option Addr) (c0 : Nat) (l0 : List Int) (A1 : Option Addr) (c1 : Nat) (l1 : List Int) (r : Bool) (w : World) (hr0 : Kd.C (Kd.int .i64) w A0 l0.length l0) (hc0 : l0.length ≤ c0) (hr1 : Kd.C (Kd.int .i64) w A1 l1.length l1) (hc1 : l1.length ≤ c1) (h : linkhouseref7_SameInts.f k l0 l1 = some r) :
  Calls Try.prog 23 #[.slice A0 l0.length c0, .slice A1 l1.length c1] w fun e w' => e = .returned (.bool r) ∧ Drawn0 w w' := by
 have HR0 := Aside0.mk hr0
 have HC0 := Aside0.mk hc0
 clear hr0 hc0
 have HR1 := Aside0.mk hr1
 have HC1 := Aside0.mk hc1
 clear hr1 hc1
 have H : (if (l0.length : Int) = (l1.length : Int) then (linkhouseref7_SameInts.l0 k l0 l1 0) else (some false)) = some r := h
 clear h
 by_cases c3 : (l0.length : Int) = (l1.length : Int)
 ·
  rw [if_pos c3] at H
  have c3b0 : ((l0.length : Int) == (l1.length : Int)) = true := beq_iff_eq.mpr c3
  have c3b1 : ((l0.length : Int) != (l1.length : Int)) = false := bne_eq_false_iff_eq.mpr c3
  have c3b2 : (l0.length == l1.length) = true := by first | simpa using c3 | (simp at c3 ⊢; omega)
  clear c3
  have H' := Aside0.mk H
  clear H
  go_enter Try.func23, Try.ntmps23
  go_wp2
  repeat (go_quiet (fail); try go_wp2)
  go_loopg [5] k (fun kq v5 w' => ∃ (x5_1 : Int), v5 = .int .i64 x5_1 ∧ Aside0 (linkhouseref7_SameInts.l0 kq l0 l1 x5_1 = some r) ∧ Aside0 (kq ≤ k) ∧ Drawn0 w w')
  case atStart => exact ⟨(0), rs_, H', ⟨Nat.le_refl _⟩, by repeat (first | exact Drawn0.refl _ | apply Drawn0.step)⟩
  case round =>
   clear H'
   (try clear c1); (try clear c2); (try clear p2); (try clear c3); (try clear c3b0); (try clear c3b1); (try clear c3b2)
   obtain ⟨x5_1, rfl, HA, HK1, ⟨m1, rfl⟩⟩ := hrel
   cases gk with
   | zero => exact absurd HA.out (by simp [linkhouseref7_SameInts.l0])
   | succ k1 =>
    have H := HA.out
    clear HA
    simp only [linkhouseref7_SameInts.l0] at H
    by_cases c4 : x5_1 < (l0.length : Int)
    ·
     rw [if_pos c4] at H
     have c4b0 : decide (x5_1 < (l0.length : Int)) = true := decide_eq_true c4
     clear c4
     by_cases c5 : 0 ≤ x5_1
     ·
      rw [if_pos c5] at H
      have c5b0 : decide (0 ≤ x5_1) = true := decide_eq_true c5
      clear c5
      by_cases c6 : x5_1 < (l1.length : Int)
      ·
       rw [if_pos c6] at H
       have c6b0 : decide (x5_1 < (l1.length : Int)) = true := decide_eq_true c6
       clear c6
       by_cases c7 : (rd l0 x5_1) = (rd l1 x5_1)
       ·
        rw [if_pos c7] at H
        have c7b0 : ((rd l0 x5_1) == (rd l1 x5_1)) = true := beq_iff_eq.mpr c7
        have c7b1 : ((rd l0 x5_1) != (rd l1 x5_1)) = false := bne_eq_false_iff_eq.mpr c7
        clear c7
        have H' := Aside0.mk H
        clear H
        have p158 : 0 ≤ (x5_1 : Int) := of_decide_eq_true (by first | (with_reducible assumption) | assumption)
        have q158 : x5_1 < (l0.length : Int) := of_decide_eq_true (by first | (with_reducible assumption) | assumption)
        obtain ⟨ad158, e158, hx158_0⟩ := Kd.at_int HR0.out x5_1 p158 q158
        cases e158
        replace p158 := eq_true p158
        replace q158 := eq_true q158
        have p159 : 0 ≤ (x5_1 : Int) := of_decide_eq_true (by first | (with_reducible assumption) | assumption)
        have q159 : x5_1 < (l1.length : Int) := of_decide_eq_true (by first | (with_reducible assumption) | assumption)
        obtain ⟨ad159, e159, hx159_0⟩ := Kd.at_int HR1.out x5_1 p159 q159
        cases e159
        replace p159 := eq_true p159
        replace q159 := eq_true q159
        go_wp2
        repeat (go_quiet (fail); try go_wp2)
        go_roundg k1
        case measure => have := HK1.out; omega
        case rel => exact ⟨(wrap64 (x5_1 + 1)), rs_, H', ⟨by have := HK1.out; omega⟩, by repeat (first | exact Drawn0.refl _ | apply Drawn0.step)⟩
       ·
        rw [if_neg c7] at H
        have c7b0 : ((rd l0 x5_1) == (rd l1 x5_1)) = false := beq_eq_false_iff_ne.mpr c7
        have c7b1 : ((rd l0 x5_1) != (rd l1 x5_1)) = true := bne_iff_ne.mpr c7
        obtain rfl := Option.some.inj H
        have p158 : 0 ≤ (x5_1 : Int) := of_decide_eq_true (by first | (with_reducible assumption) | assumption)
        have q158 : x5_1 < (l0.length : Int) := of_decide_eq_true (by first | (with_reducible assumption) | assumption)
        obtain ⟨ad158, e158, hx158_0⟩ := Kd.at_int HR0.out x5_1 p158 q158
        cases e158
        replace p158 := eq_true p158
        replace q158 := eq_true q158
        have p159 : 0 ≤ (x5_1 : Int) := of_decide_eq_true (by first | (with_reducible assumption) | assumption)
        have q159 : x5_1 < (l1.length : Int) := of_decide_eq_true (by first | (with_reducible assumption) | assumption)
        obtain ⟨ad159, e159, hx159_0⟩ := Kd.at_int HR1.out x5_1 p159 q159
        cases e159
        replace p159 := eq_true p159
        replace q159 := eq_true q159
        go_wp2
        repeat (go_quiet (fail); try go_wp2)
        go_ret
        exact ⟨by first | rfl | (simp; done) | (simp [*]; done), by repeat (first | exact Drawn0.refl _ | apply Drawn0.step)⟩
      ·
       rw [if_neg c6] at H
       exact absurd H (by simp)
     ·
      rw [if_neg c5] at H
      exact absurd H (by simp)
    ·
     rw [if_neg c4] at H
     have c4b0 : decide (x5_1 < (l0.length : Int)) = false := decide_eq_false c4
     clear c4
     obtain rfl := Option.some.inj H
     go_wp2
     repeat (go_quiet (fail); try go_wp2)
     go_ret
     exact ⟨by first | rfl | (simp; done) | (simp [*]; done), by repeat (first | exact Drawn0.refl _ | apply Drawn0.step)⟩
 ·
  rw [if_neg c3] at H
  have c3b0 : ((l0.length : Int) == (l1.length : Int)) = false := beq_eq_false_iff_ne.mpr c3
  have c3b1 : ((l0.length : Int) != (l1.length : Int)) = true := bne_iff_ne.mpr c3
  have c3b2 : (l0.length == l1.length) = false := by first | simpa using c3 | (simp at c3 ⊢; omega)
  obtain rfl := Option.some.inj H
  go_enter Try.func23, Try.ntmps23
  go_wp2
  repeat (go_quiet (fail); try go_wp2)
  go_ret
  exact ⟨by first | rfl | (simp; done) | (simp [*]; done), by repeat (first | exact Drawn0.refl _ | apply Drawn0.step)⟩

end Go.Proofs.Ytaellapacoikaaa.PB
