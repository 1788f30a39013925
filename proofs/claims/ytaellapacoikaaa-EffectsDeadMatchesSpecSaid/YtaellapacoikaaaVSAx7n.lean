import Derived.Test.YtaellapacoikaaaVSAx7d
namespace Go.Proofs.Ytaellapacoikaaa.PA
open Go.RowKit Go.Proofs.YtaellapacoikaaaW.PrintWords Go.Proofs.YtaellapacoikaaaW.PrintLast Go.Proofs.YtaellapacoikaaaW.PrintMore
attribute [local go_sem] max2_int min2_int max_two min_two max_three min_three max_four min_four   -- for this text's walks alone
set_option linter.unusedVariables false
set_option linter.unusedSimpArgs false

attribute [local go_sem high] eqA28
set_option maxHeartbeats 8000000 in
set_option maxRecDepth 100000 in
theorem effects_Of.calls_n (k : Nat) (a0_0 : Int) (A0_1 : Option Addr) (c0_1 : Nat) (l0_1 : List Int) (r1 : Int) (r2 : Int) (r3 : Int) (r4 : Int) (r5 : Int) (r6 : Int) (r7 : Bool) (r8 : Bool) (r9 : Int) (r10 : Int) (w : World) (t187 t190 t191) (HR0_1 : Aside0 (Kd.C (Kd.int .i64) w A0_1 l0_1.length l0_1)) (HC0_1 : Aside0 (l0_1.length ≤ c0_1)) (A2 : Aside0 (isa_Default.f = some t187)) (A3 : Aside0 (encode_Check.f k t187 a0_0 l0_1 = some (t190, t191))) (c4 : ¬ (!(t190 == 0) || (!(t191 == 0))) = true) (H : (if (!(t190 == 0) || (!(t191 == 0))) = true then (some (0, 0, 0, 0, 0, 0, false, false, t190, t191)) else ((effects_Find.f k a0_0 l0_1).bind fun bt193 => (some (bt193.1, bt193.2.1, bt193.2.2.1, bt193.2.2.2.1, bt193.2.2.2.2.1, bt193.2.2.2.2.2.1, bt193.2.2.2.2.2.2.1, bt193.2.2.2.2.2.2.2, t190, t191)))) = some (r1, r2, r3, r4, r5, r6, r7, r8, r9, r10)) :
    Calls Try.prog 11 #[.agg #[.int .i64 a0_0, .slice A0_1 l0_1.length c0_1]] w fun e w' => e = .returned (.tuple #[.agg #[.int .i64 r1, .int .i64 r2, .int .i64 r3, .int .i64 r4, .int .i64 r5, .int .i64 r6, .bool r7, .bool r8], .agg #[.int .i64 r9, .int .i64 r10]]) ∧ Below w.heap.size w w' := by
  have hu24 := Try.underlying24
  have hu26 := Try.underlying26
  have hu28 := Try.underlying28
  have HB := Aside0.mk (Below.refl w.heap.size w)
  rw [if_neg c4] at H
  have c4b0 : (!(t190 == 0) || (!(t191 == 0))) = false := by simpa using c4
  clear c4
  replace H := Option.bind_eq_some_iff.mp H
  obtain ⟨⟨t193, t194, t195, t196, t197, t198, t199, t200⟩, A320, H⟩ := H
  replace H : (some (t193, t194, t195, t196, t197, t198, t199, t200, t190, t191)) = some (r1, r2, r3, r4, r5, r6, r7, r8, r9, r10) := H
  have A32 := Aside0.mk A320
  clear A320
  simp only [Option.some.injEq, Prod.mk.injEq] at H
  obtain ⟨rfl, rfl, rfl, rfl, rfl, rfl, rfl, rfl, rfl, rfl⟩ := H
  go_enter Try.func11, Try.ntmps11
  try go_wp2_with (first | ((with_reducible refine gate_dst (N := 1) rfl ?_); refine bx_ (N := 1) (cs := #[.int .i64 a0_0, .slice A0_1 l0_1.length c0_1]) (t := 24) ?_; intro gb184 hg w33 hbox hb; have BK184 := Aside0.mk hbox; have GW184 := bs_ HB hg; have GE184 := bs_ HB hg; replace HB := hs_ HB hb; clear hb hbox hg) | ((with_reducible refine gate_dst (N := 2) rfl ?_); refine bx_ (N := 2) (cs := #[.int .i64 0, .int .i64 0, .int .i64 0, .int .i64 0, .int .i64 0, .int .i64 0, .bool false, .bool false]) (t := 26) ?_; intro gb185 hg w34 hbox hb; have BK185 := Aside0.mk hbox; have GW185 := bs_ HB hg; have GE185 := bs_ HB hg; have NB184_185 := nl_ BK184 hg; have NB185_184 := ng_ BK184 hg; replace BK184 := bb_ BK184 hb; replace HB := hs_ HB hb; clear hb hbox hg) | ((with_reducible refine gate_dst (N := 3) rfl ?_); refine bx_ (N := 3) (cs := #[.int .i64 0, .int .i64 0]) (t := 28) ?_; intro gb186 hg w35 hbox hb; have BK186 := Aside0.mk hbox; have GW186 := bs_ HB hg; have GE186 := bs_ HB hg; have NB184_186 := nl_ BK184 hg; have NB186_184 := ng_ BK184 hg; have NB185_186 := nl_ BK185 hg; have NB186_185 := ng_ BK185 hg; replace BK184 := bb_ BK184 hb; replace BK185 := bb_ BK185 hb; replace HB := hs_ HB hb; clear hb hbox hg))
  have n0_ := Aside0.mk (blk_drew BK184.out)
  have n1_ := Aside0.mk (blk_drew BK185.out)
  have n2_ := Aside0.mk (blk_drew BK186.out)
  have n3_ := Aside0.mk (below_drew1 HB.out)
  clear BK184
  clear BK185
  clear BK186
  clear HB
  have BK184 := n0_
  have BK185 := n1_
  have BK186 := n2_
  have HB := n3_
  clear n0_ n1_ n2_ n3_
  refine start_ (n := 5) (S := fun w' => w'.cell? ⟨gb184, 0, none⟩ = some (.int .i64 a0_0) ∧ w'.cell? ⟨gb184, 1, none⟩ = some (.slice A0_1 l0_1.length c0_1)) (ds := []) #[false, false, false, false, false] (by kernel_rfl) rfl rfl ⟨(blk_cell BK184.out 0).trans rfl, (blk_cell BK184.out 1).trans rfl⟩ (fun hHeld => ?_)
  generalize w35.drew = w36 at BK184 BK185 BK186 HB hHeld ⊢
  refine take_ (i := 1) (N := some 6) (v := ?_) (a' := ?_) #[false, true, false, false, false] rfl rfl (by kernel_rfl) (fun _ _ _ h => h) (Or.inl ⟨by rfl, ?_⟩) hHeld ?_ ?_
  rotate_left
  · rintro w' ⟨s0, s1⟩
    go_simp
    with_reducible rfl
  rotate_left
  · simp only [Act.put, List.setIfInBounds_toArray, List.set_cons_zero, List.set_cons_succ, i64_w, i32_w]
    rfl
  refine join_ (σ := Value × Nat) 1 #[true, true, true, true, false] (fun s_ => [(5, s_.1), (7, .agg #[.int .i64 t190, .int .i64 t191]), (4, .pointer (some ⟨s_.2, 0, none⟩))]) (fun s_ w' => (w'.cell? ⟨gb184, 0, none⟩ = some (.int .i64 a0_0) ∧ w'.cell? ⟨gb184, 1, none⟩ = some (.slice A0_1 l0_1.length c0_1)) ∧ (Kd.S k84 84 w' w.heap.size (fun _ => True) s_.1 t187) ∧ (w'.heap[gb184]? = some (.cells #[.int .i64 a0_0, .slice A0_1 l0_1.length c0_1] 24 (0, 0))) ∧ (w'.heap[gb185]? = some (.cells #[.int .i64 0, .int .i64 0, .int .i64 0, .int .i64 0, .int .i64 0, .int .i64 0, .bool false, .bool false] 26 (0, 0))) ∧ (w'.heap[gb186]? = some (.cells #[.int .i64 0, .int .i64 0] 28 (0, 0))) ∧ (w'.heap[s_.2]? = some (.cells #[.int .i64 0, .int .i64 0] 28 (0, 0))) ∧ (w.heap.size ≤ s_.2) ∧ (w.heap.size ≤ s_.2) ∧ (gb184 ≠ s_.2) ∧ (s_.2 ≠ gb184) ∧ (gb185 ≠ s_.2) ∧ (s_.2 ≠ gb185) ∧ (gb186 ≠ s_.2) ∧ (s_.2 ≠ gb186) ∧ (Below w.heap.size w w')) ?_ ?_
  rotate_left
  · intro hCont
    refine two_ (i := 0) (j := 3) (Ni := some 5) (Nj := some 4) #[true, true, false, false, false] #[false, true, false, true, false] rfl rfl rfl rfl (by kernel_rfl) (by decide) (by decide) (fun K hK => ?_) (fun K hK => ?_)
    · skip
      refine goes_ Try.func34 (by kernel_rfl) rfl #[] (by rfl) rfl rfl ar_ ?_
      with_reducible refine (isa_Default.calls  t187 _ A2.out).mono ?_
      rintro e w37 ⟨v188, rfl, ho0, hb⟩
      refine ⟨_, rfl, ?_⟩
      have n0_ := Aside0.mk (Kd.S_lower ho0 (below_size (bw_ HB)))
      have n1_ := Aside0.mk (blk_below (g := gb184) (o := .cells #[.int .i64 a0_0, .slice A0_1 l0_1.length c0_1] 24 (0, 0)) (bk_ BK184) hb)
      have n2_ := Aside0.mk (blk_below (g := gb185) (o := .cells #[.int .i64 0, .int .i64 0, .int .i64 0, .int .i64 0, .int .i64 0, .int .i64 0, .bool false, .bool false] 26 (0, 0)) (bk_ BK185) hb)
      have n3_ := Aside0.mk (blk_below (g := gb186) (o := .cells #[.int .i64 0, .int .i64 0] 28 (0, 0)) (bk_ BK186) hb)
      have n4_ := Aside0.mk (below_step (bw_ HB) hb)
      clear BK184
      clear BK185
      clear BK186
      clear HB
      have HO189 := n0_
      have BK184 := n1_
      have BK185 := n2_
      have BK186 := n3_
      have HB := n4_
      clear n0_ n1_ n2_ n3_ n4_
      (try clear hb)
      (try clear hb2)
      (try clear hk)
      (try clear hi)
      (try clear ho0)
      obtain ⟨Ao38, co38, eo38⟩ := Kd.S_slice HO189.out
      (first | subst eo38 | (injection eo38 with f1_ f2_ f3_; have f4_ := f1_.symm; have f5_ := f3_.symm; clear f1_ f2_ f3_; subst f4_; subst f5_))
      refine hK.out _ _ ⟨(blk_cell BK184.out 0).trans rfl, (blk_cell BK184.out 1).trans rfl⟩ (fun hHeld => ?_)
      clear hK K
      refine norm_ (a' := ?_) ?_ ?_
      rotate_left
      · show Act.put _ (some 5) _ = _
        simp only [Act.put, List.setIfInBounds_toArray, List.set_cons_zero, List.set_cons_succ, i64_w, i32_w]
        rfl
      refine two_ (i := 2) (j := 3) (Ni := some 7) (Nj := some 4) #[true, true, true, false, false] #[true, true, false, true, false] rfl rfl rfl rfl (by kernel_rfl) (by decide) (by decide) (fun K hK => ?_) (fun K hK => ?_)
      · skip
        refine goes_ Try.func33 (by kernel_rfl) rfl #[.slice Ao38 t187.length co38, .agg #[.int .i64 a0_0, .slice A0_1 l0_1.length c0_1]] (by rfl) rfl rfl ar_ ?_
        with_reducible refine (encode_Check.calls k _ _ t187 a0_0 _ _ l0_1 t190 t191 _ ?side1 ?side2 ?side3 ?side4 A3.out).mono ?_
        (case side1 => repeat (first | exact (Kd.S_reads' HO189.out).2.2 | (with_reducible refine Kd.C_alloc ?_ _) | (with_reducible refine Kd.C_drewN ?_ _) | (with_reducible refine Kd.C_drew ?_)))
        (case side2 => exact (Kd.S_reads' HO189.out).2.1)
        (case side3 => exact cb_ HR0_1 HB)
        (case side4 => exact HC0_1.out)
        rintro e w39 ⟨rfl, hb⟩
        refine ⟨_, rfl, ?_⟩
        have n0_ := Aside0.mk (Kd.S_below (by (with_reducible repeat (first | apply Kd.S_alloc | apply Kd.S_drewN | apply Kd.S_drew)); exact HO189.out) hb)
        have n1_ := Aside0.mk (blk_below (g := gb184) (o := .cells #[.int .i64 a0_0, .slice A0_1 l0_1.length c0_1] 24 (0, 0)) (bk_ BK184) hb)
        have n2_ := Aside0.mk (blk_below (g := gb185) (o := .cells #[.int .i64 0, .int .i64 0, .int .i64 0, .int .i64 0, .int .i64 0, .int .i64 0, .bool false, .bool false] 26 (0, 0)) (bk_ BK185) hb)
        have n3_ := Aside0.mk (blk_below (g := gb186) (o := .cells #[.int .i64 0, .int .i64 0] 28 (0, 0)) (bk_ BK186) hb)
        have n4_ := Aside0.mk (below_step (bw_ HB) hb)
        clear HO189
        clear BK184
        clear BK185
        clear BK186
        clear HB
        have HO189 := n0_
        have BK184 := n1_
        have BK185 := n2_
        have BK186 := n3_
        have HB := n4_
        clear n0_ n1_ n2_ n3_ n4_
        (try clear hb)
        (try clear hb2)
        (try clear hk)
        (try clear hi)
        refine hK.out _ _ ⟨(blk_cell BK184.out 0).trans rfl, (blk_cell BK184.out 1).trans rfl⟩ (fun hHeld => ?_)
        clear hK K
        refine norm_ (a' := ?_) ?_ ?_
        rotate_left
        · show Act.put _ (some 7) _ = _
          simp only [Act.put, List.setIfInBounds_toArray, List.set_cons_zero, List.set_cons_succ, i64_w, i32_w]
          rfl
        refine one_ (i := 3) (N := some 4) #[true, true, true, true, false] rfl rfl (by kernel_rfl) (by decide) (fun K hK => ?_)
        refine box_step ?hg (N := 4) ?hd (cs := #[.int .i64 0, .int .i64 0]) (t := 28) ?hr ?_; (case hd => rfl); (case hg => rfl); (case hr => first | (go_simp; done) | (go_simp; rfl))
        intro gb192 hg w40 hbox hb
        have n0_ := Aside0.mk (Kd.S_below (by (with_reducible repeat (first | apply Kd.S_alloc | apply Kd.S_drewN | apply Kd.S_drew)); exact HO189.out) hb)
        have n1_ := Aside0.mk (blk_below (g := gb184) (o := .cells #[.int .i64 a0_0, .slice A0_1 l0_1.length c0_1] 24 (0, 0)) (bk_ BK184) hb)
        have n2_ := Aside0.mk (blk_below (g := gb185) (o := .cells #[.int .i64 0, .int .i64 0, .int .i64 0, .int .i64 0, .int .i64 0, .int .i64 0, .bool false, .bool false] 26 (0, 0)) (bk_ BK185) hb)
        have n3_ := Aside0.mk (blk_below (g := gb186) (o := .cells #[.int .i64 0, .int .i64 0] 28 (0, 0)) (bk_ BK186) hb)
        have n4_ := Aside0.mk (below_step (bw_ HB) hb)
        have n5_ := Aside0.mk (hbox)
        have n6_ := Aside0.mk ((by rw [hg]; exact (below_size (bw_ HB)) : w.heap.size ≤ gb192))
        have n7_ := Aside0.mk ((by rw [hg]; exact (below_size (bw_ HB)) : w.heap.size ≤ gb192))
        have n8_ := Aside0.mk ((by rw [hg]; exact Nat.ne_of_lt (blk_lt (g := gb184) (o := .cells #[.int .i64 a0_0, .slice A0_1 l0_1.length c0_1] 24 (0, 0)) (bk_ BK184)) : gb184 ≠ gb192))
        have n9_ := Aside0.mk ((by rw [hg]; exact Nat.ne_of_gt (blk_lt (g := gb184) (o := .cells #[.int .i64 a0_0, .slice A0_1 l0_1.length c0_1] 24 (0, 0)) (bk_ BK184)) : gb192 ≠ gb184))
        have n10_ := Aside0.mk ((by rw [hg]; exact Nat.ne_of_lt (blk_lt (g := gb185) (o := .cells #[.int .i64 0, .int .i64 0, .int .i64 0, .int .i64 0, .int .i64 0, .int .i64 0, .bool false, .bool false] 26 (0, 0)) (bk_ BK185)) : gb185 ≠ gb192))
        have n11_ := Aside0.mk ((by rw [hg]; exact Nat.ne_of_gt (blk_lt (g := gb185) (o := .cells #[.int .i64 0, .int .i64 0, .int .i64 0, .int .i64 0, .int .i64 0, .int .i64 0, .bool false, .bool false] 26 (0, 0)) (bk_ BK185)) : gb192 ≠ gb185))
        have n12_ := Aside0.mk ((by rw [hg]; exact Nat.ne_of_lt (blk_lt (g := gb186) (o := .cells #[.int .i64 0, .int .i64 0] 28 (0, 0)) (bk_ BK186)) : gb186 ≠ gb192))
        have n13_ := Aside0.mk ((by rw [hg]; exact Nat.ne_of_gt (blk_lt (g := gb186) (o := .cells #[.int .i64 0, .int .i64 0] 28 (0, 0)) (bk_ BK186)) : gb192 ≠ gb186))
        clear HO189
        clear BK184
        clear BK185
        clear BK186
        clear HB
        have HO189 := n0_
        have BK184 := n1_
        have BK185 := n2_
        have BK186 := n3_
        have HB := n4_
        have BK192 := n5_
        have GW192 := n6_
        have GE192 := n7_
        have NB184_192 := n8_
        have NB192_184 := n9_
        have NB185_192 := n10_
        have NB192_185 := n11_
        have NB186_192 := n12_
        have NB192_186 := n13_
        clear n0_ n1_ n2_ n3_ n4_ n5_ n6_ n7_ n8_ n9_ n10_ n11_ n12_ n13_
        clear hb hbox hg
        refine hK.out _ _ ⟨(blk_cell BK184.out 0).trans rfl, (blk_cell BK184.out 1).trans rfl⟩ (fun hHeld => ?_)
        clear hK K
        refine norm_ (a' := ?_) ?_ ?_
        rotate_left
        · show Act.put _ (some 4) _ = _
          simp only [Act.put, List.setIfInBounds_toArray, List.set_cons_zero, List.set_cons_succ, i64_w, i32_w]
          rfl
        exact norm_ (by simp only [putAll, Act.put, List.setIfInBounds_toArray, List.set_cons_zero, List.set_cons_succ]) (hCont (.slice Ao38 t187.length co38, gb192) _ ⟨hHeld, (by (with_reducible repeat (first | apply Kd.S_alloc | apply Kd.S_drewN | apply Kd.S_drew)); exact HO189.out), (bk_ BK184), (bk_ BK185), (bk_ BK186), (bk_ BK192), GW192.out, GE192.out, NB184_192.out, NB192_184.out, NB185_192.out, NB192_185.out, NB186_192.out, NB192_186.out, (bw_ HB)⟩)
      · skip
        refine box_step ?hg (N := 4) ?hd (cs := #[.int .i64 0, .int .i64 0]) (t := 28) ?hr ?_; (case hd => rfl); (case hg => rfl); (case hr => first | (go_simp; done) | (go_simp; rfl))
        intro gb192 hg w38 hbox hb
        have n0_ := Aside0.mk (Kd.S_below (by (with_reducible repeat (first | apply Kd.S_alloc | apply Kd.S_drewN | apply Kd.S_drew)); exact HO189.out) hb)
        have n1_ := Aside0.mk (blk_below (g := gb184) (o := .cells #[.int .i64 a0_0, .slice A0_1 l0_1.length c0_1] 24 (0, 0)) (bk_ BK184) hb)
        have n2_ := Aside0.mk (blk_below (g := gb185) (o := .cells #[.int .i64 0, .int .i64 0, .int .i64 0, .int .i64 0, .int .i64 0, .int .i64 0, .bool false, .bool false] 26 (0, 0)) (bk_ BK185) hb)
        have n3_ := Aside0.mk (blk_below (g := gb186) (o := .cells #[.int .i64 0, .int .i64 0] 28 (0, 0)) (bk_ BK186) hb)
        have n4_ := Aside0.mk (below_step (bw_ HB) hb)
        have n5_ := Aside0.mk (hbox)
        have n6_ := Aside0.mk ((by rw [hg]; exact (below_size (bw_ HB)) : w.heap.size ≤ gb192))
        have n7_ := Aside0.mk ((by rw [hg]; exact (below_size (bw_ HB)) : w.heap.size ≤ gb192))
        have n8_ := Aside0.mk ((by rw [hg]; exact Nat.ne_of_lt (blk_lt (g := gb184) (o := .cells #[.int .i64 a0_0, .slice A0_1 l0_1.length c0_1] 24 (0, 0)) (bk_ BK184)) : gb184 ≠ gb192))
        have n9_ := Aside0.mk ((by rw [hg]; exact Nat.ne_of_gt (blk_lt (g := gb184) (o := .cells #[.int .i64 a0_0, .slice A0_1 l0_1.length c0_1] 24 (0, 0)) (bk_ BK184)) : gb192 ≠ gb184))
        have n10_ := Aside0.mk ((by rw [hg]; exact Nat.ne_of_lt (blk_lt (g := gb185) (o := .cells #[.int .i64 0, .int .i64 0, .int .i64 0, .int .i64 0, .int .i64 0, .int .i64 0, .bool false, .bool false] 26 (0, 0)) (bk_ BK185)) : gb185 ≠ gb192))
        have n11_ := Aside0.mk ((by rw [hg]; exact Nat.ne_of_gt (blk_lt (g := gb185) (o := .cells #[.int .i64 0, .int .i64 0, .int .i64 0, .int .i64 0, .int .i64 0, .int .i64 0, .bool false, .bool false] 26 (0, 0)) (bk_ BK185)) : gb192 ≠ gb185))
        have n12_ := Aside0.mk ((by rw [hg]; exact Nat.ne_of_lt (blk_lt (g := gb186) (o := .cells #[.int .i64 0, .int .i64 0] 28 (0, 0)) (bk_ BK186)) : gb186 ≠ gb192))
        have n13_ := Aside0.mk ((by rw [hg]; exact Nat.ne_of_gt (blk_lt (g := gb186) (o := .cells #[.int .i64 0, .int .i64 0] 28 (0, 0)) (bk_ BK186)) : gb192 ≠ gb186))
        clear HO189
        clear BK184
        clear BK185
        clear BK186
        clear HB
        have HO189 := n0_
        have BK184 := n1_
        have BK185 := n2_
        have BK186 := n3_
        have HB := n4_
        have BK192 := n5_
        have GW192 := n6_
        have GE192 := n7_
        have NB184_192 := n8_
        have NB192_184 := n9_
        have NB185_192 := n10_
        have NB192_185 := n11_
        have NB186_192 := n12_
        have NB192_186 := n13_
        clear n0_ n1_ n2_ n3_ n4_ n5_ n6_ n7_ n8_ n9_ n10_ n11_ n12_ n13_
        clear hb hbox hg
        obtain ⟨Ao39, co39, eo39⟩ := Kd.S_slice HO189.out
        (first | subst eo39 | (injection eo39 with f1_ f2_ f3_; have f4_ := f1_.symm; have f5_ := f3_.symm; clear f1_ f2_ f3_; subst f4_; subst f5_))
        refine hK.out _ _ ⟨(blk_cell BK184.out 0).trans rfl, (blk_cell BK184.out 1).trans rfl⟩ (fun hHeld => ?_)
        clear hK K
        refine norm_ (a' := ?_) ?_ ?_
        rotate_left
        · show Act.put _ (some 4) _ = _
          simp only [Act.put, List.setIfInBounds_toArray, List.set_cons_zero, List.set_cons_succ, i64_w, i32_w]
          rfl
        refine one_ (i := 2) (N := some 7) #[true, true, true, true, false] rfl rfl (by kernel_rfl) (by decide) (fun K hK => ?_)
        refine goes_ Try.func33 (by kernel_rfl) rfl #[.slice Ao39 t187.length co39, .agg #[.int .i64 a0_0, .slice A0_1 l0_1.length c0_1]] (by rfl) rfl rfl ar_ ?_
        with_reducible refine (encode_Check.calls k _ _ t187 a0_0 _ _ l0_1 t190 t191 _ ?side1 ?side2 ?side3 ?side4 A3.out).mono ?_
        (case side1 => repeat (first | exact (Kd.S_reads' HO189.out).2.2 | (with_reducible refine Kd.C_alloc ?_ _) | (with_reducible refine Kd.C_drewN ?_ _) | (with_reducible refine Kd.C_drew ?_)))
        (case side2 => exact (Kd.S_reads' HO189.out).2.1)
        (case side3 => exact cb_ HR0_1 HB)
        (case side4 => exact HC0_1.out)
        rintro e w40 ⟨rfl, hb⟩
        refine ⟨_, rfl, ?_⟩
        have n0_ := Aside0.mk (Kd.S_below (by (with_reducible repeat (first | apply Kd.S_alloc | apply Kd.S_drewN | apply Kd.S_drew)); exact HO189.out) hb)
        have n1_ := Aside0.mk (blk_below (g := gb184) (o := .cells #[.int .i64 a0_0, .slice A0_1 l0_1.length c0_1] 24 (0, 0)) (bk_ BK184) hb)
        have n2_ := Aside0.mk (blk_below (g := gb185) (o := .cells #[.int .i64 0, .int .i64 0, .int .i64 0, .int .i64 0, .int .i64 0, .int .i64 0, .bool false, .bool false] 26 (0, 0)) (bk_ BK185) hb)
        have n3_ := Aside0.mk (blk_below (g := gb186) (o := .cells #[.int .i64 0, .int .i64 0] 28 (0, 0)) (bk_ BK186) hb)
        have n4_ := Aside0.mk (blk_below (g := gb192) (o := .cells #[.int .i64 0, .int .i64 0] 28 (0, 0)) (bk_ BK192) hb)
        have n5_ := Aside0.mk (below_step (bw_ HB) hb)
        clear HO189
        clear BK184
        clear BK185
        clear BK186
        clear BK192
        clear HB
        have HO189 := n0_
        have BK184 := n1_
        have BK185 := n2_
        have BK186 := n3_
        have BK192 := n4_
        have HB := n5_
        clear n0_ n1_ n2_ n3_ n4_ n5_
        (try clear hb)
        (try clear hb2)
        (try clear hk)
        (try clear hi)
        refine hK.out _ _ ⟨(blk_cell BK184.out 0).trans rfl, (blk_cell BK184.out 1).trans rfl⟩ (fun hHeld => ?_)
        clear hK K
        refine norm_ (a' := ?_) ?_ ?_
        rotate_left
        · show Act.put _ (some 7) _ = _
          simp only [Act.put, List.setIfInBounds_toArray, List.set_cons_zero, List.set_cons_succ, i64_w, i32_w]
          rfl
        exact norm_ (by simp only [putAll, Act.put, List.setIfInBounds_toArray, List.set_cons_zero, List.set_cons_succ]) (hCont (.slice Ao39 t187.length co39, gb192) _ ⟨hHeld, (by (with_reducible repeat (first | apply Kd.S_alloc | apply Kd.S_drewN | apply Kd.S_drew)); exact HO189.out), (bk_ BK184), (bk_ BK185), (bk_ BK186), (bk_ BK192), GW192.out, GE192.out, NB184_192.out, NB192_184.out, NB185_192.out, NB192_185.out, NB186_192.out, NB192_186.out, (bw_ HB)⟩)
    · skip
      refine box_step ?hg (N := 4) ?hd (cs := #[.int .i64 0, .int .i64 0]) (t := 28) ?hr ?_; (case hd => rfl); (case hg => rfl); (case hr => first | (go_simp; done) | (go_simp; rfl))
      intro gb192 hg w37 hbox hb
      have n0_ := Aside0.mk (blk_below (g := gb184) (o := .cells #[.int .i64 a0_0, .slice A0_1 l0_1.length c0_1] 24 (0, 0)) (bk_ BK184) hb)
      have n1_ := Aside0.mk (blk_below (g := gb185) (o := .cells #[.int .i64 0, .int .i64 0, .int .i64 0, .int .i64 0, .int .i64 0, .int .i64 0, .bool false, .bool false] 26 (0, 0)) (bk_ BK185) hb)
      have n2_ := Aside0.mk (blk_below (g := gb186) (o := .cells #[.int .i64 0, .int .i64 0] 28 (0, 0)) (bk_ BK186) hb)
      have n3_ := Aside0.mk (below_step (bw_ HB) hb)
      have n4_ := Aside0.mk (hbox)
      have n5_ := Aside0.mk ((by rw [hg]; exact (below_size (bw_ HB)) : w.heap.size ≤ gb192))
      have n6_ := Aside0.mk ((by rw [hg]; exact (below_size (bw_ HB)) : w.heap.size ≤ gb192))
      have n7_ := Aside0.mk ((by rw [hg]; exact Nat.ne_of_lt (blk_lt (g := gb184) (o := .cells #[.int .i64 a0_0, .slice A0_1 l0_1.length c0_1] 24 (0, 0)) (bk_ BK184)) : gb184 ≠ gb192))
      have n8_ := Aside0.mk ((by rw [hg]; exact Nat.ne_of_gt (blk_lt (g := gb184) (o := .cells #[.int .i64 a0_0, .slice A0_1 l0_1.length c0_1] 24 (0, 0)) (bk_ BK184)) : gb192 ≠ gb184))
      have n9_ := Aside0.mk ((by rw [hg]; exact Nat.ne_of_lt (blk_lt (g := gb185) (o := .cells #[.int .i64 0, .int .i64 0, .int .i64 0, .int .i64 0, .int .i64 0, .int .i64 0, .bool false, .bool false] 26 (0, 0)) (bk_ BK185)) : gb185 ≠ gb192))
      have n10_ := Aside0.mk ((by rw [hg]; exact Nat.ne_of_gt (blk_lt (g := gb185) (o := .cells #[.int .i64 0, .int .i64 0, .int .i64 0, .int .i64 0, .int .i64 0, .int .i64 0, .bool false, .bool false] 26 (0, 0)) (bk_ BK185)) : gb192 ≠ gb185))
      have n11_ := Aside0.mk ((by rw [hg]; exact Nat.ne_of_lt (blk_lt (g := gb186) (o := .cells #[.int .i64 0, .int .i64 0] 28 (0, 0)) (bk_ BK186)) : gb186 ≠ gb192))
      have n12_ := Aside0.mk ((by rw [hg]; exact Nat.ne_of_gt (blk_lt (g := gb186) (o := .cells #[.int .i64 0, .int .i64 0] 28 (0, 0)) (bk_ BK186)) : gb192 ≠ gb186))
      clear BK184
      clear BK185
      clear BK186
      clear HB
      have BK184 := n0_
      have BK185 := n1_
      have BK186 := n2_
      have HB := n3_
      have BK192 := n4_
      have GW192 := n5_
      have GE192 := n6_
      have NB184_192 := n7_
      have NB192_184 := n8_
      have NB185_192 := n9_
      have NB192_185 := n10_
      have NB186_192 := n11_
      have NB192_186 := n12_
      clear n0_ n1_ n2_ n3_ n4_ n5_ n6_ n7_ n8_ n9_ n10_ n11_ n12_
      clear hb hbox hg
      refine hK.out _ _ ⟨(blk_cell BK184.out 0).trans rfl, (blk_cell BK184.out 1).trans rfl⟩ (fun hHeld => ?_)
      clear hK K
      refine norm_ (a' := ?_) ?_ ?_
      rotate_left
      · show Act.put _ (some 4) _ = _
        simp only [Act.put, List.setIfInBounds_toArray, List.set_cons_zero, List.set_cons_succ, i64_w, i32_w]
        rfl
      refine one_ (i := 0) (N := some 5) #[true, true, false, true, false] rfl rfl (by kernel_rfl) (by decide) (fun K hK => ?_)
      refine goes_ Try.func34 (by kernel_rfl) rfl #[] (by rfl) rfl rfl ar_ ?_
      with_reducible refine (isa_Default.calls  t187 _ A2.out).mono ?_
      rintro e w38 ⟨v188, rfl, ho0, hb⟩
      refine ⟨_, rfl, ?_⟩
      have n0_ := Aside0.mk (Kd.S_lower ho0 (below_size (bw_ HB)))
      have n1_ := Aside0.mk (blk_below (g := gb184) (o := .cells #[.int .i64 a0_0, .slice A0_1 l0_1.length c0_1] 24 (0, 0)) (bk_ BK184) hb)
      have n2_ := Aside0.mk (blk_below (g := gb185) (o := .cells #[.int .i64 0, .int .i64 0, .int .i64 0, .int .i64 0, .int .i64 0, .int .i64 0, .bool false, .bool false] 26 (0, 0)) (bk_ BK185) hb)
      have n3_ := Aside0.mk (blk_below (g := gb186) (o := .cells #[.int .i64 0, .int .i64 0] 28 (0, 0)) (bk_ BK186) hb)
      have n4_ := Aside0.mk (blk_below (g := gb192) (o := .cells #[.int .i64 0, .int .i64 0] 28 (0, 0)) (bk_ BK192) hb)
      have n5_ := Aside0.mk (below_step (bw_ HB) hb)
      clear BK184
      clear BK185
      clear BK186
      clear BK192
      clear HB
      have HO189 := n0_
      have BK184 := n1_
      have BK185 := n2_
      have BK186 := n3_
      have BK192 := n4_
      have HB := n5_
      clear n0_ n1_ n2_ n3_ n4_ n5_
      (try clear hb)
      (try clear hb2)
      (try clear hk)
      (try clear hi)
      (try clear ho0)
      obtain ⟨Ao39, co39, eo39⟩ := Kd.S_slice HO189.out
      (first | subst eo39 | (injection eo39 with f1_ f2_ f3_; have f4_ := f1_.symm; have f5_ := f3_.symm; clear f1_ f2_ f3_; subst f4_; subst f5_))
      refine hK.out _ _ ⟨(blk_cell BK184.out 0).trans rfl, (blk_cell BK184.out 1).trans rfl⟩ (fun hHeld => ?_)
      clear hK K
      refine norm_ (a' := ?_) ?_ ?_
      rotate_left
      · show Act.put _ (some 5) _ = _
        simp only [Act.put, List.setIfInBounds_toArray, List.set_cons_zero, List.set_cons_succ, i64_w, i32_w]
        rfl
      refine one_ (i := 2) (N := some 7) #[true, true, true, true, false] rfl rfl (by kernel_rfl) (by decide) (fun K hK => ?_)
      refine goes_ Try.func33 (by kernel_rfl) rfl #[.slice Ao39 t187.length co39, .agg #[.int .i64 a0_0, .slice A0_1 l0_1.length c0_1]] (by rfl) rfl rfl ar_ ?_
      with_reducible refine (encode_Check.calls k _ _ t187 a0_0 _ _ l0_1 t190 t191 _ ?side1 ?side2 ?side3 ?side4 A3.out).mono ?_
      (case side1 => repeat (first | exact (Kd.S_reads' HO189.out).2.2 | (with_reducible refine Kd.C_alloc ?_ _) | (with_reducible refine Kd.C_drewN ?_ _) | (with_reducible refine Kd.C_drew ?_)))
      (case side2 => exact (Kd.S_reads' HO189.out).2.1)
      (case side3 => exact cb_ HR0_1 HB)
      (case side4 => exact HC0_1.out)
      rintro e w40 ⟨rfl, hb⟩
      refine ⟨_, rfl, ?_⟩
      have n0_ := Aside0.mk (Kd.S_below (by (with_reducible repeat (first | apply Kd.S_alloc | apply Kd.S_drewN | apply Kd.S_drew)); exact HO189.out) hb)
      have n1_ := Aside0.mk (blk_below (g := gb184) (o := .cells #[.int .i64 a0_0, .slice A0_1 l0_1.length c0_1] 24 (0, 0)) (bk_ BK184) hb)
      have n2_ := Aside0.mk (blk_below (g := gb185) (o := .cells #[.int .i64 0, .int .i64 0, .int .i64 0, .int .i64 0, .int .i64 0, .int .i64 0, .bool false, .bool false] 26 (0, 0)) (bk_ BK185) hb)
      have n3_ := Aside0.mk (blk_below (g := gb186) (o := .cells #[.int .i64 0, .int .i64 0] 28 (0, 0)) (bk_ BK186) hb)
      have n4_ := Aside0.mk (blk_below (g := gb192) (o := .cells #[.int .i64 0, .int .i64 0] 28 (0, 0)) (bk_ BK192) hb)
      have n5_ := Aside0.mk (below_step (bw_ HB) hb)
      clear HO189
      clear BK184
      clear BK185
      clear BK186
      clear BK192
      clear HB
      have HO189 := n0_
      have BK184 := n1_
      have BK185 := n2_
      have BK186 := n3_
      have BK192 := n4_
      have HB := n5_
      clear n0_ n1_ n2_ n3_ n4_ n5_
      (try clear hb)
      (try clear hb2)
      (try clear hk)
      (try clear hi)
      refine hK.out _ _ ⟨(blk_cell BK184.out 0).trans rfl, (blk_cell BK184.out 1).trans rfl⟩ (fun hHeld => ?_)
      clear hK K
      refine norm_ (a' := ?_) ?_ ?_
      rotate_left
      · show Act.put _ (some 7) _ = _
        simp only [Act.put, List.setIfInBounds_toArray, List.set_cons_zero, List.set_cons_succ, i64_w, i32_w]
        rfl
      exact norm_ (by simp only [putAll, Act.put, List.setIfInBounds_toArray, List.set_cons_zero, List.set_cons_succ]) (hCont (.slice Ao39 t187.length co39, gb192) _ ⟨hHeld, (by (with_reducible repeat (first | apply Kd.S_alloc | apply Kd.S_drewN | apply Kd.S_drew)); exact HO189.out), (bk_ BK184), (bk_ BK185), (bk_ BK186), (bk_ BK192), GW192.out, GE192.out, NB184_192.out, NB192_184.out, NB185_192.out, NB192_185.out, NB186_192.out, NB192_186.out, (bw_ HB)⟩)
  rintro ⟨v188, gb192⟩ w41 ⟨hS_, h0_, h1_, h2_, h3_, h4_, h5_, h6_, h7_, h8_, h9_, h10_, h11_, h12_, h13_⟩
  have n0_ : Aside0 (Kd.S k84 84 w41 w.heap.size (fun _ => True) v188 t187) := ⟨h0_⟩
  have n1_ : Aside0 (w41.heap[gb184]? = some (.cells #[.int .i64 a0_0, .slice A0_1 l0_1.length c0_1] 24 (0, 0))) := ⟨h1_⟩
  have n2_ : Aside0 (w41.heap[gb185]? = some (.cells #[.int .i64 0, .int .i64 0, .int .i64 0, .int .i64 0, .int .i64 0, .int .i64 0, .bool false, .bool false] 26 (0, 0))) := ⟨h2_⟩
  have n3_ : Aside0 (w41.heap[gb186]? = some (.cells #[.int .i64 0, .int .i64 0] 28 (0, 0))) := ⟨h3_⟩
  have n4_ : Aside0 (w41.heap[gb192]? = some (.cells #[.int .i64 0, .int .i64 0] 28 (0, 0))) := ⟨h4_⟩
  have n5_ : Aside0 (w.heap.size ≤ gb192) := ⟨h5_⟩
  have n6_ : Aside0 (w.heap.size ≤ gb192) := ⟨h6_⟩
  have n7_ : Aside0 (gb184 ≠ gb192) := ⟨h7_⟩
  have n8_ : Aside0 (gb192 ≠ gb184) := ⟨h8_⟩
  have n9_ : Aside0 (gb185 ≠ gb192) := ⟨h9_⟩
  have n10_ : Aside0 (gb192 ≠ gb185) := ⟨h10_⟩
  have n11_ : Aside0 (gb186 ≠ gb192) := ⟨h11_⟩
  have n12_ : Aside0 (gb192 ≠ gb186) := ⟨h12_⟩
  have n13_ : Aside0 (Below w.heap.size w w41) := ⟨h13_⟩
  clear BK184
  clear BK185
  clear BK186
  clear HB
  clear h0_ h1_ h2_ h3_ h4_ h5_ h6_ h7_ h8_ h9_ h10_ h11_ h12_ h13_
  have HO189 := n0_
  have BK184 := n1_
  have BK185 := n2_
  have BK186 := n3_
  have BK192 := n4_
  have GW192 := n5_
  have GE192 := n6_
  have NB184_192 := n7_
  have NB192_184 := n8_
  have NB185_192 := n9_
  have NB192_185 := n10_
  have NB186_192 := n11_
  have NB192_186 := n12_
  have HB := n13_
  clear n0_ n1_ n2_ n3_ n4_ n5_ n6_ n7_ n8_ n9_ n10_ n11_ n12_ n13_
  have hHeld : w41.cell? ⟨gb184, 0, none⟩ = some (.int .i64 a0_0) ∧ w41.cell? ⟨gb184, 1, none⟩ = some (.slice A0_1 l0_1.length c0_1) := hS_
  refine norm_ (a' := ?_) ?_ ?_
  rotate_left
  · simp only [putAll, Act.put, List.setIfInBounds_toArray, List.set_cons_zero, List.set_cons_succ]
    rfl
  refine one_ (i := 4) (N := none) #[true, true, true, true, true] rfl rfl (by kernel_rfl) (by decide) (fun K hK => ?_)
  have hs42 : w41.cell? ⟨gb192, 0, none⟩ = some (.int .i64 0) := (blk_cell BK192.out 0).trans rfl
  have hfs42 := blk_frozen BK192.out 0
  have hns42_0 := NB184_192.out
  have hns42_1 := NB185_192.out
  have hns42_2 := NB186_192.out
  have hms42_0 := NB192_184.out
  have hms42_1 := NB192_185.out
  have hms42_2 := NB192_186.out
  have hs43 : w41.cell? ⟨gb192, 1, none⟩ = some (.int .i64 0) := (blk_cell BK192.out 1).trans rfl
  have hfs43 := blk_frozen BK192.out 1
  have hns43_0 := NB184_192.out
  have hns43_1 := NB185_192.out
  have hns43_2 := NB186_192.out
  have hms43_0 := NB192_184.out
  have hms43_1 := NB192_185.out
  have hms43_2 := NB192_186.out
  with_reducible refine skip_ (w1 := ?w1_1) ?ha_1 ?hb_1 ?hc_1 ?hd_1
  case ha_1 => rfl
  case hb_1 => rfl
  case hc_1 =>
    go_simp
    rfl
  refine hK.out _ _ ⟨((cell_far (p := ⟨gb192, _, none⟩) NB184_192.out _).trans (((cell_far (p := ⟨gb192, _, none⟩) NB184_192.out _).trans (hHeld.1)))), ((cell_far (p := ⟨gb192, _, none⟩) NB184_192.out _).trans (((cell_far (p := ⟨gb192, _, none⟩) NB184_192.out _).trans (hHeld.2))))⟩ (fun hHeld => ?_)
  clear hK K
  refine done_ (by kernel_rfl) ?_
  have hnb44 := NB192_184.out
  have hnc44 := NB184_192.out
  have hnb45 := NB192_185.out
  have hnc45 := NB185_192.out
  have hnb46 := NB192_186.out
  have hnc46 := NB186_192.out
  obtain ⟨hcz47_0, hcz47_1, hfz47_0, hfz47_1⟩ := cz2_ BK192
  try go_wp2
  have n0_ : Aside0 (Kd.S k84 84 ((w41.setCell ⟨gb192, 0, none⟩ (.int .i64 t190)).setCell ⟨gb192, 1, none⟩ (.int .i64 t191)) w.heap.size (fun _ => True) v188 t187) := ⟨by (with_reducible repeat (first | apply Kd.S_alloc | apply Kd.S_drewN | apply Kd.S_drew)); exact Kd.S_mono (Kd.S_far (p := ⟨gb192, 1, none⟩) (Kd.S_far (p := ⟨gb192, 0, none⟩) (Kd.S_types HO189.out BK192.out (by decide)) (fun _ hk => hk.2) (.int .i64 t190)) (fun _ hk => hk.2) (.int .i64 t191)) (fun _ hk => trivial)⟩
  have n1_ : Aside0 (((w41.setCell ⟨gb192, 0, none⟩ (.int .i64 t190)).setCell ⟨gb192, 1, none⟩ (.int .i64 t191)).heap[gb184]? = some (.cells #[.int .i64 a0_0, .slice A0_1 l0_1.length c0_1] 24 (0, 0))) := ⟨bk_ BK184⟩
  have n2_ : Aside0 (((w41.setCell ⟨gb192, 0, none⟩ (.int .i64 t190)).setCell ⟨gb192, 1, none⟩ (.int .i64 t191)).heap[gb185]? = some (.cells #[.int .i64 0, .int .i64 0, .int .i64 0, .int .i64 0, .int .i64 0, .int .i64 0, .bool false, .bool false] 26 (0, 0))) := ⟨bk_ BK185⟩
  have n3_ : Aside0 (((w41.setCell ⟨gb192, 0, none⟩ (.int .i64 t190)).setCell ⟨gb192, 1, none⟩ (.int .i64 t191)).heap[gb186]? = some (.cells #[.int .i64 0, .int .i64 0] 28 (0, 0))) := ⟨bk_ BK186⟩
  have n4_ : Aside0 (((w41.setCell ⟨gb192, 0, none⟩ (.int .i64 t190)).setCell ⟨gb192, 1, none⟩ (.int .i64 t191)).heap[gb192]? = some (.cells #[.int .i64 t190, .int .i64 t191] 28 (0, 0))) := ⟨bk_ BK192⟩
  have n5_ : Aside0 (Below w.heap.size w ((w41.setCell ⟨gb192, 0, none⟩ (.int .i64 t190)).setCell ⟨gb192, 1, none⟩ (.int .i64 t191))) := ⟨bw_ HB⟩
  (try clear HO189)
  (try clear BK184)
  (try clear BK185)
  (try clear BK186)
  (try clear BK192)
  (try clear HB)
  generalize ((w41.setCell ⟨gb192, 0, none⟩ (.int .i64 t190)).setCell ⟨gb192, 1, none⟩ (.int .i64 t191)) = w48 at n0_ n1_ n2_ n3_ n4_ n5_ ⊢
  have HO189 := n0_
  have BK184 := n1_
  have BK185 := n2_
  have BK186 := n3_
  have BK192 := n4_
  have HB := n5_
  clear n0_ n1_ n2_ n3_ n4_ n5_
  have n0_ := Aside0.mk (Kd.S_drew HO189.out)
  have n1_ := Aside0.mk (blk_drew BK184.out)
  have n2_ := Aside0.mk (blk_drew BK185.out)
  have n3_ := Aside0.mk (blk_drew BK186.out)
  have n4_ := Aside0.mk (blk_drew BK192.out)
  have n5_ := Aside0.mk (below_drew1 HB.out)
  clear HO189
  clear BK184
  clear BK185
  clear BK186
  clear BK192
  clear HB
  have HO189 := n0_
  have BK184 := n1_
  have BK185 := n2_
  have BK186 := n3_
  have BK192 := n4_
  have HB := n5_
  clear n0_ n1_ n2_ n3_ n4_ n5_
  refine start_ (n := 5) (S := fun w' => w'.cell? ⟨gb184, 0, none⟩ = some (.int .i64 a0_0) ∧ w'.cell? ⟨gb184, 1, none⟩ = some (.slice A0_1 l0_1.length c0_1) ∧ w'.cell? ⟨gb192, 0, none⟩ = some (.int .i64 t190) ∧ w'.cell? ⟨gb192, 1, none⟩ = some (.int .i64 t191)) (ds := []) #[false, false, false, false, false] (by kernel_rfl) rfl rfl ⟨(blk_cell BK184.out 0).trans rfl, (blk_cell BK184.out 1).trans rfl, (blk_cell BK192.out 0).trans rfl, (blk_cell BK192.out 1).trans rfl⟩ (fun hHeld => ?_)
  generalize w48.drew = w49 at HO189 BK184 BK185 BK186 BK192 HB hHeld ⊢
  refine take_ (i := 0) (N := some 13) (v := ?_) (a' := ?_) #[true, false, false, false, false] rfl rfl (by kernel_rfl) (fun _ _ _ h => h) (Or.inl ⟨by rfl, ?_⟩) hHeld ?_ ?_
  rotate_left
  · rintro w' ⟨s0, s1, s2, s3⟩
    go_simp
    with_reducible rfl
  rotate_left
  · simp only [Act.put, List.setIfInBounds_toArray, List.set_cons_zero, List.set_cons_succ, i64_w, i32_w]
    rfl
  refine take_ (i := 2) (N := some 15) (v := ?_) (a' := ?_) #[true, false, true, false, false] rfl rfl (by kernel_rfl) (fun _ _ _ h => h) (Or.inl ⟨by rfl, ?_⟩) hHeld ?_ ?_
  rotate_left
  · rintro w' ⟨s0, s1, s2, s3⟩
    go_simp
    with_reducible rfl
  rotate_left
  · simp only [Act.put, List.setIfInBounds_toArray, List.set_cons_zero, List.set_cons_succ, i64_w, i32_w]
    rfl
  refine one_ (i := 1) (N := some 14) #[true, true, true, false, false] rfl rfl (by kernel_rfl) (by decide) (fun K hK => ?_)
  refine goes_ Try.func35 (by kernel_rfl) rfl #[.agg #[.int .i64 a0_0, .slice A0_1 l0_1.length c0_1]] (by rfl) rfl rfl ar_ ?_
  with_reducible refine (effects_Find.calls k a0_0 _ _ l0_1 t193 t194 t195 t196 t197 t198 t199 t200 _ ?side1 ?side2 A32.out).mono ?_
  (case side1 => exact cb_ HR0_1 HB)
  (case side2 => exact HC0_1.out)
  rintro e w50 ⟨rfl, hb⟩
  refine ⟨_, rfl, ?_⟩
  have n0_ := Aside0.mk (Kd.S_below (by (with_reducible repeat (first | apply Kd.S_alloc | apply Kd.S_drewN | apply Kd.S_drew)); exact HO189.out) hb)
  have n1_ := Aside0.mk (blk_below (g := gb184) (o := .cells #[.int .i64 a0_0, .slice A0_1 l0_1.length c0_1] 24 (0, 0)) (bk_ BK184) hb)
  have n2_ := Aside0.mk (blk_below (g := gb185) (o := .cells #[.int .i64 0, .int .i64 0, .int .i64 0, .int .i64 0, .int .i64 0, .int .i64 0, .bool false, .bool false] 26 (0, 0)) (bk_ BK185) hb)
  have n3_ := Aside0.mk (blk_below (g := gb186) (o := .cells #[.int .i64 0, .int .i64 0] 28 (0, 0)) (bk_ BK186) hb)
  have n4_ := Aside0.mk (blk_below (g := gb192) (o := .cells #[.int .i64 t190, .int .i64 t191] 28 (0, 0)) (bk_ BK192) hb)
  have n5_ := Aside0.mk (below_step (bw_ HB) hb)
  clear HO189
  clear BK184
  clear BK185
  clear BK186
  clear BK192
  clear HB
  have HO189 := n0_
  have BK184 := n1_
  have BK185 := n2_
  have BK186 := n3_
  have BK192 := n4_
  have HB := n5_
  clear n0_ n1_ n2_ n3_ n4_ n5_
  (try clear hb)
  (try clear hb2)
  (try clear hk)
  (try clear hi)
  refine hK.out _ _ ⟨(blk_cell BK184.out 0).trans rfl, (blk_cell BK184.out 1).trans rfl, (blk_cell BK192.out 0).trans rfl, (blk_cell BK192.out 1).trans rfl⟩ (fun hHeld => ?_)
  clear hK K
  refine norm_ (a' := ?_) ?_ ?_
  rotate_left
  · show Act.put _ (some 14) _ = _
    simp only [Act.put, List.setIfInBounds_toArray, List.set_cons_zero, List.set_cons_succ, i64_w, i32_w]
    rfl
  refine one_ (i := 3) (N := none) #[true, true, true, true, false] rfl rfl (by kernel_rfl) (by decide) (fun K hK => ?_)
  have hs51 : w50.cell? ⟨gb185, 0, none⟩ = some (.int .i64 0) := (blk_cell BK185.out 0).trans rfl
  have hfs51 := blk_frozen BK185.out 0
  have hns51_0 := NB184_185.out
  have hns51_2 := NB186_185.out
  have hns51_3 := NB192_185.out
  have hms51_0 := NB185_184.out
  have hms51_2 := NB185_186.out
  have hms51_3 := NB185_192.out
  have hs52 : w50.cell? ⟨gb185, 1, none⟩ = some (.int .i64 0) := (blk_cell BK185.out 1).trans rfl
  have hfs52 := blk_frozen BK185.out 1
  have hns52_0 := NB184_185.out
  have hns52_2 := NB186_185.out
  have hns52_3 := NB192_185.out
  have hms52_0 := NB185_184.out
  have hms52_2 := NB185_186.out
  have hms52_3 := NB185_192.out
  have hs53 : w50.cell? ⟨gb185, 2, none⟩ = some (.int .i64 0) := (blk_cell BK185.out 2).trans rfl
  have hfs53 := blk_frozen BK185.out 2
  have hns53_0 := NB184_185.out
  have hns53_2 := NB186_185.out
  have hns53_3 := NB192_185.out
  have hms53_0 := NB185_184.out
  have hms53_2 := NB185_186.out
  have hms53_3 := NB185_192.out
  have hs54 : w50.cell? ⟨gb185, 3, none⟩ = some (.int .i64 0) := (blk_cell BK185.out 3).trans rfl
  have hfs54 := blk_frozen BK185.out 3
  have hns54_0 := NB184_185.out
  have hns54_2 := NB186_185.out
  have hns54_3 := NB192_185.out
  have hms54_0 := NB185_184.out
  have hms54_2 := NB185_186.out
  have hms54_3 := NB185_192.out
  have hs55 : w50.cell? ⟨gb185, 4, none⟩ = some (.int .i64 0) := (blk_cell BK185.out 4).trans rfl
  have hfs55 := blk_frozen BK185.out 4
  have hns55_0 := NB184_185.out
  have hns55_2 := NB186_185.out
  have hns55_3 := NB192_185.out
  have hms55_0 := NB185_184.out
  have hms55_2 := NB185_186.out
  have hms55_3 := NB185_192.out
  have hs56 : w50.cell? ⟨gb185, 5, none⟩ = some (.int .i64 0) := (blk_cell BK185.out 5).trans rfl
  have hfs56 := blk_frozen BK185.out 5
  have hns56_0 := NB184_185.out
  have hns56_2 := NB186_185.out
  have hns56_3 := NB192_185.out
  have hms56_0 := NB185_184.out
  have hms56_2 := NB185_186.out
  have hms56_3 := NB185_192.out
  have hs57 : w50.cell? ⟨gb185, 6, none⟩ = some (.bool false) := (blk_cell BK185.out 6).trans rfl
  have hfs57 := blk_frozen BK185.out 6
  have hns57_0 := NB184_185.out
  have hns57_2 := NB186_185.out
  have hns57_3 := NB192_185.out
  have hms57_0 := NB185_184.out
  have hms57_2 := NB185_186.out
  have hms57_3 := NB185_192.out
  have hs58 : w50.cell? ⟨gb185, 7, none⟩ = some (.bool false) := (blk_cell BK185.out 7).trans rfl
  have hfs58 := blk_frozen BK185.out 7
  have hns58_0 := NB184_185.out
  have hns58_2 := NB186_185.out
  have hns58_3 := NB192_185.out
  have hms58_0 := NB185_184.out
  have hms58_2 := NB185_186.out
  have hms58_3 := NB185_192.out
  with_reducible refine skip_ (w1 := ?w1_2) ?ha_2 ?hb_2 ?hc_2 ?hd_2
  case ha_2 => rfl
  case hb_2 => rfl
  case hc_2 =>
    go_simp
    rfl
  refine hK.out _ _ ⟨((cell_far (p := ⟨gb185, _, none⟩) NB184_185.out _).trans (((cell_far (p := ⟨gb185, _, none⟩) NB184_185.out _).trans (((cell_far (p := ⟨gb185, _, none⟩) NB184_185.out _).trans (((cell_far (p := ⟨gb185, _, none⟩) NB184_185.out _).trans (((cell_far (p := ⟨gb185, _, none⟩) NB184_185.out _).trans (((cell_far (p := ⟨gb185, _, none⟩) NB184_185.out _).trans (((cell_far (p := ⟨gb185, _, none⟩) NB184_185.out _).trans (((cell_far (p := ⟨gb185, _, none⟩) NB184_185.out _).trans (hHeld.1)))))))))))))))), ((cell_far (p := ⟨gb185, _, none⟩) NB184_185.out _).trans (((cell_far (p := ⟨gb185, _, none⟩) NB184_185.out _).trans (((cell_far (p := ⟨gb185, _, none⟩) NB184_185.out _).trans (((cell_far (p := ⟨gb185, _, none⟩) NB184_185.out _).trans (((cell_far (p := ⟨gb185, _, none⟩) NB184_185.out _).trans (((cell_far (p := ⟨gb185, _, none⟩) NB184_185.out _).trans (((cell_far (p := ⟨gb185, _, none⟩) NB184_185.out _).trans (((cell_far (p := ⟨gb185, _, none⟩) NB184_185.out _).trans (hHeld.2.1)))))))))))))))), ((cell_far (p := ⟨gb185, _, none⟩) NB192_185.out _).trans (((cell_far (p := ⟨gb185, _, none⟩) NB192_185.out _).trans (((cell_far (p := ⟨gb185, _, none⟩) NB192_185.out _).trans (((cell_far (p := ⟨gb185, _, none⟩) NB192_185.out _).trans (((cell_far (p := ⟨gb185, _, none⟩) NB192_185.out _).trans (((cell_far (p := ⟨gb185, _, none⟩) NB192_185.out _).trans (((cell_far (p := ⟨gb185, _, none⟩) NB192_185.out _).trans (((cell_far (p := ⟨gb185, _, none⟩) NB192_185.out _).trans (hHeld.2.2.1)))))))))))))))), ((cell_far (p := ⟨gb185, _, none⟩) NB192_185.out _).trans (((cell_far (p := ⟨gb185, _, none⟩) NB192_185.out _).trans (((cell_far (p := ⟨gb185, _, none⟩) NB192_185.out _).trans (((cell_far (p := ⟨gb185, _, none⟩) NB192_185.out _).trans (((cell_far (p := ⟨gb185, _, none⟩) NB192_185.out _).trans (((cell_far (p := ⟨gb185, _, none⟩) NB192_185.out _).trans (((cell_far (p := ⟨gb185, _, none⟩) NB192_185.out _).trans (((cell_far (p := ⟨gb185, _, none⟩) NB192_185.out _).trans (hHeld.2.2.2))))))))))))))))⟩ (fun hHeld => ?_)
  clear hK K
  refine one_ (i := 4) (N := none) #[true, true, true, true, true] rfl rfl (by kernel_rfl) (by decide) (fun K hK => ?_)
  have hs59 : w50.cell? ⟨gb186, 0, none⟩ = some (.int .i64 0) := (blk_cell BK186.out 0).trans rfl
  have hfs59 := blk_frozen BK186.out 0
  have hns59_0 := NB184_186.out
  have hns59_1 := NB185_186.out
  have hns59_3 := NB192_186.out
  have hms59_0 := NB186_184.out
  have hms59_1 := NB186_185.out
  have hms59_3 := NB186_192.out
  have hs60 : w50.cell? ⟨gb186, 1, none⟩ = some (.int .i64 0) := (blk_cell BK186.out 1).trans rfl
  have hfs60 := blk_frozen BK186.out 1
  have hns60_0 := NB184_186.out
  have hns60_1 := NB185_186.out
  have hns60_3 := NB192_186.out
  have hms60_0 := NB186_184.out
  have hms60_1 := NB186_185.out
  have hms60_3 := NB186_192.out
  with_reducible refine skip_ (w1 := ?w1_3) ?ha_3 ?hb_3 ?hc_3 ?hd_3
  case ha_3 => rfl
  case hb_3 => rfl
  case hc_3 =>
    go_simp
    rfl
  refine hK.out _ _ ⟨((cell_far (p := ⟨gb186, _, none⟩) NB184_186.out _).trans (((cell_far (p := ⟨gb186, _, none⟩) NB184_186.out _).trans (hHeld.1)))), ((cell_far (p := ⟨gb186, _, none⟩) NB184_186.out _).trans (((cell_far (p := ⟨gb186, _, none⟩) NB184_186.out _).trans (hHeld.2.1)))), ((cell_far (p := ⟨gb186, _, none⟩) NB192_186.out _).trans (((cell_far (p := ⟨gb186, _, none⟩) NB192_186.out _).trans (hHeld.2.2.1)))), ((cell_far (p := ⟨gb186, _, none⟩) NB192_186.out _).trans (((cell_far (p := ⟨gb186, _, none⟩) NB192_186.out _).trans (hHeld.2.2.2))))⟩ (fun hHeld => ?_)
  clear hK K
  refine done_ (by kernel_rfl) ?_
  try go_wp2
  refine bodyPost_ret (results_cc rfl _ _ gb185 gb186 26 28 #[.int .i64 t193, .int .i64 t194, .int .i64 t195, .int .i64 t196, .int .i64 t197, .int .i64 t198, .bool t199, .bool t200] #[.int .i64 t190, .int .i64 t191] (0, 0) (0, 0) _ _ rfl (bk_ BK185) Try.underlying26 rfl (by kernel_rfl) rfl (bk_ BK186) Try.underlying28 rfl (by kernel_rfl)) rfl ?_
  exact ⟨id_, bw_ HB⟩
end Go.Proofs.Ytaellapacoikaaa.PA
