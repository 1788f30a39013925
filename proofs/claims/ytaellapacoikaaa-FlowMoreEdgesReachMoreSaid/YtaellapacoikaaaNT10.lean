import Derived.Test.YtaellapacoikaaaNSBx11
import Derived.Test.YtaellapacoikaaaNM16
namespace Go.Proofs.Ytaellapacoikaaa.PB
open Go.RowKit Go.Proofs.YtaellapacoikaaaW.PrintWords Go.Proofs.YtaellapacoikaaaW.PrintLast Go.Proofs.YtaellapacoikaaaW.PrintMore
attribute [local go_sem] max2_int min2_int max_two min_two max_three min_three max_four min_four
set_option linter.unusedVariables false
set_option linter.unusedSimpArgs false
def Hold (P : Prop) : Prop := P
theorem hold_ {P : Prop} (h : Hold P) : P := h
theorem store_step_ {P : Program} {ops : Array Oper} {Q : Exit → Act → World → Prop} {Kc : Act → World → Prop} {o : Oper} {a : Act} {W w1 : World} {t : TypeId} {p x : Operand} {ad : Value} {u : Value} (hw : Region.wanted o (yielded ops a.tmps) = true) (ho : o.op = .store t p x) (hN : o.dst = none) (hp : a.eval p = ad) (hx : a.eval x = u) (hrun : (Instr.storeAt t ad u).run P W = .ok () w1) (h : Kc a w1) :
    if Region.wanted o (yielded ops a.tmps) = true then Oper.wp P o a W Kc Q else Kc (a.put o.dst undef) W := by
  rw [if_pos hw]
  unfold Oper.wp execOp
  simp only [ho, hp, hx, Sem.run_bind, Sem.run_pure, Result.andThen_ok, hrun]
  show Kc (a.put o.dst undef) _
  rw [hN]
  exact h
theorem reach_calls' (k : Nat) {A0 : Option Addr} {c0 n : Nat} {l0 : List S62} {a1 : Int} {r1 : List Bool} {r2 r3 : Int} {w : World} (hn : l0.length = n) (hr0 : Kd.C k62 w A0 n l0) (hc0 : n ≤ c0) (h : flow_Reachable.f k l0 a1 = some (r1, r2, r3)) :
    Calls Try.prog 27 #[.slice A0 n c0, .int .i64 a1] w fun e w' => ∃ v0_ : Value, e = .returned (.tuple #[v0_, .agg #[.int .i64 r2, .int .i64 r3]]) ∧ Kd.R Kd.bool 4 w' w.heap.size (fun _ => True) v0_ r1 ∧ Below w.heap.size w w' := by
  subst hn
  exact flow_Reachable.calls k A0 c0 l0 a1 r1 r2 r3 w hr0 hc0 h
set_option maxHeartbeats 4000000 in
set_option maxRecDepth 100000 in
theorem more_ok {g : List S62} {A0 : Option Addr} {c0 : Nat} {fr p x s : Int} {w : World} (hr0 : Kd.C k62 w A0 g.length g) (hf0 : Kd.F k62 w (fun k => k < w.heap.size) A0 g.length g) (hc0 : g.length ≤ c0) {k1 : Nat} {l1 : List Bool} {i1 : Int} (h1 : flow_Reachable.f k1 g fr = some (l1, 0, i1))
    {k2 : Nat} {l2 : List Bool} {c2 i2 : Int} (h2 : flow_Reachable.f k2 (addE g p ⟨x, s⟩) fr = some (l2, c2, i2)) (hcc2 : (c2 = 2 ∨ c2 = 3 ∨ c2 = 4) ∨ (c2 = 0 ∧ l1.length = g.length ∧ l2.length = g.length ∧ ∀ b : Int, 0 ≤ b → b < (g.length : Int) → rdOf false l1 b = true → rdOf false l2 b = true)) (hlen : g.length ≤ 100) (hfew : (rd_T62 g p).f3.length ≤ 300) (p0 : 0 ≤ p) (p1 : p < (g.length : Int)) :
    Calls Try.prog 10 #[.slice A0 g.length c0, .int .i64 fr, .int .i64 p, .agg #[.int .i64 x, .int .i64 s]] w fun e w' => e = .returned (.bool true) ∧ Below w.heap.size w w' := by
  have hu28 := Try.underlying28
  have hu64 := Try.underlying64
  have hbnd := Aside0.mk (show (([] : List S62).length + g.length) * 48 ≤ 140737488355328 by simp; omega)
  have HF : Aside0 ((([] : List S64).length + (rd_T62 g p).f3.length) * 16 ≤ 140737488355328) := ⟨by simp; omega⟩
  have HF2 : Aside0 (((rd_T62 g p).f3.length + 1) * 16 ≤ 140737488355328) := ⟨by omega⟩
  have HCC := Aside0.mk hcc2
  have AR2 := Aside0.mk h2
  have HFE := Aside0.mk hfew
  clear hfew hcc2 h2
  have HR0 := Aside0.mk hr0
  have HF0 := Aside0.mk hf0
  have HC0 := Aside0.mk hc0
  have AR1 := Aside0.mk h1
  have AI : Aside0 (linkhouseref7_In.f p 0 ((g.length : Int) - 1) = some true) := ⟨by unfold linkhouseref7_In.f; rw [if_pos p0, decide_eq_true (by omega)]⟩
  have P0 := Aside0.mk p0
  have P1 := Aside0.mk p1
  have HL := Aside0.mk hlen
  clear hr0 hc0 h1 hf0 p0 p1
  have HB := Aside0.mk (Below.refl w.heap.size w)
  go_enter Try.func10, Try.ntmps10
  go_wp2_with (first | ((with_reducible refine gate_dst (N := 7) rfl ?_); (try (refine gate_guard (by rfl) ?_; dsimp only)); refine bx_ (N := 7) (cs := #[.int .i64 x, .int .i64 s]) (t := 64) ?_; intro gb7 hg w2 hbox hb; have BK7 := Aside0.mk hbox; have GW7 := bs_ HB hg; replace HB := hs_ HB hb; clear hb hbox hg; obtain ⟨hcz7_0, hcz7_1, hfz7_0, hfz7_1⟩ := cz2_ BK7) | ((with_reducible refine gate_callee (f := 27) rfl ?_); refine goesL_ (some 18) rfl rfl Try.func27 (by kernel_rfl) rfl #[.slice A0 g.length c0, .int .i64 fr] rfl ar_ ?_; (with_reducible refine (flow_Reachable.calls k1 _ _ g fr l1 0 i1 _ ?side1 ?side2 AR1.out).mono ?_); (case side1 => exact cb_ HR0 HB); (case side2 => exact HC0.out); rintro e w7 ⟨v19, rfl, ho0, hb⟩; refine ⟨_, rfl, ?_⟩; have n0_ := Aside0.mk (Kd.R_lower ho0 (below_size (bw_ HB))); have n1_ := Aside0.mk (below_step (bw_ HB) hb); have n2_ := bb_ BK7 hb; clear HB; clear BK7; have HO19 := n0_; have HB := n1_; have BK7 := n2_; clear n0_ n1_ n2_; (try clear hb); (try clear ho0)) | ((with_reducible refine gate_dst (N := 10) rfl ?_); (try (refine gate_guard (by rfl) ?_; dsimp only)); refine bx_ (N := 10) (cs := #[.int .i64 0, .int .i64 0]) (t := 28) ?_; intro gb10 hg w8 hbox hb; have n0_ := Aside0.mk (Kd.R_below (by (with_reducible repeat (first | apply Kd.R_alloc | apply Kd.R_drewN | apply Kd.R_drew)); exact HO19.out) hb); have BK10 := Aside0.mk hbox; have GW10 := bs_ HB hg; have NB7 := Aside0.mk ((by rw [hg]; exact Nat.ne_of_lt (blk_lt (bk_ BK7))) : gb7 ≠ gb10); have n2_ := bb_ BK7 hb; replace HB := hs_ HB hb; clear BK7 HO19; have BK7 := n2_; have HO19 := n0_; clear n0_ n2_; clear hb hbox hg; obtain ⟨hcz10_0, hcz10_1, hfz10_0, hfz10_1⟩ := cz2_ BK10) | (go_at_call 16; refine (linkhouseref7_In.calls p 0 ((g.length : Int) - 1) true _ AI.out).mono ?_; rintro e w' ⟨rfl, ⟨nd, rfl⟩⟩) | (at_builtin; refine hold_ ?_))
  unfold Hold
  refine Kd.N_append_rows k62 (w0 := w) w.heap.size rfl (.const (.slice none 0 0)) (.tmp 33) 42 62 (.agg #[(.int .i64 0), (.int .i64 0), (.int .i64 0), (.slice none 0 0)]) 48 rfl Try.underlying42 info62 rfl (by decide) (by omega) (.slice none 0 0) [] g A0 g.length c0 (fun _ => True) (fun k => k < w.heap.size) rfl rfl (Kd.N_nil _ _ _ _ _) (Kd.F_below HF0.out (bw_ HB)) (fun k hk => ⟨trivial, by simp [Value.ownBlock]⟩) (fun _ _ => trivial) (bw_ HB) (below_size (bw_ HB)) hbnd.out ?_
  intro v34 w34 hn hb hg hat
  have n2_ := Aside0.mk (blk_grown (g := gb7) (o := .cells #[.int .i64 x, .int .i64 s] 64 (0, 0)) (bk_ BK7) hg (by simp [Value.ownBlock]))
  have n3_ := Aside0.mk (Kd.R_grown (Kd.R_drewN (Kd.R_mono (Kd.R_far (p := ⟨gb10, 1, none⟩) (Kd.R_far (p := ⟨gb10, 0, none⟩) (Kd.R_types HO19.out BK10.out (by decide)) (fun _ hk => hk.2) (.int .i64 0)) (fun _ hk => hk.2) (.int .i64 i1)) (fun _ h_ => h_.1)) _) hg (fun _ _ => by simp [Value.ownBlock]))
  rw [List.nil_append] at hn
  clear HB BK7 HO19 BK10 hcz10_0 hcz10_1 hfz10_0 hfz10_1 hcz7_0 hcz7_1 hfz7_0 hfz7_1
  have HN := Aside0.mk hn
  have HB := Aside0.mk hb
  have BK7 := n2_
  have HO19 := n3_
  clear n2_ n3_ hn hb hg hat hbnd
  obtain ⟨gm, cm, ev34, hgm0, hgm1, cls, hgm2⟩ := Kd.N_form HN.out (by have := P0.out; have := P1.out; omega)
  subst ev34
  go_wp2
  have hw34 := Kd.C_below HR0.out HB.out
  obtain ⟨ad, A3, c3, eA, hx0, hx1, hx2, hx3, l3, g3⟩ := at_T62 hw34 p P0.out P1.out
  subst eA
  have HE3 := Aside0.mk l3
  have HG3 := Aside0.mk g3
  have hp0 := eq_true P0.out
  have hp1 := eq_true P1.out
  clear hw34 hx0 hx1 hx2 l3 g3
  refine start_ (n := 14) (S := fun w' => w'.cell? ⟨(ad.add (p.toNat * 4)).block, (ad.add (p.toNat * 4)).off + 3, none⟩ = some (.slice A3 (rd_T62 g p).f3.length c3) ∧ w'.cell? ⟨gb7, 0, none⟩ = some (.int .i64 x) ∧ w'.cell? ⟨gb7, 1, none⟩ = some (.int .i64 s)) (ds := [13]) #[false, false, false, false, false, false, false, false, false, false, false, false, false, false] (by kernel_rfl) rfl rfl ⟨hx3, (blk_cell BK7.out 0).trans rfl, (blk_cell BK7.out 1).trans rfl⟩ (fun hHeld => ?_)
  refine pure_ (i := 0) (N := some 35) (v := ?_) (a' := ?_) #[true, false, false, false, false, false, false, false, false, false, false, false, false, false] rfl rfl (by kernel_rfl) (fun _ _ _ h => h) (Or.inl ⟨by rfl, ?_⟩) ?_ ?_
  rotate_left
  · intro w'
    go_simp
    with_reducible rfl
  rotate_left
  · simp only [Act.put, List.setIfInBounds_toArray, List.set_cons_zero, List.set_cons_succ, i64_w, i32_w]
    rfl
  refine pure_ (i := 1) (N := some 36) (v := ?_) (a' := ?_) #[true, true, false, false, false, false, false, false, false, false, false, false, false, false] rfl rfl (by kernel_rfl) (fun _ _ _ h => h) (Or.inl ⟨by rfl, ?_⟩) ?_ ?_
  rotate_left
  · intro w'
    go_simp
    with_reducible rfl
  rotate_left
  · simp only [Act.put, List.setIfInBounds_toArray, List.set_cons_zero, List.set_cons_succ, i64_w, i32_w]
    rfl
  refine pure_ (i := 2) (N := some 37) (v := ?_) (a' := ?_) #[true, true, true, false, false, false, false, false, false, false, false, false, false, false] rfl rfl (by kernel_rfl) (fun _ _ _ h => h) (Or.inl ⟨by rfl, ?_⟩) ?_ ?_
  rotate_left
  · intro w'
    go_simp
    with_reducible rfl
  rotate_left
  · simp only [Act.put, List.setIfInBounds_toArray, List.set_cons_zero, List.set_cons_succ, i64_w, i32_w]
    rfl
  refine pure_ (i := 3) (N := some 38) (v := ?_) (a' := ?_) #[true, true, true, true, false, false, false, false, false, false, false, false, false, false] rfl rfl (by kernel_rfl) (fun _ _ _ h => h) (Or.inl ⟨by rfl, ?_⟩) ?_ ?_
  rotate_left
  · intro w'
    go_simp
    with_reducible rfl
  rotate_left
  · simp only [Act.put, List.setIfInBounds_toArray, List.set_cons_zero, List.set_cons_succ, i64_w, i32_w]
    rfl
  refine pure_ (i := 4) (N := some 39) (v := ?_) (a' := ?_) #[true, true, true, true, true, false, false, false, false, false, false, false, false, false] rfl rfl (by kernel_rfl) (fun _ _ _ h => h) (Or.inl ⟨by rfl, ?_⟩) ?_ ?_
  rotate_left
  · intro w'
    go_simp
    with_reducible rfl
  rotate_left
  · simp only [Act.put, List.setIfInBounds_toArray, List.set_cons_zero, List.set_cons_succ, i64_w, i32_w]
    rfl
  refine pure_ (i := 5) (N := some 40) (v := ?_) (a' := ?_) #[true, true, true, true, true, true, false, false, false, false, false, false, false, false] rfl rfl (by kernel_rfl) (fun _ _ _ h => h) (Or.inl ⟨by rfl, ?_⟩) ?_ ?_
  rotate_left
  · intro w'
    go_simp
    with_reducible rfl
  rotate_left
  · simp only [Act.put, List.setIfInBounds_toArray, List.set_cons_zero, List.set_cons_succ, i64_w, i32_w]
    rfl
  refine take_ (i := 6) (N := some 41) (v := ?_) (a' := ?_) #[true, true, true, true, true, true, true, false, false, false, false, false, false, false] rfl rfl (by kernel_rfl) (fun _ _ _ h => h) (Or.inl ⟨by rfl, ?_⟩) hHeld ?_ ?_
  rotate_left
  · rintro w' ⟨s0, s1, s2⟩
    go_simp
    with_reducible rfl
  rotate_left
  · simp only [Act.put, List.setIfInBounds_toArray, List.set_cons_zero, List.set_cons_succ, i64_w, i32_w]
    rfl
  refine take_ (i := 8) (N := some 43) (v := ?_) (a' := ?_) #[true, true, true, true, true, true, true, false, true, false, false, false, false, false] rfl rfl (by kernel_rfl) (fun _ _ _ h => h) (Or.inl ⟨by rfl, ?_⟩) hHeld ?_ ?_
  rotate_left
  · rintro w' ⟨s0, s1, s2⟩
    go_simp
    with_reducible rfl
  rotate_left
  · simp only [Act.put, List.setIfInBounds_toArray, List.set_cons_zero, List.set_cons_succ, i64_w, i32_w]
    rfl
  have S0 : ∀ w', Below w34.heap.size w34 w' → w'.cell? ⟨(ad.add (p.toNat * 4)).block, (ad.add (p.toNat * 4)).off + 3, none⟩ = some (.slice A3 (rd_T62 g p).f3.length c3) ∧ w'.cell? ⟨gb7, 0, none⟩ = some (.int .i64 x) ∧ w'.cell? ⟨gb7, 1, none⟩ = some (.int .i64 s) := fun w' hb' => ⟨(hb'.cell (World.block_lt_of_cell? w34 _ hx3)).trans hx3, (hb'.cell (blk_lt BK7.out)).trans ((blk_cell BK7.out 0).trans rfl), (hb'.cell (blk_lt BK7.out)).trans ((blk_cell BK7.out 1).trans rfl)⟩
  refine join_ (σ := Value × Value) 4 #[true, true, true, true, true, true, true, true, true, true, false, false, false, false] (fun v => [(42, v.1), (44, v.2)]) (fun v w' => Kd.R k64 64 w' w34.heap.size (fun _ => True) v.1 (rd_T62 g p).f3 ∧ Kd.R k64 64 w' w34.heap.size (fun _ => True) v.2 [⟨x, s⟩] ∧ Below w34.heap.size w34 w') ?_ ?_
  rotate_left
  · intro hCont
    have HBd : Below w34.heap.size w34 w34.drew := below_drew1 (Below.refl _ _)
    refine two_ (i := 7) (j := 9) (Ni := some 42) (Nj := some 44) #[true, true, true, true, true, true, true, true, true, false, false, false, false, false] #[true, true, true, true, true, true, true, false, true, true, false, false, false, false] rfl rfl rfl rfl (by kernel_rfl) (by decide) (by decide) (fun K hK => ?_) (fun K hK => ?_)
    · skip
      refine Kd.R_append_rows_step k64 (w0 := w34) w34.heap.size (by rfl) (.const (.slice none 0 0)) (.tmp 41) 60 64 (.agg #[(.int .i64 0), (.int .i64 0)]) 16 rfl Try.underlying60 info64 rfl (by decide) (by omega) (.slice none 0 0) [] (rd_T62 g p).f3 A3 (rd_T62 g p).f3.length c3 (fun _ => True) (fun _ => False) rfl rfl (Kd.R_nil _ _ _ _ _) (Kd.C_below HG3.out HBd) (fun y cs hk => by obtain rfl := k64_open hk; exact k64_mkM _ _ _ y) (fun _ hk => hk.elim) (fun _ _ => trivial) HBd (HBd).size HF.out ?_
      intro v42 w42 ho42 hb42 hg42 hat42
      rw [List.nil_append] at ho42
      refine hK.out _ _ (S0 _ hb42) (fun hHeld2 => ?_)
      clear hK K
      refine norm_ (a' := ?_) ?_ ?_
      rotate_left
      · show Act.put _ (some 42) _ = _
        simp only [Act.put, List.setIfInBounds_toArray, List.set_cons_zero, List.set_cons_succ, i64_w, i32_w]
        rfl
      refine one_ (i := 9) (N := some 44) #[true, true, true, true, true, true, true, true, true, true, false, false, false, false] rfl rfl (by kernel_rfl) (by decide) (fun K hK => ?_)
      refine Kd.R_lit_step k64 (w0 := w34) w34.heap.size 64 (by rfl) (N := 44) rfl (xs := [⟨x, s⟩]) (inner := [.int .i64 x, .int .i64 s]) (ok := fun _ => True) (okp := fun _ => False) (by first | (go_simp; done) | (go_simp; rfl)) (Reps.c2 (k64_mkM _ _ _ (⟨x, s⟩ : S64)) ⟨rfl, fun j q hq => by simp at hq⟩) (fun _ _ => trivial) trivial hb42 (hb42).size (by simp) ?_
      intro v44 w44 ho44 hb44 hg44 hat44
      refine hK.out _ _ (S0 _ hb44) (fun hHeld3 => ?_)
      clear hK K
      refine norm_ (a' := ?_) ?_ ?_
      rotate_left
      · show Act.put _ (some 44) _ = _
        simp only [Act.put, List.setIfInBounds_toArray, List.set_cons_zero, List.set_cons_succ, i64_w, i32_w]
        rfl
      exact norm_ (by simp only [putAll, Act.put, List.setIfInBounds_toArray, List.set_cons_zero, List.set_cons_succ]) (hCont (v42, v44) _ ⟨Kd.R_grown ho42 hg44 (fun _ _ => by simp), ho44, hb44⟩)
    · skip
      refine Kd.R_lit_step k64 (w0 := w34) w34.heap.size 64 (by rfl) (N := 44) rfl (xs := [⟨x, s⟩]) (inner := [.int .i64 x, .int .i64 s]) (ok := fun _ => True) (okp := fun _ => False) (by first | (go_simp; done) | (go_simp; rfl)) (Reps.c2 (k64_mkM _ _ _ (⟨x, s⟩ : S64)) ⟨rfl, fun j q hq => by simp at hq⟩) (fun _ _ => trivial) trivial HBd (HBd).size (by simp) ?_
      intro v44 w44 ho44 hb44 hg44 hat44
      refine hK.out _ _ (S0 _ hb44) (fun hHeld2 => ?_)
      clear hK K
      refine norm_ (a' := ?_) ?_ ?_
      rotate_left
      · show Act.put _ (some 44) _ = _
        simp only [Act.put, List.setIfInBounds_toArray, List.set_cons_zero, List.set_cons_succ, i64_w, i32_w]
        rfl
      refine one_ (i := 7) (N := some 42) #[true, true, true, true, true, true, true, true, true, true, false, false, false, false] rfl rfl (by kernel_rfl) (by decide) (fun K hK => ?_)
      refine Kd.R_append_rows_step k64 (w0 := w34) w34.heap.size (by rfl) (.const (.slice none 0 0)) (.tmp 41) 60 64 (.agg #[(.int .i64 0), (.int .i64 0)]) 16 rfl Try.underlying60 info64 rfl (by decide) (by omega) (.slice none 0 0) [] (rd_T62 g p).f3 A3 (rd_T62 g p).f3.length c3 (fun _ => True) (fun _ => False) rfl rfl (Kd.R_nil _ _ _ _ _) (Kd.C_below HG3.out hb44) (fun y cs hk => by obtain rfl := k64_open hk; exact k64_mkM _ _ _ y) (fun _ hk => hk.elim) (fun _ _ => trivial) hb44 (hb44).size HF.out ?_
      intro v42 w42 ho42 hb42 hg42 hat42
      rw [List.nil_append] at ho42
      refine hK.out _ _ (S0 _ hb42) (fun hHeld3 => ?_)
      clear hK K
      refine norm_ (a' := ?_) ?_ ?_
      rotate_left
      · show Act.put _ (some 42) _ = _
        simp only [Act.put, List.setIfInBounds_toArray, List.set_cons_zero, List.set_cons_succ, i64_w, i32_w]
        rfl
      exact norm_ (by simp only [putAll, Act.put, List.setIfInBounds_toArray, List.set_cons_zero, List.set_cons_succ]) (hCont (v42, v44) _ ⟨ho42, Kd.R_grown ho44 hg42 (fun _ _ => by simp [Value.ownBlock]), hb42⟩)
  rintro ⟨v42, v44⟩ w43 ⟨ho42, ho44, hb43⟩
  refine norm_ (a' := ?_) ?_ ?_
  rotate_left
  · simp only [putAll, Act.put, List.setIfInBounds_toArray, List.set_cons_zero, List.set_cons_succ]
    rfl
  dsimp only at ho42 ho44
  obtain ⟨A44, c44, e44⟩ := Kd.R_slice ho44
  subst e44
  refine one_ (i := 10) (N := some 45) #[true, true, true, true, true, true, true, true, true, true, true, false, false, false] rfl rfl (by kernel_rfl) (by decide) (fun K hK => ?_)
  refine Kd.R_append_rows_step k64 (w0 := w34) w34.heap.size (by rfl) (.tmp 42) (.tmp 44) 60 64 (.agg #[(.int .i64 0), (.int .i64 0)]) 16 rfl Try.underlying60 info64 rfl (by decide) (by omega) v42 (rd_T62 g p).f3 [⟨x, s⟩] A44 1 c44 (fun _ => True) (fun _ => False) rfl rfl ho42 (Kd.R_reads' ho44).2.2 (fun y cs hk => by obtain rfl := k64_open hk; exact k64_mkM _ _ _ y) (fun _ hk => hk.elim) (fun _ _ => trivial) hb43 hb43.size HF2.out ?_
  intro v45 w45 ho45 hb45 hg45 hat45
  refine hK.out _ _ (S0 _ hb45) (fun hHeld4 => ?_)
  clear hK K
  refine norm_ (a' := ?_) ?_ ?_
  rotate_left
  · show Act.put _ (some 45) _ = _
    simp only [Act.put, List.setIfInBounds_toArray, List.set_cons_zero, List.set_cons_succ, i64_w, i32_w]
    rfl
  refine pure_ (i := 11) (N := some 46) (v := ?_) (a' := ?_) #[true, true, true, true, true, true, true, true, true, true, true, true, false, false] rfl rfl (by kernel_rfl) (fun _ _ _ h => h) (Or.inl ⟨by rfl, ?_⟩) ?_ ?_
  rotate_left
  · intro w'
    go_simp
    with_reducible rfl
  rotate_left
  · simp only [Act.put, List.setIfInBounds_toArray, List.set_cons_zero, List.set_cons_succ, i64_w, i32_w]
    rfl
  refine pure_ (i := 12) (N := some 47) (v := ?_) (a' := ?_) #[true, true, true, true, true, true, true, true, true, true, true, true, true, false] rfl rfl (by kernel_rfl) (fun _ _ _ h => h) (Or.inl ⟨by rfl, ?_⟩) ?_ ?_
  rotate_left
  · intro w'
    go_simp
    with_reducible rfl
  rotate_left
  · simp only [Act.put, List.setIfInBounds_toArray, List.set_cons_zero, List.set_cons_succ, i64_w, i32_w]
    rfl
  have hN45 := Kd.N_below HN.out hb45
  have HB45 := below_step HB.out hb45
  have hO45 := Kd.R_below HO19.out hb45
  obtain ⟨A45, c45, e45⟩ := Kd.R_slice ho45
  subst e45
  obtain ⟨ce, hcl, hFK, hcc, _⟩ := Kd.N_elem hN45 z62 p P0.out P1.out
  obtain ⟨A3', c3', ece, _, _⟩ := k62_openF hFK
  have hFx : Kd.FK k62 w45 (fun k => w34.heap.size ≤ k) (⟨(rd_T62 g p).f0, (rd_T62 g p).f1, (rd_T62 g p).f2, (rd_T62 g p).f3 ++ [⟨x, s⟩]⟩ : S62) [.int .i64 (rd_T62 g p).f0, .int .i64 (rd_T62 g p).f1, .int .i64 (rd_T62 g p).f2, .slice A45 ((rd_T62 g p).f3 ++ [(⟨x, s⟩ : S64)]).length c45] :=
    k62_mkF w45 _ _ (Kd.R_reads' ho45).2.1 (Kd.R_F (Kd.R_mono (Kd.R_bound ho45) (fun _ hk => hk.2.1)))
  have hseg := Kd.N_seg (seg := [.slice A45 ((rd_T62 g p).f3 ++ [(⟨x, s⟩ : S64)]).length c45]) (j := 3) hN45 p P0.out P1.out hcl hcc (show 3 + 1 ≤ 4 by decide) (x' := (⟨(rd_T62 g p).f0, (rd_T62 g p).f1, (rd_T62 g p).f2, (rd_T62 g p).f3 ++ [⟨x, s⟩]⟩ : S62)) (okp := fun k => w34.heap.size ≤ k) (by
    have e : ce = [.int .i64 (rd_T62 g p).f0, .int .i64 (rd_T62 g p).f1, .int .i64 (rd_T62 g p).f2, .slice A3' (rd_T62 g p).f3.length c3'] := ece
    rw [e]; exact hFx) (fun k hk => ⟨trivial, by omega⟩)
  rw [show k62.sz = 4 from rfl] at hseg
  obtain ⟨hNs, hgs⟩ := hseg
  have hBs : Below w.heap.size w (w45.setCells gm (p.toNat * 4 + 3) [.slice A45 ((rd_T62 g p).f3 ++ [(⟨x, s⟩ : S64)]).length c45]) := HB45.grown hgs HB45.size (fun k hk => by injection hk with hk; omega)
  have hOs := Kd.R_over' (v := .slice (some ⟨gm, 0, none⟩) g.length cm) hO45 (Kd.N_typed hN45) (by decide) hgs
  obtain ⟨cur, hcur, hcsz⟩ : ∃ cur, w45.heap[gm]? = some (.cells cur 62 (0, 0)) ∧ p.toNat * 4 + 4 ≤ cur.size := by
    obtain ⟨_, rows, hlr, ⟨_, inn, hown, _⟩, _⟩ := hN45
    rcases hown.2 with ⟨hv, _⟩ | ⟨g', cap', cur, hv, hb, hh, hnc, hcm, hcs, _⟩
    · cases hv
    · injection hv with ha _ hc
      injection ha with ha
      injection ha with hg'
      subst hg'; subst hc
      refine ⟨cur, hh, ?_⟩
      have h1 := P1.out
      have h2 : (Kd.raw k62.sz).sz = 4 := rfl
      rw [h2] at hcs
      have h3 := P0.out
      omega
  refine last_ (i := 13) (N := none) #[true, true, true, true, true, true, true, true, true, true, true, true, true, true] rfl rfl (by kernel_rfl) (by decide) (fun K hK => ?_)
  have hrun := run_store_run (P := Try.prog) (o := p.toNat * 4 + 3) 60 (.slice A45 ((rd_T62 g p).f3 ++ [(⟨x, s⟩ : S64)]).length c45) [.slice A45 ((rd_T62 g p).f3 ++ [(⟨x, s⟩ : S64)]).length c45] hcur rfl (by kernel_rfl) (by simp; omega) (fun q hq => by rw [List.mem_singleton.1 hq]; rfl)
  refine store_step_ (p := .tmp 47) (x := .tmp 45) (by rfl) rfl rfl rfl rfl hrun ?_
  refine hK.out _ _ ?_
  clear hK K
  refine done_ (by kernel_rfl) ?_
  have hMM := Kd.N_reads' hNs
  have hlen2 : (g.set p.toNat (⟨(rd_T62 g p).f0, (rd_T62 g p).f1, (rd_T62 g p).f2, (rd_T62 g p).f3 ++ [⟨x, s⟩]⟩ : S62)).length = g.length := List.length_set ..
  have hMC := hMM.2.2
  rw [hlen2] at hMC
  have hcm := hMM.2.1
  generalize (w45.setCells gm (p.toNat * 4 + 3) [.slice A45 ((rd_T62 g p).f3 ++ [(⟨x, s⟩ : S64)]).length c45]) = W5 at hBs hOs hMC ⊢
  have HM : Aside0 (Kd.C k62 W5 (some ⟨gm, 0, none⟩) g.length (addE g p ⟨x, s⟩)) := ⟨hMC⟩
  have HCM : Aside0 (g.length ≤ cm) := ⟨hcm⟩
  clear HB HO19 HN BK7 hMM hMC hcm hNs hgs hN45 HB45 hO45 hb45 hg45 hat45 ho45 hb43 ho44 ho42 hcur hcsz hFx hFK hcc ece hcl S0 hHeld hHeld4 hx3 hgm2 hrun hlen2 HG3 HE3
  have HB := Aside0.mk hBs
  have HO19 := Aside0.mk hOs
  clear hBs hOs
  clear hp0 hp1
  rcases HCC.out with (h | h | h) | ⟨h, hl1, hl2, hmono⟩
  · subst h
    clear HCC
    go_wp2_with (first | ((with_reducible refine gate_callee (f := 27) rfl ?_); refine goesL_ (some 51) rfl rfl Try.func27 (by kernel_rfl) rfl #[.slice (some ⟨gm, 0, none⟩) g.length cm, .int .i64 fr] rfl ar_ ?_; (with_reducible refine (reach_calls' k2 (addE_len g p ⟨x, s⟩) HM.out HCM.out AR2.out).mono ?_); rintro e w51 ⟨v52, rfl, ho0, hb⟩; refine ⟨_, rfl, ?_⟩; have n0_ := Aside0.mk (Kd.R_lower ho0 (below_size (bw_ HB))); have n1_ := Aside0.mk (below_step (bw_ HB) hb); have n2_ := Aside0.mk (Kd.R_below HO19.out hb); clear HB; clear HO19; have HO52 := n0_; have HB := n1_; have HO19 := n2_; clear n0_ n1_ n2_; clear hb ho0) | ((with_reducible refine gate_dst (N := 13) rfl ?_); (try (refine gate_guard (by rfl) ?_; dsimp only)); refine bx_ (N := 13) (cs := #[.int .i64 0, .int .i64 0]) (t := 28) ?_; intro gb13 hg w13 hbox hb; have n0_ := Aside0.mk (Kd.R_below HO19.out hb); have n1_ := Aside0.mk (Kd.R_below HO52.out hb); have BK13 := Aside0.mk hbox; have GW13 := bs_ HB hg; replace HB := hs_ HB hb; clear HO19 HO52; have HO19 := n0_; have HO52 := n1_; clear n0_ n1_; clear hb hbox hg; obtain ⟨hcz13_0, hcz13_1, hfz13_0, hfz13_1⟩ := cz2_ BK13) | (go_at_call 21; (with_reducible refine (linkhouselaw7_crossed.calls 60 true _ crossed_k).mono ?_); rintro e wc ⟨rfl, hbc⟩; have HB2 := Aside0.mk (below_step (bw_ HB) hbc); clear HB hbc; have HB := HB2; clear HB2))
    go_ret
    exact ⟨id_, bw_ HB⟩
  · subst h
    clear HCC
    go_wp2_with (first | ((with_reducible refine gate_callee (f := 27) rfl ?_); refine goesL_ (some 51) rfl rfl Try.func27 (by kernel_rfl) rfl #[.slice (some ⟨gm, 0, none⟩) g.length cm, .int .i64 fr] rfl ar_ ?_; (with_reducible refine (reach_calls' k2 (addE_len g p ⟨x, s⟩) HM.out HCM.out AR2.out).mono ?_); rintro e w51 ⟨v52, rfl, ho0, hb⟩; refine ⟨_, rfl, ?_⟩; have n0_ := Aside0.mk (Kd.R_lower ho0 (below_size (bw_ HB))); have n1_ := Aside0.mk (below_step (bw_ HB) hb); have n2_ := Aside0.mk (Kd.R_below HO19.out hb); clear HB; clear HO19; have HO52 := n0_; have HB := n1_; have HO19 := n2_; clear n0_ n1_ n2_; clear hb ho0) | ((with_reducible refine gate_dst (N := 13) rfl ?_); (try (refine gate_guard (by rfl) ?_; dsimp only)); refine bx_ (N := 13) (cs := #[.int .i64 0, .int .i64 0]) (t := 28) ?_; intro gb13 hg w13 hbox hb; have n0_ := Aside0.mk (Kd.R_below HO19.out hb); have n1_ := Aside0.mk (Kd.R_below HO52.out hb); have BK13 := Aside0.mk hbox; have GW13 := bs_ HB hg; replace HB := hs_ HB hb; clear HO19 HO52; have HO19 := n0_; have HO52 := n1_; clear n0_ n1_; clear hb hbox hg; obtain ⟨hcz13_0, hcz13_1, hfz13_0, hfz13_1⟩ := cz2_ BK13) | (go_at_call 21; (with_reducible refine (linkhouselaw7_crossed.calls 60 true _ crossed_k).mono ?_); rintro e wc ⟨rfl, hbc⟩; have HB2 := Aside0.mk (below_step (bw_ HB) hbc); clear HB hbc; have HB := HB2; clear HB2))
    go_ret
    exact ⟨id_, bw_ HB⟩
  · subst h
    clear HCC
    go_wp2_with (first | ((with_reducible refine gate_callee (f := 27) rfl ?_); refine goesL_ (some 51) rfl rfl Try.func27 (by kernel_rfl) rfl #[.slice (some ⟨gm, 0, none⟩) g.length cm, .int .i64 fr] rfl ar_ ?_; (with_reducible refine (reach_calls' k2 (addE_len g p ⟨x, s⟩) HM.out HCM.out AR2.out).mono ?_); rintro e w51 ⟨v52, rfl, ho0, hb⟩; refine ⟨_, rfl, ?_⟩; have n0_ := Aside0.mk (Kd.R_lower ho0 (below_size (bw_ HB))); have n1_ := Aside0.mk (below_step (bw_ HB) hb); have n2_ := Aside0.mk (Kd.R_below HO19.out hb); clear HB; clear HO19; have HO52 := n0_; have HB := n1_; have HO19 := n2_; clear n0_ n1_ n2_; clear hb ho0) | ((with_reducible refine gate_dst (N := 13) rfl ?_); (try (refine gate_guard (by rfl) ?_; dsimp only)); refine bx_ (N := 13) (cs := #[.int .i64 0, .int .i64 0]) (t := 28) ?_; intro gb13 hg w13 hbox hb; have n0_ := Aside0.mk (Kd.R_below HO19.out hb); have n1_ := Aside0.mk (Kd.R_below HO52.out hb); have BK13 := Aside0.mk hbox; have GW13 := bs_ HB hg; replace HB := hs_ HB hb; clear HO19 HO52; have HO19 := n0_; have HO52 := n1_; clear n0_ n1_; clear hb hbox hg; obtain ⟨hcz13_0, hcz13_1, hfz13_0, hfz13_1⟩ := cz2_ BK13) | (go_at_call 21; (with_reducible refine (linkhouselaw7_crossed.calls 60 true _ crossed_k).mono ?_); rintro e wc ⟨rfl, hbc⟩; have HB2 := Aside0.mk (below_step (bw_ HB) hbc); clear HB hbc; have HB := HB2; clear HB2))
    go_ret
    exact ⟨id_, bw_ HB⟩
  · subst h
    clear HCC
    have HL2 := Aside0.mk hl2
    have HL1 := Aside0.mk hl1
    have HMO := Aside0.mk hmono
    obtain ⟨A19, c19, e19⟩ := Kd.R_slice HO19.out
    rw [hl1] at e19
    subst e19
    clear hl1 hl2 hmono
    go_wp2_with (first | ((with_reducible refine gate_callee (f := 27) rfl ?_); refine goesL_ (some 51) rfl rfl Try.func27 (by kernel_rfl) rfl #[.slice (some ⟨gm, 0, none⟩) g.length cm, .int .i64 fr] rfl ar_ ?_; (with_reducible refine (reach_calls' k2 (addE_len g p ⟨x, s⟩) HM.out HCM.out AR2.out).mono ?_); rintro e w51 ⟨v52, rfl, ho0, hb⟩; refine ⟨_, rfl, ?_⟩; have n0_ := Aside0.mk (Kd.R_lower ho0 (below_size (bw_ HB))); have n1_ := Aside0.mk (below_step (bw_ HB) hb); have n2_ := Aside0.mk (Kd.R_below HO19.out hb); clear HB; clear HO19; have HO52 := n0_; have HB := n1_; have HO19 := n2_; clear n0_ n1_ n2_; clear hb ho0; obtain ⟨A52, c52, e52⟩ := Kd.R_slice HO52.out; rw [HL2.out] at e52; subst e52) | ((with_reducible refine gate_dst (N := 13) rfl ?_); (try (refine gate_guard (by rfl) ?_; dsimp only)); refine bx_ (N := 13) (cs := #[.int .i64 0, .int .i64 0]) (t := 28) ?_; intro gb13 hg w13 hbox hb; have n0_ := Aside0.mk (Kd.R_below HO19.out hb); have n1_ := Aside0.mk (Kd.R_below HO52.out hb); have BK13 := Aside0.mk hbox; have GW13 := bs_ HB hg; replace HB := hs_ HB hb; clear HO19 HO52; have HO19 := n0_; have HO52 := n1_; clear n0_ n1_; clear hb hbox hg; obtain ⟨hcz13_0, hcz13_1, hfz13_0, hfz13_1⟩ := cz2_ BK13))
    have hA := Kd.R_mono (Kd.R_far (p := ⟨gb13, 1, none⟩) (Kd.R_far (p := ⟨gb13, 0, none⟩) (Kd.R_types HO19.out BK13.out (by decide)) (fun _ hk => hk.2) (.int .i64 0)) (fun _ hk => hk.2) (.int .i64 i2)) (fun _ h_ => h_.1)
    have hB := Kd.R_mono (Kd.R_far (p := ⟨gb13, 1, none⟩) (Kd.R_far (p := ⟨gb13, 0, none⟩) (Kd.R_types HO52.out BK13.out (by decide)) (fun _ hk => hk.2) (.int .i64 0)) (fun _ hk => hk.2) (.int .i64 i2)) (fun _ h_ => h_.1)
    have hC : Below w.heap.size w ((w13.setCell ⟨gb13, 0, none⟩ (.int .i64 0)).setCell ⟨gb13, 1, none⟩ (.int .i64 i2)) := bw_ HB
    generalize ((w13.setCell ⟨gb13, 0, none⟩ (.int .i64 0)).setCell ⟨gb13, 1, none⟩ (.int .i64 i2)) = W6 at hA hB hC ⊢
    clear HO19 HO52 HB BK13 hcz13_0 hcz13_1 hfz13_0 hfz13_1
    have HO19 := Aside0.mk hA
    have HO52 := Aside0.mk hB
    have HB := Aside0.mk hC
    clear hA hB hC
    go_loop [14] (fun v14 => ∃ q : Nat, q ≤ g.length ∧ v14 = .int .i64 q) (fun v14 => g.length - (intOf v14).toNat)
    case atStart => exact ⟨0, Nat.zero_le _, rfl⟩
    case round =>
      obtain ⟨q, hq, rfl⟩ := hrel
      have hl100 := HL.out
      by_cases hlt : q < g.length
      · have q0 : (0 : Int) ≤ (q : Int) := by omega
        have q1 : (q : Int) < ((g.length : Nat) : Int) := by omega
        obtain ⟨ad1, e1, hx1⟩ := Kd.at_bool (Kd.R_reads' HO19.out).2.2 (q : Int) q0 (by rw [HL1.out]; exact q1)
        obtain ⟨ad2, e2, hx2⟩ := Kd.at_bool (Kd.R_reads' HO52.out).2.2 (q : Int) q0 (by rw [HL2.out]; exact q1)
        subst e1
        subst e2
        rw [Int.toNat_natCast] at hx1 hx2
        cases hb : rdOf false l1 (q : Int) with
        | true =>
          have hb2 := HMO.out (q : Int) q0 q1 hb
          rw [hb] at hx1
          rw [hb2] at hx2
          clear hb hb2
          go_wp2
          go_round
          case rel => exact ⟨q + 1, by omega, by go_num⟩
          case measure => simp [intOf]; omega
        | false =>
          rw [hb] at hx1
          clear hb hx2
          go_wp2
          go_round
          case rel => exact ⟨q + 1, by omega, by go_num⟩
          case measure => simp [intOf]; omega
      · go_wp2_with (first | (go_at_call 21; (with_reducible refine (linkhouselaw7_crossed.calls 60 true _ crossed_k).mono ?_); rintro e wc ⟨rfl, hbc⟩; have HB2 := Aside0.mk (below_step (bw_ HB) hbc); clear HB hbc; have HB := HB2; clear HB2))
        go_ret
        exact ⟨id_, bw_ HB⟩
set_option maxHeartbeats 4000000 in
set_option maxRecDepth 100000 in
theorem more_bad {g : List S62} {A0 : Option Addr} {c0 : Nat} {fr p x s : Int} {w : World} (hr0 : Kd.C k62 w A0 g.length g) (hc0 : g.length ≤ c0) {k1 : Nat} {l1 : List Bool} {c1 i1 : Int} (h1 : flow_Reachable.f k1 g fr = some (l1, c1, i1)) (hc1 : c1 ≠ 0) :
    Calls Try.prog 10 #[.slice A0 g.length c0, .int .i64 fr, .int .i64 p, .agg #[.int .i64 x, .int .i64 s]] w fun e w' => e = .returned (.bool true) ∧ Below w.heap.size w w' := by
  have hu28 := Try.underlying28
  have hu64 := Try.underlying64
  have HR0 := Aside0.mk hr0
  have HC0 := Aside0.mk hc0
  have AR1 := Aside0.mk h1
  clear hr0 hc0 h1
  have cb0 : (c1 == 0) = false := beq_eq_false_iff_ne.mpr hc1
  have cb1 : (c1 != 0) = true := bne_iff_ne.mpr hc1
  clear hc1
  have HB := Aside0.mk (Below.refl w.heap.size w)
  go_enter Try.func10, Try.ntmps10
  go_wp2_with (first | ((with_reducible refine gate_dst (N := 7) rfl ?_); (try (refine gate_guard (by rfl) ?_; dsimp only)); refine bx_ (N := 7) (cs := #[.int .i64 x, .int .i64 s]) (t := 64) ?_; intro gb7 hg w2 hbox hb; have BK7 := Aside0.mk hbox; have GW7 := bs_ HB hg; replace HB := hs_ HB hb; clear hb hbox hg; obtain ⟨hcz7_0, hcz7_1, hfz7_0, hfz7_1⟩ := cz2_ BK7) | ((with_reducible refine gate_callee (f := 27) rfl ?_); refine goesL_ (some 18) rfl rfl Try.func27 (by kernel_rfl) rfl #[.slice A0 g.length c0, .int .i64 fr] rfl ar_ ?_; (with_reducible refine (flow_Reachable.calls k1 _ _ g fr l1 c1 i1 _ ?side1 ?side2 AR1.out).mono ?_); (case side1 => exact cb_ HR0 HB); (case side2 => exact HC0.out); rintro e w7 ⟨v19, rfl, ho0, hb⟩; refine ⟨_, rfl, ?_⟩; have n0_ := Aside0.mk (Kd.R_lower ho0 (below_size (bw_ HB))); have n1_ := Aside0.mk (below_step (bw_ HB) hb); have n2_ := bb_ BK7 hb; clear HB; clear BK7; have HO19 := n0_; have HB := n1_; have BK7 := n2_; clear n0_ n1_ n2_; (try clear hb); (try clear ho0)) | ((with_reducible refine gate_dst (N := 10) rfl ?_); (try (refine gate_guard (by rfl) ?_; dsimp only)); refine bx_ (N := 10) (cs := #[.int .i64 0, .int .i64 0]) (t := 28) ?_; intro gb10 hg w8 hbox hb; have n0_ := Aside0.mk (Kd.R_below (by (with_reducible repeat (first | apply Kd.R_alloc | apply Kd.R_drewN | apply Kd.R_drew)); exact HO19.out) hb); have BK10 := Aside0.mk hbox; have GW10 := bs_ HB hg; have NB7 := Aside0.mk ((by rw [hg]; exact Nat.ne_of_lt (blk_lt (bk_ BK7))) : gb7 ≠ gb10); have n2_ := bb_ BK7 hb; replace HB := hs_ HB hb; clear BK7 HO19; have BK7 := n2_; have HO19 := n0_; clear n0_ n2_; clear hb hbox hg; obtain ⟨hcz10_0, hcz10_1, hfz10_0, hfz10_1⟩ := cz2_ BK10) | (go_at_call 21; (with_reducible refine (linkhouselaw7_crossed.calls 60 true _ crossed_k).mono ?_); rintro e wc ⟨rfl, hbc⟩; have HB2 := Aside0.mk (below_step (bw_ HB) hbc); clear HB hbc; have HB := HB2; clear HB2))
  go_ret
  exact ⟨id_, bw_ HB⟩
set_option maxHeartbeats 4000000 in
set_option maxRecDepth 100000 in
theorem more_out {g : List S62} {A0 : Option Addr} {c0 : Nat} {fr p x s : Int} {w : World} (hr0 : Kd.C k62 w A0 g.length g) (hc0 : g.length ≤ c0) {k1 : Nat} {l1 : List Bool} {i1 : Int} (h1 : flow_Reachable.f k1 g fr = some (l1, 0, i1)) (hlen : g.length ≤ 100) (hp : ¬ (0 ≤ p ∧ p < (g.length : Int))) :
    Calls Try.prog 10 #[.slice A0 g.length c0, .int .i64 fr, .int .i64 p, .agg #[.int .i64 x, .int .i64 s]] w fun e w' => e = .returned (.bool true) ∧ Below w.heap.size w w' := by
  have hu28 := Try.underlying28
  have hu64 := Try.underlying64
  have HR0 := Aside0.mk hr0
  have HC0 := Aside0.mk hc0
  have AR1 := Aside0.mk h1
  have AI : Aside0 (linkhouseref7_In.f p 0 ((g.length : Int) - 1) = some false) := ⟨by
    unfold linkhouseref7_In.f
    split
    · rw [decide_eq_false (by omega)]
    · rfl⟩
  clear hr0 hc0 h1 hp
  have HB := Aside0.mk (Below.refl w.heap.size w)
  go_enter Try.func10, Try.ntmps10
  go_wp2_with (first | ((with_reducible refine gate_dst (N := 7) rfl ?_); (try (refine gate_guard (by rfl) ?_; dsimp only)); refine bx_ (N := 7) (cs := #[.int .i64 x, .int .i64 s]) (t := 64) ?_; intro gb7 hg w2 hbox hb; have BK7 := Aside0.mk hbox; have GW7 := bs_ HB hg; replace HB := hs_ HB hb; clear hb hbox hg; obtain ⟨hcz7_0, hcz7_1, hfz7_0, hfz7_1⟩ := cz2_ BK7) | ((with_reducible refine gate_callee (f := 27) rfl ?_); refine goesL_ (some 18) rfl rfl Try.func27 (by kernel_rfl) rfl #[.slice A0 g.length c0, .int .i64 fr] rfl ar_ ?_; (with_reducible refine (flow_Reachable.calls k1 _ _ g fr l1 0 i1 _ ?side1 ?side2 AR1.out).mono ?_); (case side1 => exact cb_ HR0 HB); (case side2 => exact HC0.out); rintro e w7 ⟨v19, rfl, ho0, hb⟩; refine ⟨_, rfl, ?_⟩; have n0_ := Aside0.mk (Kd.R_lower ho0 (below_size (bw_ HB))); have n1_ := Aside0.mk (below_step (bw_ HB) hb); have n2_ := bb_ BK7 hb; clear HB; clear BK7; have HO19 := n0_; have HB := n1_; have BK7 := n2_; clear n0_ n1_ n2_; (try clear hb); (try clear ho0)) | ((with_reducible refine gate_dst (N := 10) rfl ?_); (try (refine gate_guard (by rfl) ?_; dsimp only)); refine bx_ (N := 10) (cs := #[.int .i64 0, .int .i64 0]) (t := 28) ?_; intro gb10 hg w8 hbox hb; have n0_ := Aside0.mk (Kd.R_below (by (with_reducible repeat (first | apply Kd.R_alloc | apply Kd.R_drewN | apply Kd.R_drew)); exact HO19.out) hb); have BK10 := Aside0.mk hbox; have GW10 := bs_ HB hg; have NB7 := Aside0.mk ((by rw [hg]; exact Nat.ne_of_lt (blk_lt (bk_ BK7))) : gb7 ≠ gb10); have n2_ := bb_ BK7 hb; replace HB := hs_ HB hb; clear BK7 HO19; have BK7 := n2_; have HO19 := n0_; clear n0_ n2_; clear hb hbox hg; obtain ⟨hcz10_0, hcz10_1, hfz10_0, hfz10_1⟩ := cz2_ BK10) | (go_at_call 16; refine (linkhouseref7_In.calls p 0 ((g.length : Int) - 1) false _ AI.out).mono ?_; rintro e w' ⟨rfl, ⟨nd, rfl⟩⟩) | (go_at_call 21; (with_reducible refine (linkhouselaw7_crossed.calls 60 true _ crossed_k).mono ?_); rintro e wc ⟨rfl, hbc⟩; have HB2 := Aside0.mk (below_step (bw_ HB) hbc); clear HB hbc; have HB := HB2; clear HB2))
  go_ret
  exact ⟨id_, bw_ HB⟩
theorem k62_heap : Kd.Heap k62 := Kd.heap_iso _ (Kd.heap_pair (Kd.heap_int _) (Kd.heap_pair (Kd.heap_int _) (Kd.heap_pair (Kd.heap_int _) (Kd.heap_slice 64 (Kd.heap_iso _ (Kd.heap_pair (Kd.heap_int _) (Kd.heap_int _)))))))
theorem more_calls {g : List S62} (F : Fit g) {A0 : Option Addr} {c0 : Nat} {fr p x s : Int} {w : World} (hr0 : Kd.C k62 w A0 g.length g) (hc0 : g.length ≤ c0) :
    Calls Try.prog 10 #[.slice A0 g.length c0, .int .i64 fr, .int .i64 p, .agg #[.int .i64 x, .int .i64 s]] w fun e w' => e = .returned (.bool true) ∧ Below w.heap.size w w' := by
  obtain ⟨k1, l1, c1, i1, h1, e1, R1⟩ := reach_ans F fr
  by_cases hc : c1 = 0
  · subst hc
    obtain ⟨G, f0, f1⟩ := chkR_zero.1 e1.symm
    by_cases hp : 0 ≤ p ∧ p < (g.length : Int)
    · obtain ⟨k2, l2, c2, i2, h2, e2, R2⟩ := reach_ans (addE_fit G hp.1 hp.2 ⟨x, s⟩) fr
      have R1' := R1 rfl
      refine more_ok hr0 (Kd.C_F k62_heap hr0) hc0 h1 h2 ?_ G.len (by have := edgs_le (rd62_mem hp.1 hp.2); have := G.few; omega) hp.1 hp.2
      by_cases hc2 : c2 = 0
      · have R2' := R2 hc2
        refine .inr ⟨hc2, R1'.len, R2'.len.trans (addE_len _ _ _), fun b b0 b1 hb => ?_⟩
        have h3 := (R1'.mem b).1 ⟨b0, by rw [R1'.len]; exact b1, hb⟩
        exact ((R2'.mem b).2 (addE_rch hp.1 hp.2 _ h3)).2.2
      · rw [e2] at hc2 ⊢
        exact .inl (chkR_code hc2)
    · exact more_out hr0 hc0 h1 G.len hp
  · exact more_bad hr0 hc0 h1 hc
end Go.Proofs.Ytaellapacoikaaa.PB
