import Derived.Test.YtaellapacoikaaaNB1
import Derived.Deep.Cut
import Derived.Deep.DeepMust
import Derived.StillTailTactics
namespace Go.Proofs.Ytaellapacoikaaa.PB
open Go.RowKit Go.Proofs.YtaellapacoikaaaW.PrintWords Go.Proofs.YtaellapacoikaaaW.PrintLast Go.Proofs.YtaellapacoikaaaW.PrintMore
set_option linter.unusedVariables false
set_option linter.unusedSimpArgs false
def mulOk (n : Nat) : Bool := bits_Mul.f 1 (n : Int) == some (0, (n : Int))
set_option maxRecDepth 100000 in
theorem mulOk_all : (List.range 1001).all mulOk = true := by kernel_rfl
theorem mul_one (n : Nat) (h : n ≤ 1000) : bits_Mul.f 1 (n : Int) = some (0, (n : Int)) := by
 have := List.all_eq_true.1 mulOk_all n (List.mem_range.2 (by omega))
 exact eq_of_beq this
/-- the part that is filled is copied behind itself -/
theorem rep_copy {P : Program} {W : World} {base gs n cs q : Nat} {x : Int} (hu : P.underlying 22 = some (.slice 3)) (hi : (P.info? 3).map (·.size) = some 1) (h : Kd.R (Kd.int .i64) 3 W base (fun _ => True) (.slice (some ⟨gs, 0, none⟩) n cs) (List.replicate q x ++ List.replicate (n - q) 0)) (hq : q ≤ n) :
  ∃ w1, (Builtin.copy_ #[22, 22] 3 #[.slice (some ⟨gs, q, none⟩) (n - q) (cs - q), .slice (some ⟨gs, 0, none⟩) q cs]).run P W = .ok (goInt (Nat.min q (n - q))) w1 ∧
   Kd.R (Kd.int .i64) 3 w1 base (fun _ => True) (.slice (some ⟨gs, 0, none⟩) n cs) (List.replicate (q + Nat.min q (n - q)) x ++ List.replicate (n - (q + Nat.min q (n - q))) 0) ∧ W.grownBy w1 (some gs) := by
 have hown := Kd.own_of_R h
 rcases hown.2 with ⟨hv, _⟩ | ⟨g, cap, cur, hv, hb, hh, hnc, hcm, hcs, htake⟩
 ·
  cases hv
 injection hv with ha hl hc
 injection ha with ha
 injection ha with ha _ _
 subst ha
 have hlen : (List.replicate q x ++ List.replicate (n - q) (0 : Int)).length = n := by simp; omega
 rw [hlen] at hnc htake
 have hm : Nat.min q (n - q) ≤ n - q := Nat.min_le_right _ _
 have hm2 : Nat.min q (n - q) ≤ q := Nat.min_le_left _ _
 generalize hM : Nat.min q (n - q) = m at hm hm2 ⊢
 have hcz : cur.size = cap := by omega
 have hvl : (List.replicate m (Value.int .i64 x)).length = m := List.length_replicate ..
 have hcell : ∀ j, j < q → W.cell? ⟨gs, j, none⟩ = some (.int .i64 x) := by
  intro j hj
  rw [cell_of_row W gs j cur 3 (0, 0) hh]
  have h1 : (cur.toList.take n)[j]? = some (.int .i64 x) := by
   rw [Nat.mul_one] at htake
   rw [htake]
   simp only [encs, List.map_append, List.map_replicate]
   rw [List.getElem?_append_left (by simp; omega), List.getElem?_replicate, if_pos (by omega)]
  rw [List.getElem?_take, if_pos (by omega)] at h1
  rw [← Array.getElem?_toList]; exact h1
 have hr := run_copy_cells (P := P) W 22 22 3 3 gs q (n - q) (cs - q) ⟨gs, 0, none⟩ q cs (List.replicate m (.int .i64 x)) hu hi (by rw [hvl, hM])
  (fun j v hj => by
   rw [List.getElem?_replicate] at hj
   split at hj
   ·
    injection hj with hj; subst hj
    rw [add_plain]; exact hcell j (by omega)
   ·
    cases hj)
  (fun j hj => by rw [hvl] at hj; rw [cell_of_row W gs _ cur 3 (0, 0) hh]; simp; omega) (fun j _ => blk_frozen hh _) (by intro v hv; rw [List.mem_replicate] at hv; rw [hv.2]; rfl)
 rw [hvl] at hr
 obtain ⟨cur', h3, h4, h5⟩ := setCells_row (List.replicate m (.int .i64 x)) q W cur hh (by rw [hvl]; omega)
 obtain ⟨s1, s2, s3, s4⟩ := setCells_same gs (List.replicate m (.int .i64 x)) q W
 refine ⟨_, hr, Kd.R_of_own ?_ (fun _ _ => trivial), ⟨s1, s2, s3, by rw [s4]; exact Nat.le_refl _, fun k _ hk => setCells_far _ _ k (fun he => hk (by rw [he]))⟩⟩
 have hln : (List.replicate (q + m) x ++ List.replicate (n - (q + m)) (0 : Int)).length = n := by simp; omega
 rw [hln]
 refine ⟨by rw [encs_length, hln, Nat.mul_one], .inr ⟨gs, cs, cur', rfl, hb, h3, by rw [hc]; exact hnc, by rw [hc]; exact hcm, by rw [h4, hc]; exact hcs, ?_⟩⟩
 rw [h5, hvl, Nat.mul_one]
 rw [Nat.mul_one] at htake
 have e1 : cur.toList.take q = List.replicate q (.int .i64 x) := by
  have : (cur.toList.take n).take q = List.replicate q (.int .i64 x) := by
   rw [htake]; simp [encs, List.take_append]
  rwa [List.take_take, Nat.min_eq_left hq] at this
 have e2 : (cur.toList.drop (q + m)).take (n - (q + m)) = List.replicate (n - (q + m)) (.int .i64 0) := by
  have : (cur.toList.take n).drop (q + m) = List.replicate (n - (q + m)) (.int .i64 0) := by
   rw [htake]
   simp only [encs, List.map_append, List.map_replicate]
   rw [List.drop_append, List.drop_eq_nil_of_le (by simp), List.nil_append, List.length_replicate, List.drop_replicate]
   congr 1; omega
  rwa [List.drop_take] at this
 rw [e1, List.take_append, List.take_of_length_le (by simp; omega), List.length_append, List.length_replicate, List.length_replicate, e2]
 simp only [encs, List.map_append, List.map_replicate, List.replicate_append_replicate]
set_option maxRecDepth 100000 in
set_option maxHeartbeats 2000000 in
theorem repeat_calls (A : Option Addr) (c : Nat) (x : Int) (n : Nat) (w : World) (hr : Kd.C (Kd.int .i64) w A 1 [x]) (hc : 1 ≤ c) (h1 : 1 ≤ n) (hn : n ≤ 1000) :
  Calls Try.prog 59 #[.slice A 1 c, .int .i64 (n : Int)] w fun e w' => ∃ v : Value, e = .returned v ∧ Kd.R (Kd.int .i64) 3 w' w.heap.size (fun _ => True) v (List.replicate n x) ∧ Below w.heap.size w w' := by
 have HR := Aside0.mk hr
 have HM := Aside0.mk (mul_one n hn)
 have hn0 : decide ((n : Int) < 0) = false := decide_eq_false (by omega)
 clear hr
 go_enter Try.func59, Try.ntmps59
 go_upto_region 7 with (first | (go_at_call 65; refine (bits_Mul.calls 1 (n : Int) 0 (n : Int) _ HM.out).mono ?_; rintro e w' ⟨rfl, ⟨nd, rfl⟩⟩) | ((with_reducible refine gate_dst (N := 30) rfl ?_); go_must (refine Kd.R_make (Kd.int .i64) (w0 := w) w.heap.size 3 rfl (N := 30) rfl 22 _ _ rfl (n : Int) rfl rfl Try.underlying22 (.int .i64 0) 8 info3 rfl (by decide) (by omega) 0 (ok := fun _ => True) (okp := fun _ => True) rfl (fun _ hk => hk) trivial (by omega) (by omega) (pw_below_drewN (Below.refl _ _) _) (Nat.le_refl _) ?_); intro v1 w1 ho hb hg hnew; rw [Int.toNat_natCast] at ho; obtain ⟨gs, cs, ev, hgs, hgl, -⟩ := Kd.R_form ho (by rw [List.length_replicate]; omega); rw [List.length_replicate] at ev; subst ev; have HO := Aside0.mk ho; have HB := Aside0.mk hb; have GS := Aside0.mk hgs; clear ho hb hg hnew hgs hgl))
 have HB2 : Aside0 (Below w.heap.size w w1) := ⟨HB.out⟩
 have HO2 : Aside0 (Kd.R (Kd.int .i64) 3 w1 w.heap.size (fun _ => True) (.slice (some ⟨gs, 0, none⟩) n cs) (List.replicate n 0)) := ⟨HO.out⟩
 clear HB HO
 go_wp2_with ((with_reducible refine gate_builtin (b := .copy) (xs := #[.tmp 31, .tmp 32]) rfl ?_); go_must (refine Kd.R_copy (0 : Int) (w0 := w) w.heap.size rfl (.tmp 31) (.tmp 32) 22 22 3 rfl Try.underlying22 (by kernel_rfl) (.slice (some ⟨gs, 0, none⟩) n cs) (List.replicate n 0) [x] A 1 c (fun _ => True) rfl rfl HO2.out (Kd.C_below HR.out HB2.out) HB2.out HB2.out.size ?_); intro w2 ho hb hg; rw [List.length_replicate, Nat.min_eq_left h1, List.drop_replicate] at ho; have HO := Aside0.mk ho; have HB := Aside0.mk hb; clear ho hb hg)
 clear HO2 HB2
 go_loopg [8] (n - 1) (fun gk v8 wr => ∃ q : Nat, v8 = .int .i64 (q : Int) ∧ Aside0 (q + gk = n) ∧ Aside0 (1 ≤ q) ∧ Aside0 (Kd.R (Kd.int .i64) 3 wr w.heap.size (fun _ => True) (.slice (some ⟨gs, 0, none⟩) n cs) (List.replicate q x ++ List.replicate (n - q) 0)) ∧ Aside0 (Below w.heap.size w wr))
 case atStart => exact ⟨1, rfl, ⟨by omega⟩, ⟨by omega⟩, HO, HB⟩
 case round =>
  obtain ⟨q, rfl, HQ, HQ1, HO2, HB2⟩ := hrel
  have hq1 := HQ.out
  have hq2 := HQ1.out
  have hcap := (Kd.R_reads' HO2.out).2.1
  by_cases hlt : q < n
  ·
   have hqn : q ≤ n := by omega
   have hqc : q ≤ cs := by omega
   have hqz : ¬ cs = q := by omega
   clear hq1
   go_wp2
   obtain ⟨w3, hrun, hrow, hgr⟩ := rep_copy Try.underlying22 (by kernel_rfl) (Kd.R_drew HO2.out) hqn
   refine start_ (n := 10) (S := fun w' => True) (ds := []) #[false, false, false, false, false, false, false, false, false, false] (by kernel_rfl) rfl rfl (trivial) (fun hHeld => ?_)
   refine pure_ (i := 0) (N := some 38) (v := ?_) (a' := ?_) #[true, false, false, false, false, false, false, false, false, false] rfl rfl (by kernel_rfl) (fun _ _ _ h => h) (Or.inl ⟨by rfl, ?_⟩) ?_ ?_
   rotate_left
   ·
    intro w'
    go_simp
    with_reducible rfl
   rotate_left
   ·
    simp only [Act.put, List.setIfInBounds_toArray, List.set_cons_zero, List.set_cons_succ, i64_w, i32_w]
    rfl
   refine pure_ (i := 1) (N := some 39) (v := ?_) (a' := ?_) #[true, true, false, false, false, false, false, false, false, false] rfl rfl (by kernel_rfl) (fun _ _ _ h => h) (Or.inl ⟨by rfl, ?_⟩) ?_ ?_
   rotate_left
   ·
    intro w'
    go_simp
    with_reducible rfl
   rotate_left
   ·
    simp only [Act.put, List.setIfInBounds_toArray, List.set_cons_zero, List.set_cons_succ, i64_w, i32_w]
    rfl
   refine pure_ (i := 2) (N := some 40) (v := ?_) (a' := ?_) #[true, true, true, false, false, false, false, false, false, false] rfl rfl (by kernel_rfl) (fun _ _ _ h => h) (Or.inl ⟨by rfl, ?_⟩) ?_ ?_
   rotate_left
   ·
    intro w'
    go_simp
    with_reducible rfl
   rotate_left
   ·
    simp only [Act.put, List.setIfInBounds_toArray, List.set_cons_zero, List.set_cons_succ, i64_w, i32_w]
    rfl
   refine pure_ (i := 3) (N := some 41) (v := ?_) (a' := ?_) #[true, true, true, true, false, false, false, false, false, false] rfl rfl (by kernel_rfl) (fun _ _ _ h => h) (Or.inl ⟨by rfl, ?_⟩) ?_ ?_
   rotate_left
   ·
    intro w'
    go_simp
    with_reducible rfl
   rotate_left
   ·
    simp only [Act.put, List.setIfInBounds_toArray, List.set_cons_zero, List.set_cons_succ, i64_w, i32_w]
    rfl
   refine pure_ (i := 4) (N := some 42) (v := ?_) (a' := ?_) #[true, true, true, true, true, false, false, false, false, false] rfl rfl (by kernel_rfl) (fun _ _ _ h => h) (Or.inl ⟨by rfl, ?_⟩) ?_ ?_
   rotate_left
   ·
    intro w'
    go_simp
    with_reducible rfl
   rotate_left
   ·
    simp only [Act.put, List.setIfInBounds_toArray, List.set_cons_zero, List.set_cons_succ, i64_w, i32_w]
    rfl
   refine pure_ (i := 5) (N := some 43) (v := ?_) (a' := ?_) #[true, true, true, true, true, true, false, false, false, false] rfl rfl (by kernel_rfl) (fun _ _ _ h => h) (Or.inl ⟨by rfl, ?_⟩) ?_ ?_
   rotate_left
   ·
    intro w'
    go_simp
    with_reducible rfl
   rotate_left
   ·
    simp only [Act.put, List.setIfInBounds_toArray, List.set_cons_zero, List.set_cons_succ, i64_w, i32_w]
    rfl
   refine pure_ (i := 6) (N := some 44) (v := ?_) (a' := ?_) #[true, true, true, true, true, true, true, false, false, false] rfl rfl (by kernel_rfl) (fun _ _ _ h => h) (Or.inl ⟨by rfl, ?_⟩) ?_ ?_
   rotate_left
   ·
    intro w'
    go_simp
    with_reducible rfl
   rotate_left
   ·
    simp only [Act.put, List.setIfInBounds_toArray, List.set_cons_zero, List.set_cons_succ, i64_w, i32_w]
    rfl
   refine one_ (i := 7) (N := some 45) #[true, true, true, true, true, true, true, true, false, false] rfl rfl (by kernel_rfl) (by decide) (fun K hK => ?_)
   refine value_ (w1 := w3) (v := .int .i64 ((Nat.min q (n - q) : Nat) : Int)) (by rfl) rfl ?_ ?_
   ·
    simp [execOp, resolve, invoke, builtin, Act.eval, Result.andThen]
    rw [hrun]
    rfl
   refine hK.out _ _ (trivial) (fun hHeld => ?_)
   clear hK K
   refine norm_ (a' := ?_) ?_ ?_
   rotate_left
   ·
    show Act.put _ (some 45) _ = _
    simp only [Act.put, List.setIfInBounds_toArray, List.set_cons_zero, List.set_cons_succ, i64_w, i32_w]
    rfl
   refine pure_ (i := 8) (N := some 46) (v := ?_) (a' := ?_) #[true, true, true, true, true, true, true, true, true, false] rfl rfl (by kernel_rfl) (fun _ _ _ h => h) (Or.inl ⟨by rfl, ?_⟩) ?_ ?_
   rotate_left
   ·
    intro w'
    go_simp
    with_reducible rfl
   rotate_left
   ·
    simp only [Act.put, List.setIfInBounds_toArray, List.set_cons_zero, List.set_cons_succ, i64_w, i32_w]
    rfl
   refine pure_ (i := 9) (N := some 8) (v := ?_) (a' := ?_) #[true, true, true, true, true, true, true, true, true, true] rfl rfl (by kernel_rfl) (fun _ _ _ h => h) (Or.inl ⟨by rfl, ?_⟩) ?_ ?_
   rotate_left
   ·
    intro w'
    go_simp
    with_reducible rfl
   rotate_left
   ·
    simp only [Act.put, List.setIfInBounds_toArray, List.set_cons_zero, List.set_cons_succ, i64_w, i32_w]
    rfl
   refine done_ (by kernel_rfl) ?_
   have hm : 1 ≤ Nat.min q (n - q) := Nat.le_min.2 ⟨hq2, by omega⟩
   have hm2 : Nat.min q (n - q) ≤ n - q := Nat.min_le_right _ _
   have HB3 := Aside0.mk (pw_below_grown (below_drew1 HB2.out) _ (by have := HB2.out.size; exact this) hgr (fun k hk => by injection hk with hk; subst hk; exact Kd.R_base HO2.out gs rfl))
   have HO3 := Aside0.mk hrow
   generalize Nat.min q (n - q) = m at hm hm2 HO3 ⊢
   clear hrow hgr
   go_wp2
   go_roundg (n - (q + m))
   case measure => have := HQ.out; omega
   case rel => exact ⟨q + m, by rw [show wrap64 ((q : Int) + (m : Int)) = ((q + m : Nat) : Int) from by unfold wrap64; omega], ⟨by omega⟩, ⟨by omega⟩, HO3, HB3⟩
  ·
   obtain rfl : q = n := by omega
   clear hq1 HQ
   go_wp2
   go_ret
   exact ⟨_, rfl, by have := HO2.out; rw [Nat.sub_self, List.replicate_zero, List.append_nil] at this; exact this, HB2.out⟩
end Go.Proofs.Ytaellapacoikaaa.PB
