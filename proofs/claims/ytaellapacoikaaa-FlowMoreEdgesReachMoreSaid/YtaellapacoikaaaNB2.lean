import Derived.Test.YtaellapacoikaaaNB1
import Derived.Deep.Cut
import Derived.Deep.DeepMust
import Derived.Outline
import Derived.Test.YtaellapacoikaaaN0
namespace Go.Proofs.Ytaellapacoikaaa.PB
open Go.RowKit Go.Proofs.YtaellapacoikaaaW.PrintWords Go.Proofs.YtaellapacoikaaaW.PrintLast Go.Proofs.YtaellapacoikaaaW.PrintMore
set_option linter.unusedVariables false
set_option linter.unusedSimpArgs false
/-- a row that the search does not touch -/
def Away (gs Bo : Nat) (W : World) (v : Value) : Prop := ∀ b, v.ownBlock = some b → b ≠ gs ∧ b ≠ Bo ∧ outB Bo W ≠ some b
theorem rowAway {W0 : World} {Bs Bg Bv Bo gs n cs : Nat} {A : Option Addr} {c : Nat} {g : List S62} {s : List Bool × List Int} {W W1 : World} (h : VSt W0 Bs Bg Bv Bo gs n cs A c g s W) {v : Value} {l : List Int} (hr : Kd.R (Kd.int .i64) 3 W1 W.heap.size (fun _ => True) v l) (hb : Below W.heap.size W W1) : Away gs Bo W1 v := by
 intro b hb1
 have h1 := Kd.R_base hr b hb1
 have h2 := h.gslt
 have h3 := h.bolt
 refine ⟨by omega, by omega, fun e => ?_⟩
 rw [outB_same (hb.block Bo h3)] at e
 have := h.outlt b e
 omega
theorem Away.step {gs Bo : Nat} {W W1 : World} {v : Value} {l : List Int} {base : Nat} (h : Away gs Bo W v) (hf : Fr gs Bo W W1) (hr : Kd.R (Kd.int .i64) 3 W base (fun _ => True) v l) : Away gs Bo W1 v ∧ Kd.R (Kd.int .i64) 3 W1 base (fun _ => True) v l := by
 refine ⟨fun b hb => ?_, ?_⟩
 ·
  obtain ⟨h1, h2, h3⟩ := h b hb
  refine ⟨h1, h2, ?_⟩
  rcases hf.at_ with e | ⟨b', hb', e⟩
  ·
   rw [e]; exact h3
  ·
   rw [e]; intro e2; injection e2 with e2
   have := Kd.R_lt hr b hb
   omega
 ·
  refine Kd.R_mono (Kd.R_step (Kd.R_tight rfl hr) (fun k hk hlt => ?_)) (fun _ _ => trivial)
  obtain ⟨h1, h2, h3⟩ := h k hk.symm
  exact hf.same k hlt h1 h2 h3
set_option maxRecDepth 100000 in
set_option maxHeartbeats 2000000 in
theorem vis_calls (W0 : World) (Bs Bg Bv Bo gs n cs : Nat) (A : Option Addr) (c : Nat) (g : List S62) : ∀ k s i s', vis k g s i = some s' → ∀ W, VSt W0 Bs Bg Bv Bo gs n cs A c g s W →
  Calls Try.prog 64 #[.int .i64 i, .pointer (some ⟨Bs, 0, none⟩), .pointer (some ⟨Bg, 0, none⟩), .pointer (some ⟨Bv, 0, none⟩), .pointer (some ⟨Bo, 0, none⟩)] W fun e W' => e = .returned (.tuple #[]) ∧ VSt W0 Bs Bg Bv Bo gs n cs A c g s' W' ∧ Fr gs Bo W W' := by
 intro k
 induction k with
 | zero => intro s i s' h; cases h
 | succ k ih =>
  intro s i s' h W hV
  rw [vis_succ] at h
  split at h
  case isFalse => cases h
  rename_i hc
  obtain ⟨h0, h1, h2, h3⟩ := hc
  obtain ⟨s1, e1, e2⟩ := Option.bind_eq_some_iff.1 h
  clear h
  split at e2
  case isFalse => cases e2
  rename_i hs1
  injection e2 with e2
  have hn := hV.len
  obtain ⟨m1, m2, V1⟩ := hV.mark i h0 h1
  have hc1 : W.cell? ⟨Bs, 0, none⟩ = some (.slice (some ⟨gs, 0, none⟩) n cs) := (blk_cell hV.bs 0).trans rfl
  have E1 := Aside0.mk e1
  have E2 := Aside0.mk e2
  have V2 := Aside0.mk V1
  have F2 := Aside0.mk (hV.markFr i.toNat (.bool true))
  have p0 := eq_true h0
  have p1 : (i < (n : Int)) = True := eq_true (by omega)
  have p2 : (i < (g.length : Int)) = True := eq_true (by omega)
  clear e1 e2 V1 hV hn h0 h1 h2
  go_enter Try.func64, Try.ntmps64
  go_upto_region 1 with (fail)
  clear hc1 m1 m2 p1
  generalize W.setCell ⟨gs, i.toNat, none⟩ (.bool true) = W1 at V2 F2 ⊢
  have hc2 : W1.cell? ⟨Bg, 0, none⟩ = some (.slice A g.length c) := (blk_cell V2.out.bg 0).trans rfl
  obtain ⟨ad, A3, c3, eA, x0, x1, x2, x3, l3, r3⟩ := at_T62 V2.out.rg i (of_eq_true p0) (of_eq_true p2)
  cases eA
  replace x0 := (V2.out.bel.cell (World.block_lt_of_cell? W0 _ x0)).trans x0
  replace x1 := (V2.out.bel.cell (World.block_lt_of_cell? W0 _ x1)).trans x1
  replace x2 := (V2.out.bel.cell (World.block_lt_of_cell? W0 _ x2)).trans x2
  replace x3 := (V2.out.bel.cell (World.block_lt_of_cell? W0 _ x3)).trans x3
  have R3 := Aside0.mk (Kd.C_below r3 V2.out.bel)
  have L3 := Aside0.mk l3
  have H3 := Aside0.mk h3
  clear r3 l3 h3
  go_wp2_with (go_at_call 48; refine (flow_Inner.calls ((rd_T62 g i).f3.length + 1) _ _ _ _ _ (rd_T62 g i).f3 (innerL g i) _ R3.out L3.out (inner_f _ _ _ _ H3.out)).mono ?_; rintro e W2 ⟨v2, rfl, hr2, hb2⟩; have V3 := Aside0.mk (V2.out.below hb2); have F3 := Aside0.mk (F2.out.trans (Fr.below hb2 V2.out.bolt)); have HL := Aside0.mk hr2; have NL := Aside0.mk (rowAway V2.out HL.out hb2); clear hb2 hr2 F2; obtain ⟨Al, cl, el⟩ := Kd.R_slice HL.out; subst el; clear R3)
  clear hc2 x0 x1 x2 x3
  go_loopg [7, 17] (innerL g i).length (fun gk v7 v17 wr => ∃ (j : Nat) (sj : List Bool × List Int), v17 = .int .i64 (j : Int) ∧ Aside0 (j + gk = (innerL g i).length) ∧ Aside0 (((innerL g i).drop j).foldlM (visStep k g) sj = some s1) ∧ Aside0 (VSt W0 Bs Bg Bv Bo gs n cs (some ad) c g sj wr) ∧ Aside0 (Fr gs Bo W wr) ∧ Aside0 (Kd.R (Kd.int .i64) 3 wr W1.heap.size (fun _ => True) (.slice Al (innerL g i).length cl) (innerL g i)) ∧ Aside0 (Away gs Bo wr (.slice Al (innerL g i).length cl)))
  case atStart => exact ⟨0, _, rfl, ⟨by omega⟩, ⟨E1.out⟩, V3, F3, HL, NL⟩
  case round =>
   clear E1 V3 F3 HL NL
   obtain ⟨j, sj, rfl, HJ, HA, HV, HF, HL, NL⟩ := hrel
   have hn := HV.out.len
   by_cases hlt : j < (innerL g i).length
   ·
    have hd := HA.out
    rw [List.drop_eq_getElem_cons hlt, List.foldlM_cons] at hd
    obtain ⟨s2, ha1, ha2⟩ := Option.bind_eq_some_iff.1 hd
    clear hd HA
    have hx : rd (innerL g i) (j : Int) = (innerL g i)[j] := by
     unfold rd
     rw [Int.toNat_natCast, List.getD_eq_getElem?_getD, List.getElem?_eq_getElem hlt]; rfl
    obtain ⟨al, eal, hxl⟩ := Kd.at_int (Kd.R_reads' HL.out).2.2 (j : Int) (by omega) (by omega)
    cases eal
    rw [hx, Int.toNat_natCast] at hxl
    generalize (innerL g i)[j] = x at ha1 hxl
    unfold visStep at ha1
    split at ha1
    case isFalse => cases ha1
    rename_i hr
    obtain ⟨r0, r1⟩ := hr
    obtain ⟨m1, m2, -⟩ := HV.out.mark x r0 r1
    have hcs : wr.cell? ⟨Bs, 0, none⟩ = some (.slice (some ⟨gs, 0, none⟩) n cs) := (blk_cell HV.out.bs 0).trans rfl
    have hcv : wr.cell? ⟨Bv, 0, none⟩ = some (.func (.func 64) #[] #[.pointer (some ⟨Bs, 0, none⟩), .pointer (some ⟨Bg, 0, none⟩), .pointer (some ⟨Bv, 0, none⟩), .pointer (some ⟨Bo, 0, none⟩)]) := (blk_cell HV.out.bv 0).trans rfl
    have q0 := eq_true r0
    have q1 : (x < (n : Int)) = True := eq_true (by omega)
    have HA2 := Aside0.mk ha2
    have HX := Aside0.mk hx
    have hjb : j < 1000 := by have h1 := innerE_len (rd_T62 g i).f3; have h2 := H3.out; have h3 : (innerL g i).length = (innerE (rd_T62 g i).f3).length := rfl; omega
    clear ha2 hx m2 r0 r1 hn
    split at ha1
    ·
     rename_i hseen
     rw [hseen] at m1
     injection ha1 with ha1
     subst ha1
     clear hseen
     go_wp2
     go_roundg (gk - 1)
     case measure => have := HJ.out; omega
     case rel => exact ⟨j + 1, sj, by go_num, ⟨by have := HJ.out; omega⟩, HA2, HV, HF, HL, NL⟩
    ·
     rename_i hseen
     rw [show rdOf false sj.1 x = false from by simpa using hseen] at m1
     have HA1 := Aside0.mk ha1
     clear ha1 hseen
     go_wp2_with (go_at_call 64; refine (ih sj x s2 HA1.out wr HV.out).mono ?_; rintro e W4 ⟨rfl, V4, F4⟩; have HV4 := Aside0.mk V4; have HF4 := Aside0.mk (HF.out.trans F4); have HN4 := Aside0.mk (NL.out.step F4 HL.out); clear V4 F4)
     go_roundg (gk - 1)
     case measure => have := HJ.out; omega
     case rel => exact ⟨j + 1, s2, by go_num, ⟨by have := HJ.out; omega⟩, HA2, HV4, HF4, ⟨HN4.out.2⟩, ⟨HN4.out.1⟩⟩
   ·
    have hd := HA.out
    rw [List.drop_eq_nil_of_le (by omega)] at hd
    simp only [List.foldlM_nil] at hd
    injection hd with hd
    subst hd
    clear HA
    have e2 := E2.out
    subst e2
    obtain ⟨vo, ho1, ho2⟩ := HV.out.bo
    have hco : wr.cell? ⟨Bo, 0, none⟩ = some vo := (blk_cell ho1 0).trans rfl
    have HO2 := Aside0.mk ho2
    have HO1 := Aside0.mk ho1
    have HS := Aside0.mk hs1
    clear ho2 ho1 hn hs1 E2
    go_wp2_with ((with_reducible refine gate_builtin (b := .append) (xs := #[.tmp 30, .tmp 32]) rfl ?_); at_builtin; go_must (refine Kd.R_append (Kd.int .i64) (w0 := W0) W0.heap.size rfl (.tmp 30) (.tmp 32) 22 3 (.int .i64 0) 8 rfl Try.underlying22 info3 rfl (by decide) (by omega) vo sj.2 i [.int .i64 i] (fun _ => True) (fun _ => False) rfl (by first | (go_simp; done) | (go_simp; rfl)) rfl (fun _ hk => hk.elim) (fun _ _ => trivial) HO2.out HV.out.bel HV.out.bel.size (by have := HS.out; omega) ?_); intro v1 w1 ho hb hg hat; obtain ⟨Aq, cq, eq_⟩ := Kd.R_slice ho; rw [List.length_append, List.length_singleton] at eq_; subst eq_; have HD := Aside0.mk (HV.out.done HO1.out ho hb hg hat); clear ho hb hg hat; have hd1 := HD.out.1; have hd2 := HD.out.2.1)
    go_end0
    exact ⟨rfl, HD.out.2.2.1, HF.out.trans HD.out.2.2.2⟩
end Go.Proofs.Ytaellapacoikaaa.PB
