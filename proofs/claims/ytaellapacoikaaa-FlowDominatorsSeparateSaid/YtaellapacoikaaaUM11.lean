import Derived.Test.YtaellapacoikaaaUSBx12
import Derived.Test.YtaellapacoikaaaUM10
namespace Go.Proofs.Ytaellapacoikaaa.PB
open Go.RowKit Go.Proofs.YtaellapacoikaaaW.PrintWords Go.Proofs.YtaellapacoikaaaW.PrintLast Go.Proofs.YtaellapacoikaaaW.PrintMore Dom
set_option linter.unusedVariables false
set_option linter.unusedSimpArgs false
/-! ### FlowDominatorsSeparate -/
theorem in_f (x lo hi : Int) : linkhouseref7_In.f x lo hi = some (decide (lo ≤ x ∧ x ≤ hi)) := by
  unfold linkhouseref7_In.f
  split
  · rename_i h
    rw [show decide (lo ≤ x ∧ x ≤ hi) = decide (x ≤ hi) from by rw [decide_eq_decide]; exact ⟨And.right, fun h2 => ⟨h, h2⟩⟩]
  · rename_i h
    rw [decide_eq_false (fun h2 => h h2.1)]
theorem in_ev (x lo hi : Int) : Ev (fun _ => linkhouseref7_In.f x lo hi) (decide (lo ≤ x ∧ x ≤ hi)) := by rw [in_f]; exact Ev.now _
theorem reachable_ev {g : List S62} (G : GV g) {a : Int} (h0 : 0 ≤ a) (h1 : a < (g.length : Int)) : ∃ r, Ev (fun k => flow_Reachable.f k g a) (r, 0, 0) ∧ Rs g (-1) a r := by
  obtain ⟨r, hr, R⟩ := reach_f G h0 h1 (-1)
  have hC := chk_f G.fit a
  rw [chkR_ok ⟨G, h0, h1⟩] at hC
  refine ⟨r, Ev.bind (g := fun k => flow_check.f k g a) hC ?_, R⟩
  refine Ev.congr (fun k => ?_) (Ev.bind (f := fun _ t => some (t, (0 : Int), (0 : Int))) hr (Ev.now _))
  rw [if_neg zz_]
/-- a block without its edges to i -/
def cutE (i : Int) (es : List S64) : List S64 := es.filter fun e => decide (e.f1 ≠ i)
def lessL (g : List S62) (i : Int) : List S62 := g.map fun b => ⟨0, 0, 0, cutE i b.f3⟩
theorem less_rd {g : List S62} {i p : Int} (h0 : 0 ≤ p) (h1 : p < (g.length : Int)) : (rd_T62 (lessL g i) p).f3 = cutE i (rd_T62 g p).f3 := by
  have hlt : p.toNat < g.length := by omega
  have e : p = ((p.toNat : Nat) : Int) := by omega
  rw [e, rd62 (by unfold lessL; rw [List.length_map]; exact hlt), rd62 hlt]
  unfold lessL
  rw [List.getElem_map]
theorem less_gv {g : List S62} (G : GV g) (i : Int) : GV (lessL g i) := by
  have hl : (lessL g i).length = g.length := by unfold lessL; rw [List.length_map]
  refine ⟨by rw [hl]; exact G.len, ?_, fun b hb e he => ?_⟩
  · refine Nat.le_trans ?_ G.few
    unfold edgs lessL
    rw [List.map_map]
    exact sum_le _ _ g (fun b _ => List.length_filter_le _ _)
  · rw [hl]
    obtain ⟨c, hc, rfl⟩ := List.mem_map.1 hb
    exact G.ok c hc e (List.mem_filter.1 he).1
theorem less_ed {g : List S62} {i p x : Int} (h : Ed (lessL g i) p x) : Ed g p x ∧ x ≠ i := by
  have hl : (lessL g i).length = g.length := by unfold lessL; rw [List.length_map]
  have h1 : p < (g.length : Int) := by rw [← hl]; exact h.2.1
  obtain ⟨a, e, he, b, c⟩ := mem_inner.1 h.2.2
  rw [less_rd h.1 h1] at he
  obtain ⟨m1, m2⟩ := List.mem_filter.1 he
  have hne : x ≠ i := by rw [← c]; exact of_decide_eq_true m2
  exact ⟨⟨h.1, h1, mem_inner.2 ⟨a, e, m1, b, c⟩⟩, hne⟩
theorem less_rch {g : List S62} {i a x : Int} (ha : a ≠ i) (h : Rch (Ed (lessL g i)) (-1) a x) : Rch (Ed g) i a x := by
  induction h with
  | refl _ => exact Rch.refl ha
  | step _ e _ ih => obtain ⟨h1, h2⟩ := less_ed e; exact Rch.step ih h1 h2
section
variable {g : List S62} (G : GV g) {a b : Int} (h0 : 0 ≤ a) (h1 : a < (g.length : Int)) (hb0 : 0 ≤ b) (hb1 : b < (g.length : Int)) {r : List Int} (D : DomOk g a r)
include G h0 h1 hb0 hb1 D
theorem sep_end (hb : Rch (Ed g) (-1) a b) (hna : gt r b ≠ a) (hba : b ≠ a) (q : Nat) (hq : g.length ≤ q) : Ev (fun k => linkhouselaw7_FlowDominatorsSeparate.l0 k g a b r (lessL g (gt r b)) (q : Int)) true := by
  have hl : (lessL g (gt r b)).length = g.length := by unfold lessL; rw [List.length_map]
  obtain ⟨s, hs, S⟩ := reachable_ev (less_gv G (gt r b)) h0 (by rw [hl]; exact h1)
  have hsl : s.length = g.length := S.len.trans hl
  have hno : ¬ rdOf false s b = true := fun h => by
    have h2 := less_rch (Ne.symm hna) ((S.mem b).1 ⟨hb0, by rw [hsl]; exact hb1, h⟩)
    exact ((D.dom b hb).2.resolve_left (D.ne b hb hba)) h2
  refine Ev.step (fun k => by rw [linkhouselaw7_FlowDominatorsSeparate.l0, if_neg (by omega)]) (Ev.bind hs ?_)
  refine Ev.congr (fun k => by rw [if_pos rfl, if_pos (by rw [hsl]), if_pos hb0, if_pos (by rw [hsl]; exact hb1), if_neg hno]) (Ev.bind (f := fun _ t => some t) crossed_ev (Ev.now true))
theorem sep_l1 {i : Nat} (hi : i < g.length) {acc : List S62} (ha : acc.length ≤ g.length) {res : Bool}
    (next : Ev (fun k => linkhouselaw7_FlowDominatorsSeparate.l0 k g a b r (acc ++ [⟨0, 0, 0, cutE (gt r b) g[i].f3⟩]) ((i + 1 : Nat) : Int)) res) : ∀ (es : List S64) (j : Nat), g[i].f3.drop j = es →
      Ev (fun k => linkhouselaw7_FlowDominatorsSeparate.l1 k g a b r acc (i : Int) (j : Int) 0 0 0 (cutE (gt r b) (g[i].f3.take j))) res := by
  have hlen := G.len
  have i0 : (0 : Int) ≤ (i : Int) := by omega
  have i1 : (i : Int) < (g.length : Int) := by omega
  have hbr : b < (r.length : Int) := by rw [D.len]; exact hb1
  have hfew : g[i].f3.length ≤ 300 := by have := edgs_le (List.getElem_mem hi); have := G.few; omega
  have wi : wrap64 ((i : Int) + 1) = ((i + 1 : Nat) : Int) := ws (Nat.le_of_lt hi) (Nat.le_trans hlen (by decide))
  intro es
  induction es with
  | nil =>
    intro j hj
    have hjl : g[i].f3.length ≤ j := List.drop_eq_nil_iff.1 hj
    have hj' : ¬ ((j : Int) < (g[i].f3.length : Int)) := by clear wi; omega
    have hal : acc.length < 2932031007402 := by clear wi; omega
    rw [List.take_of_length_le hjl]
    exact Ev.step (fun k => by rw [linkhouselaw7_FlowDominatorsSeparate.l1, if_pos i0, if_pos i1, rd62 hi, if_neg hj', if_pos hal, wi]) next
  | cons e es ih =>
    intro j hj
    obtain ⟨hjl, he, hd⟩ := drop_cons hj
    have h2 := ih (j + 1) hd
    have j0 : (0 : Int) ≤ (j : Int) := by clear wi; omega
    have j1 : (j : Int) < (g[i].f3.length : Int) := by clear wi; omega
    have wj : wrap64 ((j : Int) + 1) = ((j + 1 : Nat) : Int) := ws (Nat.le_of_lt hjl) (Nat.le_trans hfew (by decide))
    rw [← List.take_append_getElem hjl, he] at h2
    have hcut : cutE (gt r b) (g[i].f3.take j ++ [e]) = cutE (gt r b) (g[i].f3.take j) ++ (if e.f1 = gt r b then [] else [e]) := by
      unfold cutE
      rw [List.filter_append]
      by_cases c : e.f1 = gt r b <;> simp [c]
    rw [hcut] at h2
    have hgr : rd r b = gt r b := (gt_in hb0 hbr).symm
    by_cases c : e.f1 = gt r b
    · rw [if_pos c, List.append_nil] at h2
      exact Ev.step (fun k => by rw [linkhouselaw7_FlowDominatorsSeparate.l1, if_pos i0, if_pos i1, rd62 hi, if_pos j1, if_pos j0, if_pos hb0, if_pos hbr, rd64 hjl, he, hgr, if_pos c, wj]) h2
    · rw [if_neg c] at h2
      have hcl : (cutE (gt r b) (g[i].f3.take j)).length < 8796093022208 := by
        have := List.length_filter_le (fun e : S64 => decide (e.f1 ≠ gt r b)) (g[i].f3.take j)
        rw [List.length_take] at this
        unfold cutE
        clear wi wj
        omega
      exact Ev.step (fun k => by rw [linkhouselaw7_FlowDominatorsSeparate.l1, if_pos i0, if_pos i1, rd62 hi, if_pos j1, if_pos j0, if_pos hb0, if_pos hbr, rd64 hjl, he, hgr, if_neg c, if_pos hcl, wj]) h2
theorem sep_l0 (hb : Rch (Ed g) (-1) a b) (hna : gt r b ≠ a) (hba : b ≠ a) : ∀ (m i : Nat), i + m = g.length → Ev (fun k => linkhouselaw7_FlowDominatorsSeparate.l0 k g a b r (lessL (g.take i) (gt r b)) (i : Int)) true := by
  intro m
  induction m with
  | zero =>
    intro i hi
    rw [List.take_of_length_le (by omega)]
    exact sep_end G h0 h1 hb0 hb1 D hb hna hba i (by omega)
  | succ m ih =>
    intro i hi
    have hil : i < g.length := by omega
    have next := ih (i + 1) (by omega)
    rw [← List.take_append_getElem hil] at next
    have e : lessL (g.take i ++ [g[i]]) (gt r b) = lessL (g.take i) (gt r b) ++ [⟨0, 0, 0, cutE (gt r b) g[i].f3⟩] := by unfold lessL; rw [List.map_append]; rfl
    rw [e] at next
    have h := sep_l1 G h0 h1 hb0 hb1 D hil (acc := lessL (g.take i) (gt r b)) (by unfold lessL; rw [List.length_map, List.length_take]; omega) next g[i].f3 0 rfl
    have e2 : cutE (gt r b) (g[i].f3.take 0) = [] := by simp [cutE]
    rw [e2] at h
    exact Ev.step (fun k => by rw [linkhouselaw7_FlowDominatorsSeparate.l0, if_pos (by omega)]; rfl) h
theorem sep_j3 (hb : 0 ≤ gt r b → Rch (Ed g) (-1) a b) (q : Bool) (hq : q = false → 0 ≤ gt r b ∧ gt r b ≠ a ∧ b ≠ a) : Ev (fun k => linkhouselaw7_FlowDominatorsSeparate.j3 k g a b r q) true := by
  cases q with
  | true => exact Ev.step (fun k => by rw [linkhouselaw7_FlowDominatorsSeparate.j3, if_pos rfl]) (Ev.bind (f := fun _ t => some t) crossed_ev (Ev.now true))
  | false =>
    obtain ⟨a1, a2, a3⟩ := hq rfl
    exact Ev.step (fun k => by rw [linkhouselaw7_FlowDominatorsSeparate.j3, if_neg (by decide)]; rfl) (sep_l0 G h0 h1 hb0 hb1 D (hb a1) a2 a3 g.length 0 (Nat.zero_add _))
theorem sep_j0 : Ev (fun k => linkhouselaw7_FlowDominatorsSeparate.j0 k g a b r false) true := by
  have hlen := G.len
  have hbr : b < (r.length : Int) := by rw [D.len]; exact hb1
  have hgr : rd r b = gt r b := (gt_in hb0 hbr).symm
  have w1 : wrap64 ((g.length : Int) - 1) = (g.length : Int) - 1 := w64 (by omega) (by omega)
  have hrng : -1 ≤ gt r b ∧ gt r b ≤ (g.length : Int) - 1 := by
    by_cases c : Rch (Ed g) (-1) a b
    · have := D.rng b c; clear w1; omega
    · rw [D.none b c]; clear w1; omega
  obtain ⟨s, hs, S⟩ := reachable_ev G h0 h1
  have hsl : b < (s.length : Int) := by rw [S.len]; exact hb1
  have hiff : rdOf false s b = true ↔ Rch (Ed g) (-1) a b := ⟨fun h => (S.mem b).1 ⟨hb0, hsl, h⟩, fun h => ((S.mem b).2 h).2.2⟩
  have hb : 0 ≤ gt r b → Rch (Ed g) (-1) a b := fun h => by
    by_cases c : Rch (Ed g) (-1) a b
    · exact c
    · rw [D.none b c] at h; omega
  have hx : (rdOf false s b != decide (rd r b ≥ 0)) = false := by
    rw [hgr]
    cases e : rdOf false s b with
    | true => have := D.rng b (hiff.1 e); rw [decide_eq_true this.1]; rfl
    | false => rw [decide_eq_false (fun h => by have := hiff.2 (hb h); rw [e] at this; cases this)]; rfl
  refine Ev.step (fun k => by rw [linkhouselaw7_FlowDominatorsSeparate.j0, if_neg (by decide), if_pos (by rw [D.len]), if_pos hb0, if_pos hbr, w1]) (Ev.bind (in_ev _ _ _) ?_)
  rw [hgr, decide_eq_true hrng]
  refine Ev.step (fun k => by rw [linkhouselaw7_FlowDominatorsSeparate.j1, if_neg (by decide)]) (Ev.bind hs ?_)
  refine Ev.congr (fun k => by rw [if_pos rfl, if_pos (by rw [S.len]), if_pos hb0, if_pos hsl, if_pos hbr, hx]) ?_
  by_cases c1 : gt r b < 0
  · refine Ev.step (fun k => by rw [linkhouselaw7_FlowDominatorsSeparate.j2, if_neg (by decide), if_pos hb0, if_pos hbr, hgr, if_pos c1]) (sep_j3 G h0 h1 hb0 hb1 D hb true (fun h => by cases h))
  · by_cases c2 : gt r b = a
    · refine Ev.step (fun k => by rw [linkhouselaw7_FlowDominatorsSeparate.j2, if_neg (by decide), if_pos hb0, if_pos hbr, hgr, if_neg c1, if_pos c2]) (sep_j3 G h0 h1 hb0 hb1 D hb true (fun h => by cases h))
    · refine Ev.step (fun k => by rw [linkhouselaw7_FlowDominatorsSeparate.j2, if_neg (by decide), if_pos hb0, if_pos hbr, hgr, if_neg c1, if_neg c2]) (sep_j3 G h0 h1 hb0 hb1 D hb (b == a) (fun h => ⟨by omega, c2, by simpa using h⟩))
end
theorem sep_true {g : List S62} {a b : Int} {r : List Int} : Ev (fun k => linkhouselaw7_FlowDominatorsSeparate.j0 k g a b r true) true :=
  Ev.step (fun k => by rw [linkhouselaw7_FlowDominatorsSeparate.j0, if_pos rfl]) (Ev.bind (f := fun _ t => some t) crossed_ev (Ev.now true))
theorem separate_pure {g : List S62} (F : Fit g) (a b : Int) : ∃ k, linkhouselaw7_FlowDominatorsSeparate.f k g a b = some true := by
  refine Ev.rounds (g := fun k => linkhouselaw7_FlowDominatorsSeparate.f k g a b) ?_
  by_cases hz : (chkR g a).1 = 0
  · obtain ⟨G, h0, h1⟩ := chkR_zero.1 hz
    have hlen := G.len
    obtain ⟨r, hr, D⟩ := doms_ev G h0 h1
    have w1 : wrap64 ((g.length : Int) - 1) = (g.length : Int) - 1 := w64 (by omega) (by omega)
    refine Ev.bind hr (Ev.congr (fun k => by rw [if_pos rfl, w1]) (Ev.bind (in_ev _ _ _) ?_))
    by_cases c : 0 ≤ b ∧ b ≤ (g.length : Int) - 1
    · rw [decide_eq_true c]
      exact sep_j0 G h0 h1 c.1 (by clear w1; omega) D
    · rw [decide_eq_false c]
      exact sep_true
  · refine Ev.bind (doms_bad F hz) (Ev.congr (fun k => by rw [if_neg hz]) sep_true)
end Go.Proofs.Ytaellapacoikaaa.PB
