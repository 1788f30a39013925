import Derived.Test.YtaellapacoikaaaUSBx13
import Derived.Test.YtaellapacoikaaaUM13
namespace Go.Proofs.Ytaellapacoikaaa.PB
open Go.RowKit Go.Proofs.YtaellapacoikaaaW.PrintWords Go.Proofs.YtaellapacoikaaaW.PrintLast Go.Proofs.YtaellapacoikaaaW.PrintMore Dom
set_option linter.unusedVariables false
set_option linter.unusedSimpArgs false
/-! ### FlowLoopsAreEnteredAtHeads -/
theorem rd68' {l : List S68} {i : Nat} (h : i < l.length) : rd_T68 l (i : Int) = l[i] := by
  unfold rd_T68
  rw [Int.toNat_natCast, List.getD_eq_getElem?_getD, List.getElem?_eq_getElem h]; rfl
theorem in_f' (x lo hi : Int) : linkhouseref7_In.f x lo hi = some (decide (lo ≤ x ∧ x ≤ hi)) := by
  unfold linkhouseref7_In.f
  split
  · rename_i h
    rw [show decide (lo ≤ x ∧ x ≤ hi) = decide (x ≤ hi) from by rw [decide_eq_decide]; exact ⟨And.right, fun h2 => ⟨h, h2⟩⟩]
  · rename_i h
    rw [decide_eq_false (fun h2 => h h2.1)]
theorem in_ev' (x lo hi : Int) : Ev (fun _ => linkhouseref7_In.f x lo hi) (decide (lo ≤ x ∧ x ≤ hi)) := by rw [in_f']; exact Ev.now _
theorem reachable_ev' {g : List S62} (G : GV g) {a : Int} (h0 : 0 ≤ a) (h1 : a < (g.length : Int)) : ∃ r, Ev (fun k => flow_Reachable.f k g a) (r, 0, 0) ∧ Rs g (-1) a r := by
  obtain ⟨r, hr, R⟩ := reach_f G h0 h1 (-1)
  have hC := chk_f G.fit a
  rw [chkR_ok ⟨G, h0, h1⟩] at hC
  refine ⟨r, Ev.bind (g := fun k => flow_check.f k g a) hC ?_, R⟩
  refine Ev.congr (fun k => ?_) (Ev.bind (f := fun _ t => some (t, (0 : Int), (0 : Int))) hr (Ev.now _))
  rw [if_neg zz_]
theorem reachable_bad {g : List S62} (F : Fit g) {a : Int} (hz : (chkR g a).1 ≠ 0) : Ev (fun k => flow_Reachable.f k g a) ([], (chkR g a).1, (chkR g a).2) := by
  refine Ev.bind (g := fun k => flow_check.f k g a) (chk_f F a) ?_
  refine Ev.congr (fun k => ?_) (Ev.now _)
  rw [if_pos (by simp; exact .inl hz)]
theorem has_l (l : List Int) (hl : l.length ≤ 1000) (x : Int) : ∀ (es : List Int) (j : Nat), l.drop j = es → Ev (fun k => linkhouseref7_Has.l0 k l x (j : Int)) (decide (x ∈ es)) := by
  intro es
  induction es with
  | nil =>
    intro j hj
    have hjl : l.length ≤ j := List.drop_eq_nil_iff.1 hj
    exact Ev.step (fun k => by rw [linkhouseref7_Has.l0, if_neg (by omega)]; rfl) (Ev.now _)
  | cons e es ih =>
    intro j hj
    obtain ⟨hjl, he, hd⟩ := drop_cons hj
    have j0 : (0 : Int) ≤ (j : Int) := by omega
    have j1 : (j : Int) < (l.length : Int) := by omega
    by_cases c : e = x
    · rw [decide_eq_true (by rw [c]; simp)]
      exact Ev.step (fun k => by rw [linkhouseref7_Has.l0, if_pos j1, if_pos j0, rdI hjl, he, if_pos c]) (Ev.now _)
    · have hm : decide (x ∈ e :: es) = decide (x ∈ es) := by rw [decide_eq_decide, List.mem_cons]; exact ⟨fun h => h.resolve_left (fun h => c h.symm), .inr⟩
      rw [hm]
      have wj : wrap64 ((j : Int) + 1) = ((j + 1 : Nat) : Int) := ws (Nat.le_of_lt hjl) (Nat.le_trans hl (by decide))
      exact Ev.step (fun k => by rw [linkhouseref7_Has.l0, if_pos j1, if_pos j0, rdI hjl, he, if_neg c, wj]) (ih (j + 1) hd)
theorem has_f (l : List Int) (hl : l.length ≤ 1000) (x : Int) : Ev (fun k => linkhouseref7_Has.f k l x) (decide (x ∈ l)) := has_l l hl x l 0 rfl
section
variable {g : List S62} (G : GV g) {a : Int} (h0 : 0 ≤ a) (h1 : a < (g.length : Int)) {L : List S68} (P : LsP g a g.length L)
include G h0 h1 P
theorem ent_l0 {i : Nat} (hi : i < L.length) {b : Int} (hb0 : 0 ≤ b) (hb1 : b < (g.length : Int)) (hb : Rch (Ed g) (-1) a b) (hno : b ∉ L[i].f1) : ∀ (es : List S64) (j : Nat), (rd_T62 g b).f3.drop j = es →
    Ev (fun k => linkhouselaw7_FlowLoopsAreEnteredAtHeads.l0 k g (i : Int) b L (j : Int)) true := by
  have i0 : (0 : Int) ≤ (i : Int) := by omega
  have i1 : (i : Int) < (L.length : Int) := by omega
  have hS := P.at_ L[i] (List.getElem_mem hi)
  have hfl : L[i].f1.length ≤ 1000 := by have := hS.len; have := G.len; omega
  have hfew : (rd_T62 g b).f3.length ≤ 300 := by have := edgs_le (rd62_mem hb0 hb1); have := G.few; omega
  intro es
  induction es with
  | nil =>
    intro j hj
    have hjl : (rd_T62 g b).f3.length ≤ j := List.drop_eq_nil_iff.1 hj
    have hj' : ¬ ((j : Int) < ((rd_T62 g b).f3.length : Int)) := by omega
    exact Ev.step (fun k => by rw [linkhouselaw7_FlowLoopsAreEnteredAtHeads.l0, if_pos hb0, if_pos hb1, if_neg hj']) (Ev.bind (f := fun _ t => some t) crossed_ev (Ev.now true))
  | cons e es ih =>
    intro j hj
    obtain ⟨hjl, he, hd⟩ := drop_cons hj
    have j0 : (0 : Int) ≤ (j : Int) := by omega
    have j1 : (j : Int) < ((rd_T62 g b).f3.length : Int) := by omega
    have next := ih (j + 1) hd
    have wj : wrap64 ((j : Int) + 1) = ((j + 1 : Nat) : Int) := ws (Nat.le_of_lt hjl) (Nat.le_trans hfew (by decide))
    by_cases c : e.f0 = 3
    · exact Ev.step (fun k => by rw [linkhouselaw7_FlowLoopsAreEnteredAtHeads.l0, if_pos hb0, if_pos hb1, if_pos j1, if_pos j0, rd64 hjl, he, if_pos c, wj]) next
    · refine Ev.step (fun k => by rw [linkhouselaw7_FlowLoopsAreEnteredAtHeads.l0, if_pos hb0, if_pos hb1, if_pos j1, if_pos j0, rd64 hjl, he, if_neg c, if_pos i0, if_pos i1, rd68' hi]) (Ev.bind (has_f L[i].f1 hfl e.f1) ?_)
      by_cases c2 : e.f1 ∈ L[i].f1
      · rw [decide_eq_true c2]
        obtain ⟨y0, y1, hin⟩ := (hS.mem e.f1).1 c2
        have hE : Ed g b e.f1 := ⟨hb0, hb1, mem_inner.2 ⟨y0, e, by rw [← he]; exact List.getElem_mem hjl, c, rfl⟩⟩
        have hhead : e.f1 = L[i].f0 := by
          rcases hin with h | ⟨_, t, ht, hp⟩
          · exact h
          · exfalso
            refine hno ((hS.mem b).2 ⟨hb0, hb1, ?_⟩)
            by_cases ebh : b = L[i].f0
            · exact .inl ebh
            · exact .inr ⟨hb, t, ht, Rch.front hE ebh hp⟩
        exact Ev.congr (fun k => by rw [if_pos rfl, if_pos hhead, wj]) next
      · rw [decide_eq_false c2]
        exact Ev.congr (fun k => by rw [if_neg (by decide), wj]) next
theorem ent_j1 {i : Nat} (hi : i < L.length) {b : Int} (hb0 : 0 ≤ b) (hb1 : b < (g.length : Int)) (q : Bool) (hq : q = false → Rch (Ed g) (-1) a b ∧ b ∉ L[i].f1) : Ev (fun k => linkhouselaw7_FlowLoopsAreEnteredAtHeads.j1 k g (i : Int) b L q) true := by
  cases q with
  | true => exact Ev.step (fun k => by rw [linkhouselaw7_FlowLoopsAreEnteredAtHeads.j1, if_pos rfl]) (Ev.bind (f := fun _ t => some t) crossed_ev (Ev.now true))
  | false => exact Ev.step (fun k => by rw [linkhouselaw7_FlowLoopsAreEnteredAtHeads.j1, if_neg (by decide)]; rfl) (ent_l0 G h0 h1 P hi hb0 hb1 (hq rfl).1 (hq rfl).2 _ 0 rfl)
theorem ent_j0 {s : List Bool} (S : Rs g (-1) a s) {i : Nat} (hi : i < L.length) {b : Int} (hb0 : 0 ≤ b) (hb1 : b < (g.length : Int)) : Ev (fun k => linkhouselaw7_FlowLoopsAreEnteredAtHeads.j0 k g (i : Int) b L s false) true := by
  have i0 : (0 : Int) ≤ (i : Int) := by omega
  have i1 : (i : Int) < (L.length : Int) := by omega
  have hbs : b < (s.length : Int) := by rw [S.len]; exact hb1
  have hS := P.at_ L[i] (List.getElem_mem hi)
  have hfl : L[i].f1.length ≤ 1000 := by have := hS.len; have := G.len; omega
  by_cases c : rdOf false s b = true
  · refine Ev.step (fun k => by rw [linkhouselaw7_FlowLoopsAreEnteredAtHeads.j0, if_neg (by decide), if_pos (by rw [S.len]), if_pos hb0, if_pos hbs, if_pos c, if_pos i0, if_pos i1, rd68' hi]) (Ev.bind (has_f L[i].f1 hfl b) ?_)
    exact ent_j1 G h0 h1 P hi hb0 hb1 _ (fun h => ⟨(S.mem b).1 ⟨hb0, hbs, c⟩, of_decide_eq_false h⟩)
  · exact Ev.step (fun k => by rw [linkhouselaw7_FlowLoopsAreEnteredAtHeads.j0, if_neg (by decide), if_pos (by rw [S.len]), if_pos hb0, if_pos hbs, if_neg c]) (ent_j1 G h0 h1 P hi hb0 hb1 true (fun h => by cases h))
end
theorem ent_true {g : List S62} {i b : Int} {L : List S68} {s : List Bool} : Ev (fun k => linkhouselaw7_FlowLoopsAreEnteredAtHeads.j0 k g i b L s true) true :=
  Ev.step (fun k => by rw [linkhouselaw7_FlowLoopsAreEnteredAtHeads.j0, if_pos rfl]) (Ev.bind (f := fun _ t => some t) crossed_ev (Ev.now true))
theorem entered_pure {g : List S62} (F : Fit g) (a i b : Int) : ∃ k, linkhouselaw7_FlowLoopsAreEnteredAtHeads.f k g a i b = some true := by
  refine Ev.rounds (g := fun k => linkhouselaw7_FlowLoopsAreEnteredAtHeads.f k g a i b) ?_
  by_cases hz : (chkR g a).1 = 0
  · obtain ⟨G, h0, h1⟩ := chkR_zero.1 hz
    have hlen := G.len
    obtain ⟨L, hL, P⟩ := loops_ev G h0 h1
    have hLl := P.len
    obtain ⟨s, hs, S⟩ := reachable_ev' G h0 h1
    have w1 : wrap64 ((g.length : Int) - 1) = (g.length : Int) - 1 := w64 (by omega) (by omega)
    have w2 : wrap64 ((L.length : Int) - 1) = (L.length : Int) - 1 := by clear w1; exact w64 (by omega) (by omega)
    refine Ev.bind hL (Ev.bind hs (Ev.congr (fun k => by rw [if_pos rfl, if_pos rfl, w2]) (Ev.bind (in_ev' _ _ _) ?_)))
    by_cases c : 0 ≤ i ∧ i ≤ (L.length : Int) - 1
    · rw [decide_eq_true c]
      refine Ev.congr (fun k => by rw [if_pos rfl, w1]) (Ev.bind (in_ev' _ _ _) ?_)
      by_cases c2 : 0 ≤ b ∧ b ≤ (g.length : Int) - 1
      · rw [decide_eq_true c2]
        have hi : i.toNat < L.length := by clear w1 w2; omega
        have hie : i = ((i.toNat : Nat) : Int) := by clear w1 w2; omega
        rw [hie]
        exact ent_j0 G h0 h1 P S hi c2.1 (by clear w1 w2; omega)
      · rw [decide_eq_false c2]
        exact ent_true
    · rw [decide_eq_false c]
      exact Ev.congr (fun k => by rw [if_neg (by decide)]) ent_true
  · refine Ev.bind (loops_bad F hz) (Ev.bind (reachable_bad F hz) (Ev.congr (fun k => by rw [if_neg hz]) ent_true))
end Go.Proofs.Ytaellapacoikaaa.PB
