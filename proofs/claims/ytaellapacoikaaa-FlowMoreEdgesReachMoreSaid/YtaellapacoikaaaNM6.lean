import Derived.Test.YtaellapacoikaaaNSBx4
import Derived.Test.YtaellapacoikaaaNM5
namespace Go.Proofs.Ytaellapacoikaaa.PB
open Go.RowKit Go.Proofs.YtaellapacoikaaaW.PrintWords Go.Proofs.YtaellapacoikaaaW.PrintLast Go.Proofs.YtaellapacoikaaaW.PrintMore Dom
set_option linter.unusedVariables false
set_option linter.unusedSimpArgs false
/-! ### what makes a graph valid -/
def badE (n : Int) (e : S64) : Option Int := if e.f0 < 1 ∨ e.f0 > 3 then some 4 else if e.f1 < -1 ∨ e.f1 ≥ n then some 3 else none
def chkE (n i : Int) : List S64 → Option (Int × Int)
  | [] => none
  | e :: es => match badE n e with
    | some c => some (c, i)
    | none => chkE n i es
def chkG (n : Int) : Int → Int → List S62 → Int × Int
  | _, _, [] => (0, 0)
  | x, i, b :: bs => if x + (b.f3.length : Int) > 300 then (2, i) else match chkE n i b.f3 with
    | some f => f
    | none => chkG n (x + (b.f3.length : Int)) (i + 1) bs
def vres (g : List S62) : Int × Int := if (g.length : Int) > 100 then (2, -1) else chkG g.length 0 0 g
/-- every list is of a length that memory bears -/
structure Fit (g : List S62) : Prop where
  len : g.length ≤ 140737488355328
  few : ∀ b ∈ g, b.f3.length ≤ 140737488355328
theorem rd62 {g : List S62} {i : Nat} (h : i < g.length) : rd_T62 g (i : Int) = g[i] := by
  unfold rd_T62
  rw [Int.toNat_natCast, List.getD_eq_getElem?_getD, List.getElem?_eq_getElem h]; rfl
theorem rd64 {g : List S64} {i : Nat} (h : i < g.length) : rd_T64 g (i : Int) = g[i] := by
  unfold rd_T64
  rw [Int.toNat_natCast, List.getD_eq_getElem?_getD, List.getElem?_eq_getElem h]; rfl
theorem w64 {x : Int} (h : -9223372036854775808 ≤ x) (h' : x ≤ 9223372036854775807) : wrap64 x = x := by unfold wrap64; omega
section
variable {g : List S62} (F : Fit g)
include F
theorem val_l (hn : g.length ≤ 100) : ∀ (bs : List S62) (i : Nat) (x : Int), g.drop i = bs → 0 ≤ x → x ≤ 300 → Ev (fun k => flow_Validate.l0 k g x g (g.length : Int) (i : Int)) (chkG g.length x i bs) := by
  intro bs
  induction bs with
  | nil =>
    intro i x hd h0 h1
    have : g.length ≤ i := List.drop_eq_nil_iff.1 hd
    rw [chkG]
    refine Ev.step (fun k => by rw [flow_Validate.l0, if_neg (by omega)]) (Ev.now _)
  | cons b bs ih =>
    intro i x hd h0 h1
    have hlt : i < g.length := by
      by_cases h : i < g.length
      · exact h
      · rw [List.drop_eq_nil_of_le (by omega)] at hd; cases hd
    rw [List.drop_eq_getElem_cons hlt] at hd
    injection hd with hb hd
    have hbl := F.few b (by rw [← hb]; exact List.getElem_mem hlt)
    have hw : wrap64 (x + (b.f3.length : Int)) = x + (b.f3.length : Int) := w64 (by omega) (by omega)
    rw [chkG]
    by_cases hc : x + (b.f3.length : Int) > 300
    · rw [if_pos hc]
      refine Ev.step (fun k => by rw [flow_Validate.l0, if_pos (by omega), if_pos (by omega), if_pos (by omega), rd62 hlt, hb, hw, if_pos hc]) (Ev.now _)
    · rw [if_neg hc]
      refine Ev.step (fun k => by rw [flow_Validate.l0, if_pos (by omega), if_pos (by omega), if_pos (by omega), rd62 hlt, hb, hw, if_neg hc]) ?_
      have inner : ∀ (es : List S64) (j : Nat), b.f3.drop j = es → Ev (fun k => flow_Validate.l1 k g (x + (b.f3.length : Int)) (i : Int) g (g.length : Int) (i : Int) b.f3 (b.f3.length : Int) (j : Int))
          (match chkE g.length i es with
            | some f => f
            | none => chkG g.length (x + (b.f3.length : Int)) (i + 1) bs) := by
        intro es
        induction es with
        | nil =>
          intro j hj
          have : b.f3.length ≤ j := List.drop_eq_nil_iff.1 hj
          have h2 := ih (i + 1) (x + (b.f3.length : Int)) hd (by omega) (by omega)
          refine Ev.step (fun k => by rw [flow_Validate.l1, if_neg (by omega), w64 (by omega) (by omega)]) ?_
          exact h2
        | cons e es ih2 =>
          intro j hj
          have hjl : j < b.f3.length := by
            by_cases h : j < b.f3.length
            · exact h
            · rw [List.drop_eq_nil_of_le (by omega)] at hj; cases hj
          rw [List.drop_eq_getElem_cons hjl] at hj
          injection hj with he hj
          have h2 := ih2 (j + 1) hj
          have hw2 : wrap64 ((j : Int) + 1) = ((j + 1 : Nat) : Int) := by rw [w64 (by omega) (by omega)]; rfl
          have hcode : ∀ q : Bool, q = decide (e.f0 < 1 ∨ e.f0 > 3) → Ev (fun k => flow_Validate.j2 k g (x + (b.f3.length : Int)) (i : Int) g (g.length : Int) (i : Int) b.f3 (b.f3.length : Int) (j : Int) q e.f0 e.f1)
              (match chkE g.length i (e :: es) with
                | some f => f
                | none => chkG g.length (x + (b.f3.length : Int)) (i + 1) bs) := by
            intro q hq
            rw [chkE, badE]
            by_cases h3 : e.f0 < 1 ∨ e.f0 > 3
            · rw [if_pos h3]
              refine Ev.step (fun k => by rw [flow_Validate.j2, if_pos (by rw [hq]; simpa using h3)]) (Ev.now _)
            · rw [if_neg h3]
              by_cases h4 : e.f1 < -1 ∨ e.f1 ≥ (g.length : Int)
              · rw [if_pos h4]
                by_cases h5 : e.f1 < -1
                · refine Ev.step (fun k => by rw [flow_Validate.j2, if_neg (by rw [hq]; simpa using h3), if_pos h5]) (Ev.now _)
                · refine Ev.step (fun k => by rw [flow_Validate.j2, if_neg (by rw [hq]; simpa using h3), if_neg h5, if_pos (by omega)]) (Ev.now _)
              · rw [if_neg h4]
                refine Ev.step (fun k => by rw [flow_Validate.j2, if_neg (by rw [hq]; simpa using h3), if_neg (by omega), if_neg (by omega), hw2]) h2
          by_cases h6 : e.f0 < 1
          · refine Ev.step (fun k => by rw [flow_Validate.l1, if_pos (by omega), if_pos (by omega), if_pos (by omega), rd64 hjl, he, if_pos h6]) (hcode true (by simp [h6]))
          · refine Ev.step (fun k => by rw [flow_Validate.l1, if_pos (by omega), if_pos (by omega), if_pos (by omega), rd64 hjl, he, if_neg h6]) (hcode _ (by simp [h6]))
      exact inner b.f3 0 rfl
theorem val_f : Ev (fun k => flow_Validate.f k g) (vres g) := by
  unfold vres
  by_cases h : (g.length : Int) > 100
  · rw [if_pos h]; exact Ev.congr (fun k => by rw [flow_Validate.f, if_pos h]) (Ev.now _)
  · rw [if_neg h]; exact Ev.congr (fun k => by rw [flow_Validate.f, if_neg h]; rfl) (val_l F (by omega) g 0 0 rfl (by omega) (by omega))
theorem gf_l (hn : g.length ≤ 100) : ∀ (bs : List S62) (i : Nat) (x : Int), g.drop i = bs → 0 ≤ x → x ≤ 300 → Ev (fun k => linkhouseref7_GraphFault.l0 k g x (i : Int)) (chkG g.length x i bs) := by
  intro bs
  induction bs with
  | nil =>
    intro i x hd h0 h1
    have : g.length ≤ i := List.drop_eq_nil_iff.1 hd
    rw [chkG]
    refine Ev.step (fun k => by rw [linkhouseref7_GraphFault.l0, if_neg (by omega)]) (Ev.now _)
  | cons b bs ih =>
    intro i x hd h0 h1
    have hlt : i < g.length := by
      by_cases h : i < g.length
      · exact h
      · rw [List.drop_eq_nil_of_le (by omega)] at hd; cases hd
    rw [List.drop_eq_getElem_cons hlt] at hd
    injection hd with hb hd
    have hbl := F.few b (by rw [← hb]; exact List.getElem_mem hlt)
    have hw : wrap64 (x + (b.f3.length : Int)) = x + (b.f3.length : Int) := w64 (by omega) (by omega)
    rw [chkG]
    by_cases hc : x + (b.f3.length : Int) > 300
    · rw [if_pos hc]
      refine Ev.step (fun k => by rw [linkhouseref7_GraphFault.l0, if_pos (by omega), if_pos (by omega), rd62 hlt, hb, hw, if_pos hc]; rfl) (Ev.now _)
    · rw [if_neg hc]
      refine Ev.step (fun k => by rw [linkhouseref7_GraphFault.l0, if_pos (by omega), if_pos (by omega), rd62 hlt, hb, hw, if_neg hc]) ?_
      have inner : ∀ (es : List S64) (j : Nat), b.f3.drop j = es → Ev (fun k => linkhouseref7_GraphFault.l1 k g (x + (b.f3.length : Int)) (i : Int) (j : Int))
          (match chkE g.length i es with
            | some f => f
            | none => chkG g.length (x + (b.f3.length : Int)) (i + 1) bs) := by
        intro es
        induction es with
        | nil =>
          intro j hj
          have : b.f3.length ≤ j := List.drop_eq_nil_iff.1 hj
          have h2 := ih (i + 1) (x + (b.f3.length : Int)) hd (by omega) (by omega)
          refine Ev.step (fun k => by rw [linkhouseref7_GraphFault.l1, if_pos (by omega), if_pos (by omega), rd62 hlt, hb, if_neg (by omega), w64 (by omega) (by omega)]) ?_
          exact h2
        | cons e es ih2 =>
          intro j hj
          have hjl : j < b.f3.length := by
            by_cases h : j < b.f3.length
            · exact h
            · rw [List.drop_eq_nil_of_le (by omega)] at hj; cases hj
          rw [List.drop_eq_getElem_cons hjl] at hj
          injection hj with he hj
          have h2 := ih2 (j + 1) hj
          have hw2 : wrap64 ((j : Int) + 1) = ((j + 1 : Nat) : Int) := by rw [w64 (by omega) (by omega)]; rfl
          have hw3 : wrap64 ((g.length : Int) - 1) = (g.length : Int) - 1 := w64 (by omega) (by omega)
          rw [chkE, badE]
          by_cases h3 : e.f0 < 1 ∨ e.f0 > 3
          · rw [if_pos h3]
            have hin : linkhouseref7_In.f e.f0 1 3 = some false := by
              unfold linkhouseref7_In.f
              split
              · rw [decide_eq_false (by omega)]
              · rfl
            refine Ev.step (fun k => by rw [linkhouseref7_GraphFault.l1, if_pos (by omega), if_pos (by omega), rd62 hlt, hb, if_pos (by omega), if_pos (by omega), rd64 hjl, he, hin, Option.bind_some, if_neg (by decide)]; rfl) (Ev.now _)
          · rw [if_neg h3]
            have hin : linkhouseref7_In.f e.f0 1 3 = some true := by
              unfold linkhouseref7_In.f
              rw [if_pos (by omega), decide_eq_true (by omega)]
            by_cases h4 : e.f1 < -1 ∨ e.f1 ≥ (g.length : Int)
            · rw [if_pos h4]
              have hin2 : linkhouseref7_In.f e.f1 (-1) ((g.length : Int) - 1) = some false := by
                unfold linkhouseref7_In.f
                split
                · rw [decide_eq_false (by omega)]
                · rfl
              refine Ev.step (fun k => by rw [linkhouseref7_GraphFault.l1, if_pos (by omega), if_pos (by omega), rd62 hlt, hb, if_pos (by omega), if_pos (by omega), rd64 hjl, he, hin, Option.bind_some, if_pos rfl, hw3, hin2, Option.bind_some, if_neg (by decide)]; rfl) (Ev.now _)
            · rw [if_neg h4]
              have hin2 : linkhouseref7_In.f e.f1 (-1) ((g.length : Int) - 1) = some true := by
                unfold linkhouseref7_In.f
                rw [if_pos (by omega), decide_eq_true (by omega)]
              refine Ev.step (fun k => by rw [linkhouseref7_GraphFault.l1, if_pos (by omega), if_pos (by omega), rd62 hlt, hb, if_pos (by omega), if_pos (by omega), rd64 hjl, he, hin, Option.bind_some, if_pos rfl, hw3, hin2, Option.bind_some, if_pos rfl, hw2]) h2
      exact inner b.f3 0 rfl
theorem gf_f : Ev (fun k => linkhouseref7_GraphFault.f k g) (vres g) := by
  unfold vres
  by_cases h : (g.length : Int) > 100
  · rw [if_pos h]; exact Ev.congr (fun k => by rw [linkhouseref7_GraphFault.f, if_pos h]; rfl) (Ev.now _)
  · rw [if_neg h]; exact Ev.congr (fun k => by rw [linkhouseref7_GraphFault.f, if_neg h]; rfl) (gf_l F (by omega) g 0 0 rfl (by omega) (by omega))
end
/-! ### a valid graph -/
theorem badE_none {n : Int} {e : S64} : badE n e = none ↔ (1 ≤ e.f0 ∧ e.f0 ≤ 3 ∧ -1 ≤ e.f1 ∧ e.f1 < n) := by
  unfold badE
  split
  · constructor
    · intro h; cases h
    · intro h; omega
  · split
    · constructor
      · intro h; cases h
      · intro h; omega
    · constructor
      · intro h; omega
      · intro _; rfl
theorem chkE_none {n i : Int} : ∀ {es : List S64}, chkE n i es = none ↔ ∀ e ∈ es, badE n e = none
  | [] => by simp [chkE]
  | e :: es => by
    rw [chkE]
    cases h : badE n e with
    | some c =>
      constructor
      · intro h; cases h
      · intro h2; have := h2 e (by simp); rw [h] at this; cases this
    | none =>
      rw [List.forall_mem_cons]
      exact ⟨fun h2 => ⟨h, chkE_none.1 h2⟩, fun h2 => chkE_none.2 h2.2⟩
theorem badE_pos {n : Int} {e : S64} {c : Int} (h : badE n e = some c) : c ≠ 0 := by
  unfold badE at h
  split at h
  · injection h; omega
  · split at h
    · injection h; omega
    · cases h
theorem chkE_pos {n i : Int} : ∀ {es : List S64} {f : Int × Int}, chkE n i es = some f → f.1 ≠ 0
  | [], f, h => by cases h
  | e :: es, f, h => by
    rw [chkE] at h
    split at h
    · rename_i c hc
      injection h with h
      rw [← h]
      exact badE_pos hc
    · exact chkE_pos h
/-- the lengths of the lists of edges together -/
def edgs (g : List S62) : Nat := (g.map fun b => b.f3.length).sum
theorem chkG_zero {n : Int} : ∀ {bs : List S62} {x i : Int}, ((chkG n x i bs).1 = 0 → chkG n x i bs = (0, 0)) ∧ (chkG n x i bs = (0, 0) → (bs = [] ∨ x + (edgs bs : Int) ≤ 300) ∧ ∀ b ∈ bs, ∀ e ∈ b.f3, badE n e = none) ∧
    (x + (edgs bs : Int) ≤ 300 → (∀ b ∈ bs, ∀ e ∈ b.f3, badE n e = none) → chkG n x i bs = (0, 0))
  | [], x, i => by simp [chkG]
  | b :: bs, x, i => by
    have he : edgs (b :: bs) = b.f3.length + edgs bs := by unfold edgs; rw [List.map_cons, List.sum_cons]
    rw [chkG, he, List.forall_mem_cons]
    have ih := @chkG_zero n bs (x + (b.f3.length : Int)) (i + 1)
    by_cases h : x + (b.f3.length : Int) > 300
    · rw [if_pos h]
      refine ⟨fun h => absurd (show (2 : Int) = 0 from h) (by decide), fun h => by injection h with h; exact absurd h (by decide), fun h => by omega⟩
    · rw [if_neg h]
      cases hc : chkE n i b.f3 with
      | some f =>
        have hp := chkE_pos hc
        refine ⟨fun h => absurd h hp, fun h => by rw [show f = (0, 0) from h] at hp; exact absurd rfl hp, fun _ h2 => ?_⟩
        rw [chkE_none.2 h2.1] at hc; cases hc
      | none =>
        refine ⟨ih.1, fun h2 => ⟨.inr ?_, chkE_none.1 hc, (ih.2.1 h2).2⟩, fun h2 h3 => ih.2.2 (by omega) h3.2⟩
        rcases (ih.2.1 h2).1 with rfl | h3
        · simp [edgs]; omega
        · omega
/-- a valid graph -/
structure GV (g : List S62) : Prop where
  len : g.length ≤ 100
  few : edgs g ≤ 300
  ok : ∀ b ∈ g, ∀ e ∈ b.f3, 1 ≤ e.f0 ∧ e.f0 ≤ 3 ∧ -1 ≤ e.f1 ∧ e.f1 < (g.length : Int)
theorem vres_zero {g : List S62} : (vres g).1 = 0 ↔ GV g := by
  unfold vres
  have h := @chkG_zero g.length g 0 0
  constructor
  · intro h0
    split at h0
    · exact absurd h0 (by decide)
    · obtain ⟨h1, h2⟩ := h.2.1 (h.1 h0)
      refine ⟨by omega, ?_, fun b hb e he => badE_none.1 (h2 b hb e he)⟩
      rcases h1 with h1 | h1
      · rw [h1]; simp [edgs]
      · omega
  · intro G
    rw [if_neg (by have := G.len; omega), h.2.2 (by have := G.few; omega) (fun b hb e he => badE_none.2 (G.ok b hb e he))]
theorem vres_ok {g : List S62} (G : GV g) : vres g = (0, 0) := by
  unfold vres
  rw [if_neg (by have := G.len; omega), (@chkG_zero g.length g 0 0).2.2 (by have := G.few; omega) (fun b hb e he => badE_none.2 (G.ok b hb e he))]
theorem edgs_le {g : List S62} {b : S62} (h : b ∈ g) : b.f3.length ≤ edgs g := by
  unfold edgs
  induction g with
  | nil => cases h
  | cons a g ih =>
    rw [List.map_cons, List.sum_cons]
    rcases List.mem_cons.1 h with rfl | h
    · omega
    · have := ih h; omega
theorem GV.fit {g : List S62} (G : GV g) : Fit g := ⟨by have := G.len; omega, fun b hb => by have := edgs_le hb; have := G.few; omega⟩
theorem mem_inner {g : List S62} {p b : Int} : b ∈ innerL g p ↔ 0 ≤ b ∧ ∃ e ∈ (rd_T62 g p).f3, e.f0 ≠ 3 ∧ e.f1 = b := by
  unfold innerL innerE
  rw [List.mem_map]
  constructor
  · rintro ⟨e, h1, rfl⟩
    obtain ⟨h2, h3⟩ := List.mem_filter.1 h1
    simp at h3
    exact ⟨h3.2, e, h2, h3.1, rfl⟩
  · rintro ⟨h0, e, h1, h2, rfl⟩
    exact ⟨e, List.mem_filter.2 ⟨h1, by simp [h2, h0]⟩, rfl⟩
theorem rd62_mem {g : List S62} {p : Int} (h0 : 0 ≤ p) (h1 : p < (g.length : Int)) : rd_T62 g p ∈ g := by
  have hlt : p.toNat < g.length := by omega
  have : p = ((p.toNat : Nat) : Int) := by omega
  rw [this, rd62 hlt]
  exact List.getElem_mem hlt
theorem GV.gok {g : List S62} (G : GV g) : Gok g := ⟨G.len, fun p x h => by
    obtain ⟨_, e, h1, _, rfl⟩ := mem_inner.1 h.2.2
    exact (G.ok _ (rd62_mem h.1 h.2.1) e h1).2.2.2, fun p h0 h1 => by have := edgs_le (rd62_mem h0 h1); have := G.few; omega⟩
theorem GV.gokB {g : List S62} (G : GV g) : gokB g = true := by
  unfold PB.gokB
  have := G.len
  have h2 := G.few
  simp only [Bool.and_eq_true, decide_eq_true_eq, List.all_eq_true]
  exact ⟨this, fun b hb => by have := edgs_le hb; omega⟩
/-! ### the checks in front -/
def chkR (g : List S62) (a : Int) : Int × Int := if (vres g).1 = 0 then (if 0 ≤ a ∧ a < (g.length : Int) then (0, 0) else (3, -9)) else vres g
theorem zz_ : ¬ ((!(((0, 0) : Int × Int).1 == 0) || (!(((0, 0) : Int × Int).2 == 0))) = true) := by decide
theorem chk_f {g : List S62} (F : Fit g) (a : Int) : Ev (fun k => flow_check.f k g a) (chkR g a) := by
  unfold chkR flow_check.f
  refine Ev.bind (val_f F) ?_
  by_cases h : (vres g).1 = 0
  · have h2 := vres_ok (vres_zero.1 h)
    rw [if_pos h, h2]
    by_cases h3 : a < 0
    · rw [if_neg (show ¬ (0 ≤ a ∧ a < (g.length : Int)) by omega)]; refine Ev.congr (fun k => ?_) (Ev.now _); rw [if_neg zz_, if_pos h3]
    · by_cases h4 : a ≥ (g.length : Int)
      · rw [if_neg (show ¬ (0 ≤ a ∧ a < (g.length : Int)) by omega)]; refine Ev.congr (fun k => ?_) (Ev.now _); rw [if_neg zz_, if_neg h3, if_pos h4]
      · rw [if_pos (show 0 ≤ a ∧ a < (g.length : Int) by omega)]; refine Ev.congr (fun k => ?_) (Ev.now _); rw [if_neg zz_, if_neg h3, if_neg h4]
  · rw [if_neg h]
    refine Ev.congr (fun k => ?_) (Ev.now _)
    rw [if_pos (by simp; exact .inl h)]
theorem from_f {g : List S62} (F : Fit g) (a : Int) : Ev (fun k => linkhouselaw7_fromFault.f k g a) (chkR g a) := by
  unfold chkR linkhouselaw7_fromFault.f
  refine Ev.bind (gf_f F) ?_
  by_cases h : (vres g).1 = 0
  · have h2 := vres_ok (vres_zero.1 h)
    rw [if_pos h, h2]
    have hl := F.len
    have hw : wrap64 ((g.length : Int) - 1) = (g.length : Int) - 1 := w64 (by omega) (by omega)
    by_cases h3 : 0 ≤ a ∧ a < (g.length : Int)
    · rw [if_pos h3]; refine Ev.congr (fun k => ?_) (Ev.now _)
      rw [if_pos rfl, hw, show linkhouseref7_In.f a 0 ((g.length : Int) - 1) = some true from by unfold linkhouseref7_In.f; rw [if_pos h3.1, decide_eq_true (by omega)]]; rfl
    · rw [if_neg h3]; refine Ev.congr (fun k => ?_) (Ev.now _)
      rw [if_pos rfl, hw, show linkhouseref7_In.f a 0 ((g.length : Int) - 1) = some false from by
        unfold linkhouseref7_In.f
        split
        · rw [decide_eq_false (by omega)]
        · rfl]
      rfl
  · rw [if_neg h]
    refine Ev.congr (fun k => ?_) (Ev.now _)
    rw [if_neg h]
theorem chkR_zero {g : List S62} {a : Int} : (chkR g a).1 = 0 ↔ GV g ∧ 0 ≤ a ∧ a < (g.length : Int) := by
  unfold chkR
  split
  · rename_i h
    split
    · rename_i h2; exact ⟨fun _ => ⟨vres_zero.1 h, h2⟩, fun _ => rfl⟩
    · rename_i h2; exact ⟨fun h => absurd h (by decide), fun h => absurd h.2 h2⟩
  · rename_i h; exact ⟨fun h2 => absurd h2 h, fun h2 => absurd (vres_zero.2 h2.1) h⟩
theorem chkR_ok {g : List S62} {a : Int} (h : GV g ∧ 0 ≤ a ∧ a < (g.length : Int)) : chkR g a = (0, 0) := by
  unfold chkR
  rw [if_pos (vres_zero.2 h.1), if_pos h.2]
/-! ### flow.dominators -/
theorem doms_f {g : List S62} (G : GV g) {root : Int} (h0 : 0 ≤ root) (h1 : root < (g.length : Int)) : ∃ r rank, Ev (fun k => flow_dominators.f k g root) r ∧ Num (Ed g) root (gt rank) ∧ Res g root rank r := by
  obtain ⟨s, e, hs1, hs2, O, hm⟩ := ord_of G.gok h0 h1 101 (Nat.le_refl _)
  obtain ⟨k, r, hk, R⟩ := dom_all O hm h1
  refine ⟨r, _, ?_, O.num, R⟩
  refine Ev.of (fun k => flow_dominators.mono _ _ k) (k := 101 + k) ?_
  have e2 : vis (101 + k) g (List.replicate g.length false, []) root = some s := at_rounds (g := fun k => vis k g (List.replicate g.length false, []) root) (fun k => vis_mono _ _ _ _) (by omega) e
  have e3 : domL (101 + k) g (rankL s.2 g.length) root s.2 ((List.replicate g.length (-1)).set root.toNat root) = some r :=
    at_rounds (g := fun k => domL k g (rankL s.2 g.length) root s.2 ((List.replicate g.length (-1)).set root.toNat root)) (fun k => domL_mono _ _ _ _ _ _) (by omega) hk
  show flow_dominators.f (101 + k) g root = some r
  rw [flow_dominators.f, if_pos G.gokB, e2, Option.bind_some, if_pos ⟨by omega, hs2⟩, e3]
end Go.Proofs.Ytaellapacoikaaa.PB
