import Derived.Test.YtaellapacoikaaaNSBx11
import Derived.Test.YtaellapacoikaaaNM6
namespace Go.Proofs.Ytaellapacoikaaa.PB
open Go.RowKit Go.Proofs.YtaellapacoikaaaW.PrintWords Go.Proofs.YtaellapacoikaaaW.PrintLast Go.Proofs.YtaellapacoikaaaW.PrintMore Dom
set_option linter.unusedVariables false
set_option linter.unusedSimpArgs false
/-! ### small functions -/
theorem drop_lt {α : Type} {l : List α} {i : Nat} {e : α} {es : List α} (h : l.drop i = e :: es) : i < l.length := by
  by_cases c : i < l.length
  · exact c
  · rw [List.drop_eq_nil_of_le (by omega)] at h; cases h
theorem drop_cons {α : Type} {l : List α} {i : Nat} {e : α} {es : List α} (h : l.drop i = e :: es) : ∃ hi : i < l.length, l[i] = e ∧ l.drop (i + 1) = es := by
  have hi := drop_lt h
  refine ⟨hi, ?_⟩
  rw [List.drop_eq_getElem_cons hi] at h
  injection h with h1 h2
  exact ⟨h1, h2⟩
theorem ws {i n : Nat} (h : i ≤ n) (hn : n ≤ 8796093022207) : wrap64 ((i : Int) + 1) = ((i + 1 : Nat) : Int) := by rw [w64 (by omega) (by omega)]; rfl
theorem rdI {l : List Int} {i : Nat} (h : i < l.length) : rd l (i : Int) = l[i] := by
  unfold rd; rw [Int.toNat_natCast, List.getD_eq_getElem?_getD, List.getElem?_eq_getElem h]; rfl
theorem rdB {l : List Bool} {i : Nat} (h : i < l.length) : rdOf false l (i : Int) = l[i] := by
  unfold rdOf; rw [Int.toNat_natCast, List.getD_eq_getElem?_getD, List.getElem?_eq_getElem h]; rfl
theorem inner_ev (a b c : Int) (es : List S64) (hn : es.length ≤ 1000) : Ev (fun k => flow_Inner.f k a b c es) (innerE es) := Ev.of (fun k => flow_Inner.mono _ _ _ _ k) (inner_f a b c es hn)
theorem leads_l {g : List S62} {a : Int} (h0 : 0 ≤ a) (h1 : a < (g.length : Int)) (hf : (rd_T62 g a).f3.length ≤ 1000) (b : Int) : ∀ (es : List S64) (j : Nat), (rd_T62 g a).f3.drop j = es → Ev (fun k => linkhouseref7_Leads.l0 k g a b (j : Int)) (decide (b ∈ innerE es)) := by
  intro es
  induction es with
  | nil =>
    intro j hj
    have : (rd_T62 g a).f3.length ≤ j := List.drop_eq_nil_iff.1 hj
    exact Ev.step (fun k => by rw [linkhouseref7_Leads.l0, if_pos h0, if_pos h1, if_neg (by omega)]; rfl) (Ev.now _)
  | cons e es ih =>
    intro j hj
    obtain ⟨hjl, he, hd⟩ := drop_cons hj
    have h2 := ih (j + 1) hd
    have hw := ws (Nat.le_of_lt hjl) (by omega)
    rw [innerE_cons]
    by_cases c : e.f0 = 3
    · rw [if_pos c]
      exact Ev.step (fun k => by rw [linkhouseref7_Leads.l0, if_pos h0, if_pos h1, if_pos (by omega), if_pos (by omega), rd64 hjl, he, if_pos c, hw]) h2
    · rw [if_neg c]
      by_cases c2 : e.f1 = b
      · by_cases c3 : b ≥ 0
        · rw [if_pos (by omega), decide_eq_true (by rw [c2]; simp)]
          exact Ev.step (fun k => by rw [linkhouseref7_Leads.l0, if_pos h0, if_pos h1, if_pos (by omega), if_pos (by omega), rd64 hjl, he, if_neg c, if_pos c2, if_pos c3]) (Ev.now _)
        · rw [if_neg (by omega)]
          exact Ev.step (fun k => by rw [linkhouseref7_Leads.l0, if_pos h0, if_pos h1, if_pos (by omega), if_pos (by omega), rd64 hjl, he, if_neg c, if_pos c2, if_neg c3, hw]) h2
      · have hm : decide (b ∈ if e.f1 ≥ 0 then e.f1 :: innerE es else innerE es) = decide (b ∈ innerE es) := by
          split
          · rw [decide_eq_decide, List.mem_cons]
            exact ⟨fun h => h.resolve_left (fun h => c2 h.symm), .inr⟩
          · rfl
        rw [hm]
        exact Ev.step (fun k => by rw [linkhouseref7_Leads.l0, if_pos h0, if_pos h1, if_pos (by omega), if_pos (by omega), rd64 hjl, he, if_neg c, if_neg c2, hw]) h2
theorem leads_f {g : List S62} (G : GV g) {a : Int} (h0 : 0 ≤ a) (h1 : a < (g.length : Int)) (b : Int) : Ev (fun k => linkhouseref7_Leads.f k g a b) (decide (b ∈ innerL g a)) :=
  leads_l h0 h1 (by have := edgs_le (rd62_mem h0 h1); have := G.few; omega) b _ 0 rfl
theorem cont_l (l : List Int) (hl : l.length ≤ 1000) (x : Int) : ∀ (es : List Int) (j : Nat), l.drop j = es → ∃ r, Ev (fun k => slices_Index_int_int.l0 k l x (l.length : Int) (j : Int)) r ∧ (0 ≤ r ↔ x ∈ es) := by
  intro es
  induction es with
  | nil =>
    intro j hj
    have : l.length ≤ j := List.drop_eq_nil_iff.1 hj
    exact ⟨-1, Ev.step (fun k => by rw [slices_Index_int_int.l0, if_neg (by omega)]) (Ev.now _), by simp⟩
  | cons e es ih =>
    intro j hj
    obtain ⟨hjl, he, hd⟩ := drop_cons hj
    obtain ⟨r, h2, h3⟩ := ih (j + 1) hd
    have hw := ws (Nat.le_of_lt hjl) (by omega)
    by_cases c : x = e
    · exact ⟨j, Ev.step (fun k => by rw [slices_Index_int_int.l0, if_pos (by omega), if_pos (by omega), if_pos (by omega), rdI hjl, he, if_pos c]) (Ev.now _), by simp [c]⟩
    · refine ⟨r, Ev.step (fun k => by rw [slices_Index_int_int.l0, if_pos (by omega), if_pos (by omega), if_pos (by omega), rdI hjl, he, if_neg c, hw]) h2, ?_⟩
      rw [h3, List.mem_cons]
      exact ⟨.inr, fun h => h.resolve_left c⟩
theorem cont_f (l : List Int) (hl : l.length ≤ 1000) (x : Int) : Ev (fun k => slices_Contains_int_int.f k l x) (decide (x ∈ l)) := by
  obtain ⟨r, h1, h2⟩ := cont_l l hl x l 0 rfl
  refine Ev.bind (g := fun k => slices_Index_int_int.f k l x) h1 ?_
  have : decide (r ≥ 0) = decide (x ∈ l) := by rw [decide_eq_decide]; exact h2
  rw [← this]
  exact Ev.now _
theorem sameI_l (l : List Int) (hl : l.length ≤ 8796093022207) : ∀ (es : List Int) (j : Nat), l.drop j = es → Ev (fun k => linkhouseref7_SameInts.l0 k l l (j : Int)) true := by
  intro es
  induction es with
  | nil =>
    intro j hj
    have : l.length ≤ j := List.drop_eq_nil_iff.1 hj
    exact Ev.step (fun k => by rw [linkhouseref7_SameInts.l0, if_neg (by omega)]) (Ev.now _)
  | cons e es ih =>
    intro j hj
    obtain ⟨hjl, he, hd⟩ := drop_cons hj
    exact Ev.step (fun k => by rw [linkhouseref7_SameInts.l0, if_pos (by omega), if_pos (by omega), if_pos (by omega), if_pos rfl, ws (Nat.le_of_lt hjl) hl]) (ih (j + 1) hd)
theorem sameI_f (l : List Int) (hl : l.length ≤ 8796093022207) : Ev (fun k => linkhouseref7_SameInts.f k l l) true :=
  Ev.congr (fun k => by rw [linkhouseref7_SameInts.f, if_pos rfl]; rfl) (sameI_l l hl l 0 rfl)
theorem sameB_l (l : List Bool) (hl : l.length ≤ 8796093022207) : ∀ (es : List Bool) (j : Nat), l.drop j = es → Ev (fun k => linkhouseref7_SameBools.l0 k l l (j : Int)) true := by
  intro es
  induction es with
  | nil =>
    intro j hj
    have : l.length ≤ j := List.drop_eq_nil_iff.1 hj
    exact Ev.step (fun k => by rw [linkhouseref7_SameBools.l0, if_neg (by omega)]) (Ev.now _)
  | cons e es ih =>
    intro j hj
    obtain ⟨hjl, he, hd⟩ := drop_cons hj
    exact Ev.step (fun k => by rw [linkhouseref7_SameBools.l0, if_pos (by omega), if_pos (by omega), if_pos (by omega), if_neg (by simp), ws (Nat.le_of_lt hjl) hl]) (ih (j + 1) hd)
theorem sameB_f (l : List Bool) (hl : l.length ≤ 8796093022207) : Ev (fun k => linkhouseref7_SameBools.f k l l) true :=
  Ev.congr (fun k => by rw [linkhouseref7_SameBools.f, if_pos rfl]; rfl) (sameB_l l hl l 0 rfl)
/-! ### flow.reach -/
/-- the blocks that can be reached from a block without another one -/
structure Rs (g : List S62) (w from_ : Int) (r : List Bool) : Prop where
  len : r.length = g.length
  mem : ∀ x, Sn r x ↔ Rch (Ed g) w from_ x
theorem Rs.eq {g : List S62} {w f : Int} {r s : List Bool} (h : Rs g w f r) (k : Rs g w f s) : r = s := by
  refine List.ext_getElem (h.len.trans k.len.symm) fun i h1 h2 => ?_
  have e := (h.mem i).trans (k.mem i).symm
  unfold Sn at e
  rw [rdB h1, rdB h2] at e
  have e2 : r[i] = true ↔ s[i] = true := ⟨fun h => (e.1 ⟨by omega, by omega, h⟩).2.2, fun h => (e.2 ⟨by omega, by omega, h⟩).2.2⟩
  cases h3 : r[i] <;> cases h4 : s[i] <;> simp_all
/-- in the midst of a search -/
structure Qs (g : List S62) (w from_ : Int) (s : List Bool) (q : List Int) : Prop where
  len : s.length = g.length
  beg : Sn s from_
  ok : ∀ x, Sn s x → Rch (Ed g) w from_ x
  sub : ∀ x, x ∈ q → Sn s x
def Qc (g : List S62) (w : Int) (s : List Bool) (q : List Int) : Prop := ∀ x, Sn s x → x ∈ q ∨ ∀ y, Ed g x y → y ≠ w → Sn s y
def Qg (g : List S62) (w from_ : Int) (f : Nat → Option (List Bool)) : Prop := ∃ r, Ev f r ∧ Rs g w from_ r
theorem reach_in {g : List S62} (G : GV g) {w from_ x : Int} {m : Nat} (hm' : m ≤ 1000) (hx0 : 0 ≤ x) (hx1 : x < (g.length : Int)) (hil : (innerL g x).length ≤ 1000)
    (H : ∀ (s : List Bool) (q : List Int), Qs g w from_ s q → Qc g w s q → cntF s + q.length ≤ m → Qg g w from_ (fun k => flow_reach.l0 k g w s q)) :
    ∀ (es : List Int) (j : Nat) (s : List Bool) (q : List Int), (innerL g x).drop j = es → Qs g w from_ s (x :: q) → Qc g w s (x :: q) → (∀ z, Ed g x z → z ≠ w → z ∈ es ∨ Sn s z) → cntF s + q.length ≤ m →
      Qg g w from_ (fun k => flow_reach.l1 k g w s (x :: q) (innerL g x) ((innerL g x).length : Int) (j : Int)) := by
  intro es
  induction es with
  | nil =>
    intro j s q hj Q hc hz hm
    have : (innerL g x).length ≤ j := List.drop_eq_nil_iff.1 hj
    have Q2 : Qs g w from_ s q := ⟨Q.len, Q.beg, Q.ok, fun y hy => Q.sub y (by simp [hy])⟩
    have C2 : Qc g w s q := fun y hy => by
      rcases hc y hy with h | h
      · rcases List.mem_cons.1 h with h | h
        · exact .inr fun z hE hw => by rw [h] at hE; exact (hz z hE hw).resolve_left (by simp)
        · exact .inl h
      · exact .inr h
    obtain ⟨r, h1, h2⟩ := H s q Q2 C2 hm
    exact ⟨r, Ev.step (fun k => by rw [flow_reach.l1, if_neg (by omega), if_pos (by rw [List.length_cons]; omega)]; rfl) h1, h2⟩
  | cons e es ih =>
    intro j s q hj Q hc hz hm
    obtain ⟨hjl, he, hd⟩ := drop_cons hj
    have hE : Ed g x e := ⟨hx0, hx1, by rw [← he]; exact List.getElem_mem hjl⟩
    have e0 := hE.pos
    have e1 : e < (s.length : Int) := by rw [Q.len]; exact G.gok.into x e hE
    have j0 : (0 : Int) ≤ (j : Int) := by omega
    have j1 : (j : Int) < ((innerL g x).length : Int) := by omega
    have skip : (e ≠ w → Sn s e) → Qg g w from_ (fun k => flow_reach.l1 k g w s (x :: q) (innerL g x) ((innerL g x).length : Int) ((j + 1 : Nat) : Int)) := fun he2 => by
      refine ih (j + 1) s q hd Q hc (fun z h1 h2 => ?_) hm
      rcases hz z h1 h2 with h | h
      · rcases List.mem_cons.1 h with h | h
        · subst h; exact .inr (he2 h2)
        · exact .inl h
      · exact .inr h
    by_cases c : rdOf false s e = true
    · obtain ⟨r, h1, h2⟩ := skip (fun _ => ⟨e0, e1, c⟩)
      exact ⟨r, Ev.step (fun k => by rw [flow_reach.l1, if_pos j1, if_pos j0, if_pos j1, rdI hjl, he, if_pos e0, if_pos e1, if_pos c, ws (Nat.le_of_lt hjl) (Nat.le_trans hil (by decide))]) h1, h2⟩
    · by_cases c2 : e = w
      · obtain ⟨r, h1, h2⟩ := skip (fun h => absurd c2 h)
        exact ⟨r, Ev.step (fun k => by rw [flow_reach.l1, if_pos j1, if_pos j0, if_pos j1, rdI hjl, he, if_pos e0, if_pos e1, if_neg c, if_pos c2, ws (Nat.le_of_lt hjl) (Nat.le_trans hil (by decide))]) h1, h2⟩
      · have hns : ¬ Sn s e := fun h => c h.2.2
        have hset := Sn.set e0 e1
        have hcnt := cntF_set e0 e1 hns
        have Q2 : Qs g w from_ (s.set e.toNat true) (x :: (q ++ [e])) := by
          refine ⟨by rw [List.length_set]; exact Q.len, (hset _).2 (.inr Q.beg), fun y hy => ?_, fun y hy => ?_⟩
          · rcases (hset y).1 hy with h | h
            · rw [h]; exact Rch.step (Q.ok x (Q.sub x (by simp))) hE c2
            · exact Q.ok y h
          · rcases List.mem_cons.1 hy with h | hy
            · rw [h]; exact (hset _).2 (.inr (Q.sub _ (by simp)))
            · rcases List.mem_append.1 hy with hy | hy
              · exact (hset _).2 (.inr (Q.sub _ (by simp [hy])))
              · rw [List.mem_singleton] at hy; exact (hset _).2 (.inl hy)
        have C2 : Qc g w (s.set e.toNat true) (x :: (q ++ [e])) := fun y hy => by
          rcases (hset y).1 hy with h | h
          · exact .inl (by simp [h])
          · rcases hc y h with h | h
            · exact .inl (by rcases List.mem_cons.1 h with h | h <;> simp [h])
            · exact .inr fun z a b => (hset z).2 (.inr (h z a b))
        have Z2 : ∀ z, Ed g x z → z ≠ w → z ∈ es ∨ Sn (s.set e.toNat true) z := fun z a b => by
          rcases hz z a b with h | h
          · rcases List.mem_cons.1 h with h | h
            · exact .inr ((hset _).2 (.inl h))
            · exact .inl h
          · exact .inr ((hset z).2 (.inr h))
        obtain ⟨r, h1, h2⟩ := ih (j + 1) (s.set e.toNat true) (q ++ [e]) hd Q2 C2 Z2 (by rw [List.length_append, List.length_singleton]; omega)
        refine ⟨r, Ev.step (fun k => ?_) h1, h2⟩
        rw [flow_reach.l1, if_pos j1, if_pos j0, if_pos j1, rdI hjl, he, if_pos e0, if_pos e1, if_neg c, if_neg c2, if_pos (by rw [List.length_cons]; omega), ws (Nat.le_of_lt hjl) (Nat.le_trans hil (by decide))]
        rfl
theorem reach_l {g : List S62} (G : GV g) {w from_ : Int} : ∀ (m : Nat), m ≤ 1000 → ∀ (s : List Bool) (q : List Int), Qs g w from_ s q → Qc g w s q → cntF s + q.length ≤ m →
    Qg g w from_ (fun k => flow_reach.l0 k g w s q) := by
  have nil_ : ∀ s : List Bool, Qs g w from_ s [] → Qc g w s [] → Qg g w from_ (fun k => flow_reach.l0 k g w s []) := fun s Q hc => by
    refine ⟨s, Ev.step (fun k => by rw [flow_reach.l0, if_neg (by simp)]) (Ev.now _), Q.len, fun x => ⟨Q.ok x, fun h => ?_⟩⟩
    induction h with
    | refl _ => exact Q.beg
    | step _ e n ih => exact ((hc _ ih).resolve_left (by simp)) _ e n
  intro m
  induction m with
  | zero =>
    intro _ s q Q hc hm
    obtain rfl : q = [] := List.length_eq_zero_iff.1 (by omega)
    exact nil_ s Q hc
  | succ m ih =>
    intro hm' s q Q hc hm
    cases q with
    | nil => exact nil_ s Q hc
    | cons x q =>
      have hx := Q.sub x (by simp)
      have hx1 : x < (g.length : Int) := by have := hx.2.1; have := Q.len; omega
      have hfew : (rd_T62 g x).f3.length ≤ 1000 := by have := edgs_le (rd62_mem hx.1 hx1); have := G.few; omega
      have hil : (innerL g x).length ≤ 1000 := Nat.le_trans (innerE_len _) hfew
      obtain ⟨r, h1, h2⟩ := reach_in G (m := m) (by omega) hx.1 hx1 hil (ih (by omega)) (innerL g x) 0 s q rfl Q hc (fun z h _ => .inl h.2.2) (by rw [List.length_cons] at hm; omega)
      refine ⟨r, ?_, h2⟩
      have hb := Ev.bind (f := fun k t => flow_reach.l1 k g w s (x :: q) t (t.length : Int) 0) (inner_ev (rd_T62 g x).f0 (rd_T62 g x).f1 (rd_T62 g x).f2 (rd_T62 g x).f3 hfew) h1
      refine Ev.step (fun k => ?_) hb
      have hr : rd (x :: q) 0 = x := rfl
      rw [flow_reach.l0, if_pos (by rw [List.length_cons]; omega), if_pos (by rw [List.length_cons]; omega), hr, if_pos hx.1, if_pos hx1]
theorem no_rep {n : Nat} (x : Int) : ¬ Sn (List.replicate n false) x := fun h => by
  have := h.2.2
  unfold rdOf at this
  rw [List.getD_eq_getElem?_getD, List.getElem?_replicate] at this
  split at this <;> cases this
theorem reach_f {g : List S62} (G : GV g) {from_ : Int} (h0 : 0 ≤ from_) (h1 : from_ < (g.length : Int)) (w : Int) : ∃ r, Ev (fun k => flow_reach.f k g from_ w) r ∧ Rs g w from_ r := by
  have hl := G.len
  by_cases c : from_ = w
  · refine ⟨List.replicate g.length false, Ev.congr (fun k => ?_) (Ev.now _), by simp, fun x => ⟨fun h => absurd h (no_rep x), fun h => absurd c h.head⟩⟩
    rw [flow_reach.f, if_pos (by omega), if_pos (by omega), Option.bind_some, if_pos c]
    simp
  · have hset := Sn.set (l := List.replicate g.length false) h0 (by simp; exact h1)
    have hc0 : cntF (List.replicate g.length false) = g.length := by unfold cntF; simp
    have hc1 := cntF_set (l := List.replicate g.length false) h0 (by simp; exact h1) (no_rep _)
    obtain ⟨r, h2, h3⟩ := reach_l (w := w) (from_ := from_) G g.length (by omega) ((List.replicate g.length false).set from_.toNat true) [from_] ⟨by simp, (hset _).2 (.inl rfl), fun x hx => by
        rcases (hset x).1 hx with rfl | h
        · exact Rch.refl c
        · exact absurd h (no_rep x), fun x hx => by rw [List.mem_singleton] at hx; exact (hset x).2 (.inl hx)⟩ (fun x hx => by
        rcases (hset x).1 hx with h | h
        · exact .inl (by simp [h])
        · exact absurd h (no_rep x)) (by rw [List.length_singleton]; omega)
    refine ⟨r, Ev.congr (fun k => ?_) h2, h3⟩
    rw [flow_reach.f, if_pos (by omega), if_pos (by omega), Option.bind_some, if_neg c, if_pos h0, if_pos (by simp; exact h1)]
    simp
end Go.Proofs.Ytaellapacoikaaa.PB
