import Derived.Test.YtaellapacoikaaaNB7
import Derived.Test.YtaellapacoikaaaNM4
namespace Go.Proofs.Ytaellapacoikaaa.PB
open Go.RowKit Go.Proofs.YtaellapacoikaaaW.PrintWords Go.Proofs.YtaellapacoikaaaW.PrintLast Go.Proofs.YtaellapacoikaaaW.PrintMore Dom
set_option linter.unusedVariables false
set_option linter.unusedSimpArgs false
/-! ### the depth-first search -/
/-- a block that is marked -/
def Sn (l : List Bool) (x : Int) : Prop := 0 ≤ x ∧ x < (l.length : Int) ∧ rdOf false l x = true
theorem Sn.set {l : List Bool} {i : Int} (h0 : 0 ≤ i) (h1 : i < (l.length : Int)) (x : Int) : Sn (l.set i.toNat true) x ↔ x = i ∨ Sn l x := by
  unfold Sn rdOf
  rw [List.length_set, List.getD_eq_getElem?_getD, List.getElem?_set, List.getD_eq_getElem?_getD]
  by_cases e : x = i
  · subst e
    rw [if_pos rfl, if_pos (by omega)]
    exact ⟨fun _ => .inl rfl, fun _ => ⟨h0, h1, rfl⟩⟩
  · constructor
    · rintro ⟨a, b, c⟩
      rw [if_neg (by omega)] at c
      exact .inr ⟨a, b, c⟩
    · rintro (h | ⟨a, b, c⟩)
      · exact absurd h e
      · refine ⟨a, b, ?_⟩; rw [if_neg (by omega)]; exact c
def cntF (l : List Bool) : Nat := l.count false
theorem cntF_set {l : List Bool} {i : Int} (h0 : 0 ≤ i) (h1 : i < (l.length : Int)) (h : ¬ Sn l i) : cntF (l.set i.toNat true) + 1 = cntF l := by
  have hlt : i.toNat < l.length := by omega
  have hf : l[i.toNat] = false := by
    cases e : l[i.toNat] with
    | false => rfl
    | true =>
      exact absurd ⟨h0, h1, by unfold rdOf; rw [List.getD_eq_getElem?_getD, List.getElem?_eq_getElem hlt, e]; rfl⟩ h
  have hpos : 0 < l.count false := List.count_pos_iff.2 (by rw [← hf]; exact List.getElem_mem hlt)
  unfold cntF
  rw [List.count_set hlt, hf]
  simp
  omega
theorem Ed.pos {g : List S62} {p b : Int} (h : Ed g p b) : 0 ≤ b := by
  have := h.2.2
  unfold innerL innerE at this
  rw [List.mem_map] at this
  obtain ⟨e, h1, rfl⟩ := this
  have h2 := (List.mem_filter.1 h1).2
  simp at h2
  exact h2.2
/-- a graph all of whose edges lead to blocks -/
structure Gok (g : List S62) : Prop where
  len : g.length ≤ 100
  into : ∀ p x, Ed g p x → x < (g.length : Int)
  few : ∀ p : Int, 0 ≤ p → p < (g.length : Int) → (rd_T62 g p).f3.length ≤ 300
/-- p stands behind x -/
def Aft (l : List Int) (x p : Int) : Prop := ∃ a b, l = a ++ x :: b ∧ p ∈ b
theorem Aft.right {l : List Int} {x p : Int} (h : Aft l x p) (m : List Int) : Aft (l ++ m) x p := by
  obtain ⟨a, b, rfl, h⟩ := h
  exact ⟨a, b ++ m, by simp, by simp [h]⟩
theorem Aft.left {l : List Int} {x p : Int} (h : Aft l x p) (m : List Int) : Aft (m ++ l) x p := by
  obtain ⟨a, b, rfl, h⟩ := h
  exact ⟨m ++ a, b, by simp, h⟩
theorem Aft.last {l : List Int} {x : Int} (h : x ∈ l) (i : Int) : Aft (l ++ [i]) x i := by
  obtain ⟨a, b, rfl⟩ := List.append_of_mem h
  exact ⟨a, b ++ [i], by simp, by simp⟩
/-- what a part of the search has done -/
structure Vp (g : List S62) (rt : Int → Prop) (s s' : List Bool × List Int) (l : List Int) : Prop where
  out : s'.2 = s.2 ++ l
  len : s'.1.length = s.1.length
  new : ∀ x, Sn s'.1 x ↔ Sn s.1 x ∨ x ∈ l
  fresh : ∀ x, x ∈ l → ¬ Sn s.1 x
  nodup : l.Nodup
  reach : ∀ x, x ∈ l → ∃ r, rt r ∧ Rch (Ed g) (-1) r x
  closed : ∀ x, x ∈ l → ∀ y, Ed g x y → Sn s'.1 y
  up : ∀ x, x ∈ l → rt x ∨ ∃ p, Aft l x p ∧ Ed g p x
  cnt : cntF s'.1 + l.length = cntF s.1
theorem Vp.nil (g : List S62) (rt : Int → Prop) (s : List Bool × List Int) : Vp g rt s s [] := by
  refine ⟨by simp, rfl, fun x => by simp, ?_, List.nodup_nil, ?_, ?_, ?_, by simp⟩ <;> (intro x h; cases h)
theorem Vp.wide {g : List S62} {rt rt' : Int → Prop} {s s' : List Bool × List Int} {l : List Int} (h : Vp g rt s s' l) (hr : ∀ x, rt x → rt' x) : Vp g rt' s s' l :=
  ⟨h.out, h.len, h.new, h.fresh, h.nodup, fun x hx => by obtain ⟨r, h1, h2⟩ := h.reach x hx; exact ⟨r, hr r h1, h2⟩, h.closed, fun x hx => (h.up x hx).imp (hr x) id, h.cnt⟩
theorem Vp.join {g : List S62} {rt : Int → Prop} {s s1 s2 : List Bool × List Int} {l m : List Int} (h : Vp g rt s s1 l) (k : Vp g rt s1 s2 m) : Vp g rt s s2 (l ++ m) where
  out := by rw [k.out, h.out, List.append_assoc]
  len := k.len.trans h.len
  new x := by rw [k.new, h.new, List.mem_append, or_assoc]
  fresh x hx hs := by
    rcases List.mem_append.1 hx with hx | hx
    · exact h.fresh x hx hs
    · exact k.fresh x hx ((h.new x).2 (.inl hs))
  nodup := List.nodup_append.2 ⟨h.nodup, k.nodup, fun a ha b hb e => by subst e; exact k.fresh a hb ((h.new a).2 (.inr ha))⟩
  reach x hx := by
    rcases List.mem_append.1 hx with hx | hx
    · exact h.reach x hx
    · exact k.reach x hx
  closed x hx y hy := by
    rcases List.mem_append.1 hx with hx | hx
    · exact (k.new y).2 (.inl (h.closed x hx y hy))
    · exact k.closed x hx y hy
  up x hx := by
    rcases List.mem_append.1 hx with hx | hx
    · exact (h.up x hx).imp id fun ⟨p, h1, h2⟩ => ⟨p, h1.right m, h2⟩
    · exact (k.up x hx).imp id fun ⟨p, h1, h2⟩ => ⟨p, h1.left l, h2⟩
  cnt := by have := h.cnt; have := k.cnt; rw [List.length_append]; omega
theorem fold_spec {g : List S62} {k u : Nat} (G : Gok g)
    (H : ∀ (s : List Bool × List Int) (j : Int), s.1.length = g.length → 0 ≤ j → j < (g.length : Int) → ¬ Sn s.1 j → cntF s.1 ≤ u → s.2.length + cntF s.1 ≤ g.length → ∃ s' l, vis k g s j = some s' ∧ Vp g (· = j) s s' (l ++ [j])) :
    ∀ (js : List Int) (s : List Bool × List Int), (∀ j ∈ js, 0 ≤ j ∧ j < (g.length : Int)) → s.1.length = g.length → cntF s.1 ≤ u → s.2.length + cntF s.1 ≤ g.length →
      ∃ s' l, js.foldlM (visStep k g) s = some s' ∧ Vp g (· ∈ js) s s' l ∧ ∀ j ∈ js, Sn s'.1 j := by
  intro js
  induction js with
  | nil => intro s _ _ _ _; exact ⟨s, [], by simp, Vp.nil _ _ _, fun j h => by cases h⟩
  | cons j js ih =>
    intro s hj hl hu ho
    obtain ⟨h0, h1⟩ := hj j (by simp)
    rw [List.foldlM_cons]
    by_cases hs : Sn s.1 j
    · obtain ⟨s', l, e, V, A⟩ := ih s (fun x hx => hj x (by simp [hx])) hl hu ho
      refine ⟨s', l, ?_, V.wide (fun x hx => by simp [hx]), fun x hx => ?_⟩
      · unfold visStep
        rw [if_pos ⟨h0, hs.2.1⟩, if_pos hs.2.2]
        exact e
      · rcases List.mem_cons.1 hx with rfl | hx
        · exact (V.new _).2 (.inl hs)
        · exact A x hx
    · obtain ⟨s1, l1, e1, V1⟩ := H s j hl h0 h1 hs hu ho
      have c1 := V1.cnt
      have o1 : s1.2.length = s.2.length + (l1 ++ [j]).length := by rw [V1.out, List.length_append]
      obtain ⟨s', l, e, V, A⟩ := ih s1 (fun x hx => hj x (by simp [hx])) (V1.len.trans hl) (by omega) (by omega)
      refine ⟨s', l1 ++ [j] ++ l, ?_, (V1.wide (fun x hx => by simp [hx])).join (V.wide (fun x hx => by simp [hx])), fun x hx => ?_⟩
      · have : visStep k g s j = some s1 := by
          unfold visStep
          rw [if_pos ⟨h0, by omega⟩, if_neg (fun h => hs ⟨h0, by omega, h⟩)]
          exact e1
        rw [this]
        exact e
      · rcases List.mem_cons.1 hx with rfl | hx
        · exact (V.new _).2 (.inl ((V1.new _).2 (.inr (by simp))))
        · exact A x hx
theorem vis_spec {g : List S62} (G : Gok g) : ∀ (u k : Nat) (s : List Bool × List Int) (i : Int), u < k → s.1.length = g.length → 0 ≤ i → i < (g.length : Int) → ¬ Sn s.1 i → cntF s.1 ≤ u → s.2.length + cntF s.1 ≤ g.length →
    ∃ s' l, vis k g s i = some s' ∧ Vp g (· = i) s s' (l ++ [i])
  | u, k, s, i, hk, hl, h0, h1, hs, hu, ho => by
    obtain ⟨k, rfl⟩ : ∃ j, k = j + 1 := ⟨k - 1, by omega⟩
    have c0 := cntF_set h0 (by omega) hs
    cases u with
    | zero => omega
    | succ u =>
      obtain ⟨s1, l, e, V, A⟩ := fold_spec (k := k) (u := u) G (fun s j a b c d e f => vis_spec G u k s j (by omega) a b c d e f) (innerL g i) (s.1.set i.toNat true, s.2)
        (fun j hj => ⟨Ed.pos ⟨h0, h1, hj⟩, G.into i j ⟨h0, h1, hj⟩⟩) (by rw [List.length_set]; exact hl) (show cntF (s.1.set i.toNat true) ≤ _ by omega) (show s.2.length + cntF (s.1.set i.toNat true) ≤ _ by omega)
      have hset := Sn.set (l := s.1) h0 (by omega)
      have c1 : cntF s1.1 + l.length = cntF (s.1.set i.toNat true) := V.cnt
      have o1 : s1.2.length = s.2.length + l.length := by rw [V.out, List.length_append]
      have hln := G.len
      refine ⟨(s1.1, s1.2 ++ [i]), l, ?_, ⟨by show s1.2 ++ [i] = _; rw [V.out, List.append_assoc], by have := V.len; rw [List.length_set] at this; exact this, fun x => ?_, fun x hx => ?_, ?_, fun x hx => ?_, fun x hx y hy => ?_, fun x hx => ?_, ?_⟩⟩
      · rw [vis_succ, if_pos ⟨h0, by omega, h1, by have := G.few i h0 h1; omega⟩, e, Option.bind_some, if_pos (by omega)]
      · rw [V.new, hset, List.mem_append, List.mem_singleton]
        constructor
        · rintro ((h | h) | h)
          · exact .inr (.inr h)
          · exact .inl h
          · exact .inr (.inl h)
        · rintro (h | h | h)
          · exact .inl (.inr h)
          · exact .inr h
          · exact .inl (.inl h)
      · rcases List.mem_append.1 hx with hx | hx
        · exact fun h => V.fresh x hx ((hset x).2 (.inr h))
        · rw [List.mem_singleton] at hx; subst hx; exact hs
      · refine List.nodup_append.2 ⟨V.nodup, by simp, fun a ha b hb hab => ?_⟩
        rw [List.mem_singleton] at hb
        rw [hb] at hab
        exact V.fresh a ha ((hset a).2 (.inl hab))
      · rcases List.mem_append.1 hx with hx | hx
        · obtain ⟨r, h2, h3⟩ := V.reach x hx
          exact ⟨i, rfl, Rch.front ⟨h0, h1, h2⟩ (by omega) h3⟩
        · rw [List.mem_singleton] at hx; subst hx; exact ⟨x, rfl, Rch.refl (by omega)⟩
      · rcases List.mem_append.1 hx with hx | hx
        · exact V.closed x hx y hy
        · rw [List.mem_singleton] at hx; subst hx; exact A y hy.2.2
      · rcases List.mem_append.1 hx with hx | hx
        · rcases V.up x hx with h | ⟨p, h2, h3⟩
          · exact .inr ⟨i, Aft.last hx i, h0, h1, h⟩
          · exact .inr ⟨p, h2.right _, h3⟩
        · rw [List.mem_singleton] at hx; exact .inl hx
      · show cntF s1.1 + (l ++ [i]).length = cntF s.1
        rw [List.length_append, List.length_singleton]; omega
/-! ### the numbering -/
theorem rankI_at (order : List Int) (n : Nat) (hnd : order.Nodup) (hr : ∀ x ∈ order, 0 ≤ x ∧ x < (n : Int)) : ∀ i, i ≤ order.length →
    (∀ j : Nat, ∀ h : j < order.length, j < i → gt (rankI order n i) order[j] = j) ∧ (∀ x, x ∉ order.take i → gt (rankI order n i) x = -1) := by
  intro i
  induction i with
  | zero =>
    intro _
    refine ⟨fun j _ h => by omega, fun x _ => ?_⟩
    unfold gt rankI
    split
    · rename_i h
      rw [List.length_replicate] at h
      unfold rd
      rw [List.getD_eq_getElem?_getD, List.getElem?_replicate, if_pos (by omega)]; rfl
    · rfl
  | succ i ih =>
    intro hi
    obtain ⟨h1, h2⟩ := ih (by omega)
    have hlt : i < order.length := by omega
    have hrd : rd order (i : Int) = order[i] := by unfold rd; rw [Int.toNat_natCast, List.getD_eq_getElem?_getD, List.getElem?_eq_getElem hlt]; rfl
    obtain ⟨p0, p1⟩ := hr order[i] (List.getElem_mem hlt)
    have hs := gt_set (l := rankI order n i) (c := (i : Int)) p0 (by rw [rankI_length]; exact p1)
    rw [rankI, hrd]
    refine ⟨fun j hj hji => ?_, fun x hx => ?_⟩
    · rw [hs]
      by_cases e : j = i
      · subst e; rw [if_pos rfl]
      · rw [if_neg (fun h => e ((List.getElem_inj hnd).1 h))]
        exact h1 j hj (by omega)
    · rw [hs, ← List.take_append_getElem hlt] at *
      rw [List.mem_append, List.mem_singleton, not_or] at hx
      rw [if_neg hx.2]
      exact h2 x hx.1
theorem aft_rank {order : List Int} {r : Int → Int} (hat : ∀ i : Nat, ∀ h : i < order.length, r order[i] = i) {x p : Int} (h : Aft order x p) : r x < r p := by
  obtain ⟨a, b, rfl, hp⟩ := h
  obtain ⟨j, hj, rfl⟩ := List.mem_iff_getElem.1 hp
  have h1 := hat a.length (by simp)
  have h2 := hat (a.length + 1 + j) (by simp; omega)
  simp at h1
  have e : (a ++ x :: b)[a.length + 1 + j]'(by simp; omega) = b[j] := by
    rw [List.getElem_append_right (by omega)]
    simp [show a.length + 1 + j - a.length = j + 1 from by omega]
  rw [e] at h2
  rw [h1, h2]
  omega
theorem ord_of {g : List S62} (G : Gok g) {root : Int} (h0 : 0 ≤ root) (h1 : root < (g.length : Int)) (k : Nat) (hk : 101 ≤ k) :
    ∃ s', vis k g (List.replicate g.length false, []) root = some s' ∧ s'.2.length ≤ 100 ∧ (∀ b ∈ s'.2, 0 ≤ b ∧ b < (g.length : Int)) ∧ Ord g root s'.2 (rankL s'.2 g.length) ∧ (∀ x, 0 ≤ gt (rankL s'.2 g.length) x → x ∈ s'.2) := by
  have hno : ∀ x, ¬ Sn (List.replicate g.length false) x := fun x h => by
    have := h.2.2
    unfold rdOf at this
    rw [List.getD_eq_getElem?_getD, List.getElem?_replicate] at this
    split at this <;> cases this
  have hc : cntF (List.replicate g.length false) = g.length := by unfold cntF; simp
  have hln := G.len
  obtain ⟨s', l, e, V⟩ := vis_spec G 100 k (List.replicate g.length false, []) root (by omega) (by simp) h0 h1 (hno root) (by show cntF (List.replicate g.length false) ≤ _; omega) (by show 0 + cntF (List.replicate g.length false) ≤ _; omega)
  have ho : s'.2 = l ++ [root] := by have := V.out; simpa using this
  have hcnt : cntF s'.1 + (l ++ [root]).length = g.length := by rw [← hc]; exact V.cnt
  have hsl : s'.1.length = g.length := by have := V.len; simpa using this
  have hnew : ∀ x, Sn s'.1 x ↔ x ∈ l ++ [root] := fun x => by
    rw [V.new]
    exact ⟨fun h => h.elim (fun h => absurd h (hno x)) id, .inr⟩
  have hrange : ∀ b ∈ l ++ [root], 0 ≤ b ∧ b < (g.length : Int) := fun b hb => by
    have := (hnew b).2 hb
    exact ⟨this.1, by have := this.2.1; omega⟩
  refine ⟨s', e, by rw [ho]; omega, by rw [ho]; exact hrange, ?_⟩
  rw [ho, rankL_eq]
  have hat := rankI_at (l ++ [root]) g.length V.nodup hrange (l ++ [root]).length (Nat.le_refl _)
  rw [List.take_length] at hat
  obtain ⟨hat, hout⟩ := hat
  have hmem : ∀ x, 0 ≤ gt (rankI (l ++ [root]) g.length (l ++ [root]).length) x → x ∈ l ++ [root] := fun x hx => by
    by_cases h : x ∈ l ++ [root]
    · exact h
    · rw [hout x h] at hx; omega
  have hidx : ∀ x, x ∈ l ++ [root] → ∃ i : Nat, ∃ h : i < (l ++ [root]).length, (l ++ [root])[i] = x := fun x hx => by
    obtain ⟨i, hi, e⟩ := List.mem_iff_getElem.1 hx
    exact ⟨i, hi, e⟩
  have hroot : gt (rankI (l ++ [root]) g.length (l ++ [root]).length) root = (l.length : Int) := by
    have := hat l.length (by simp) (by simp)
    simpa using this
  refine ⟨⟨⟨by omega, fun x => ?_, fun x y hx hxy => ?_, fun x hx hn => ?_, fun p x hp hE => ?_, fun x hx => (hrange x (hmem x hx)).1⟩, rankI_length _ _ _, fun y y0 y1 => ?_, fun i h => hat i h h, l.length, by simp, by simp⟩, hmem⟩
  · rw [hroot]
    by_cases h : x ∈ l ++ [root]
    · obtain ⟨i, hi, e⟩ := hidx x h
      rw [← e, hat i hi hi]
      simp at hi
      omega
    · rw [hout x h]; omega
  · have h2 := hmem x hx
    have h3 := hmem y (by omega)
    obtain ⟨i, hi, e⟩ := hidx x h2
    obtain ⟨j, hj, e'⟩ := hidx y h3
    rw [← e, ← e', hat i hi hi, hat j hj hj] at hxy
    have : i = j := by omega
    subst this
    rw [← e, ← e']
  · rcases V.up x (hmem x hx) with h | ⟨p, h2, h3⟩
    · exact absurd h hn
    · exact ⟨p, aft_rank (fun i h => hat i h h) h2, h3⟩
  · have h2 := (hnew x).1 (V.closed p (hmem p hp) x hE)
    obtain ⟨i, hi, e⟩ := hidx x h2
    rw [← e, hat i hi hi]; omega
  · have hy : gt (rankI (l ++ [root]) g.length (l ++ [root]).length) y = rd _ y := gt_in y0 y1
    by_cases h : y ∈ l ++ [root]
    · obtain ⟨i, hi, e⟩ := hidx y h
      rw [← hy, ← e, hat i hi hi]; omega
    · rw [← hy, hout y h]; exact .inr rfl
end Go.Proofs.Ytaellapacoikaaa.PB
