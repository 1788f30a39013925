import Derived.Test.YtaellapacoikaaaNM3
namespace Go.Proofs.Ytaellapacoikaaa.PB
open Go.RowKit Go.Proofs.YtaellapacoikaaaW.PrintWords Go.Proofs.YtaellapacoikaaaW.PrintLast Go.Proofs.YtaellapacoikaaaW.PrintMore Dom
set_option linter.unusedVariables false
set_option linter.unusedSimpArgs false
/-! ### all passes -/
theorem sum_le {α : Type} (u v : α → Nat) : ∀ l : List α, (∀ x ∈ l, u x ≤ v x) → (l.map u).sum ≤ (l.map v).sum
  | [], _ => Nat.le_refl _
  | x :: l, h => by
    rw [List.map_cons, List.map_cons, List.sum_cons, List.sum_cons]
    have := h x (by simp)
    have := sum_le u v l (fun y hy => h y (by simp [hy]))
    omega
theorem sum_lt {α : Type} (u v : α → Nat) : ∀ l : List α, (∀ x ∈ l, u x ≤ v x) → (∃ x ∈ l, u x < v x) → (l.map u).sum < (l.map v).sum
  | [], _, ⟨_, h, _⟩ => by cases h
  | x :: l, h, ⟨y, hy, hlt⟩ => by
    rw [List.map_cons, List.map_cons, List.sum_cons, List.sum_cons]
    have h1 := h x (by simp)
    rcases List.mem_cons.1 hy with rfl | hy
    · have := sum_le u v l (fun y hy => h y (by simp [hy])); omega
    · have := sum_lt u v l (fun y hy => h y (by simp [hy])) ⟨y, hy, hlt⟩; omega
/-- how far the blocks' parents are from the root -/
def far (root : Int) (order rank idom : List Int) : Nat := (order.map fun b => (gt rank root - gt rank (gt idom b)).toNat).sum
/-- the list that is handed back -/
structure Res (g : List S62) (root : Int) (rank r : List Int) : Prop where
  len : r.length = g.length
  inv : Inv (Ed g) root (gt rank) (gt r)
  fix : ∀ x p, 0 ≤ gt rank x → x ≠ root → 0 ≤ gt rank p → Ed g p x → Ch (gt r) root p (gt r x)
  out : ∀ x, gt rank x < 0 → gt r x = -1
theorem Ord.mem {g : List S62} {root : Int} {order rank : List Int} (O : Ord g root order rank) (hm : ∀ x, 0 ≤ gt rank x → x ∈ order) {x : Int} (h : x ∈ order) : 0 ≤ gt rank x := by
  obtain ⟨i, hi, rfl⟩ := List.mem_iff_getElem.1 h
  rw [O.at_ i hi]; omega
theorem dom_later {g : List S62} {root : Int} {order rank : List Int} (O : Ord g root order rank) (hm : ∀ x, 0 ≤ gt rank x → x ∈ order) : ∀ (n k : Nat) (o : List Int), far root order rank o ≤ n → n + (gt rank root).toNat + (gt rank root).toNat + 1 < k → o.length = g.length →
    Inv (Ed g) root (gt rank) (gt o) → (∀ x, gt rank x < 0 → gt o x = -1) → ∃ r, domL k g rank root order o = some r ∧ Res g root rank r
  | n, k, o, hn, hk, hl, I, hout => by
    obtain ⟨k, rfl⟩ : ∃ j, k = j + 1 := ⟨k - 1, by omega⟩
    obtain ⟨⟨r, fl⟩, hs, S⟩ := later_pass (k := k) O (by omega) hl I
    have J := S.mid.done O.num I (Int.le_refl _)
    rw [domL, hs, Option.bind_some]
    cases fl with
    | false =>
      obtain ⟨h1, h2⟩ := S.st rfl
      have h1' : r = o := h1
      subst h1'
      exact ⟨r, rfl, hl, I, fun x p h0 h1 h3 h4 => h2 x p h0 h0 h1 h3 h4, hout⟩
    | true =>
      rw [if_pos rfl]
      obtain ⟨b, _, hb, hne⟩ := S.ch rfl
      have hx : ∀ x, 0 ≤ gt rank x → gt rank (gt o x) ≤ gt rank (gt r x) ∧ (gt r x ≠ gt o x → gt rank (gt o x) < gt rank (gt r x)) := fun x hx => by
        have hox := I.all x hx
        by_cases e : x = root
        · subst e
          have h1 := I.wf.rt
          have h2 : gt r x = x := J.wf.rt
          rw [h2, h1]
          exact ⟨Int.le_refl _, fun h => absurd rfl h⟩
        · have h2 := J.wf.up x (J.all x hx) e
          have h1 := S.mid.less x (gt r x) hx (Ch.up e Ch.refl)
          obtain ⟨h3, _⟩ := Ch.under I.wf h1 hox (fun h => by have h4 := h2.2; rw [h] at h4; omega)
          have h5 := I.wf.up x hox e
          have h4 := Ch.rank I.wf h3 h5.1
          refine ⟨h4, fun hne => ?_⟩
          have : gt rank (gt o x) ≠ gt rank (gt r x) := fun h => hne (O.num.inj _ _ (I.wf.num _ h5.1) h).symm
          omega
      have hlt : far root order rank r < far root order rank o := by
        refine sum_lt _ _ order (fun x h => ?_) ⟨b, hm b hb, ?_⟩
        · have h1 := hx x (O.mem hm h); have := O.num.top (gt r x); omega
        · have h1 := (hx b hb).2 hne; have := O.num.top (gt r b); show Int.toNat _ < Int.toNat _; omega
      cases n with
      | zero => omega
      | succ n => exact dom_later O hm n k r (by omega) (by omega) S.len J (fun x hx => by rw [S.out x hx]; exact hout x hx)
theorem Ord.gt_low {g : List S62} {root : Int} {order rank : List Int} (O : Ord g root order rank) (y : Int) : -1 ≤ gt rank y := by
  unfold gt
  split
  · rename_i hc
    have := O.low y hc.1 hc.2
    omega
  · exact Int.le_refl _
theorem dom_all {g : List S62} {root : Int} {order rank : List Int} (O : Ord g root order rank) (hm : ∀ x, 0 ≤ gt rank x → x ∈ order) (hr : root < g.length) :
    ∃ k r, domL k g rank root order ((List.replicate g.length (-1)).set root.toNat root) = some r ∧ Res g root rank r := by
  have hr0 := O.num.pos root O.num.root0
  have hset : ∀ x, gt ((List.replicate g.length (-1)).set root.toNat root) x = if x = root then root else -1 := fun x => by
    rw [gt_set hr0 (by rw [List.length_replicate]; exact hr)]
    split
    · rfl
    · unfold gt
      split
      · rename_i h
        rw [List.length_replicate] at h
        unfold rd
        rw [List.getD_eq_getElem?_getD, List.getElem?_replicate, if_pos (by omega)]; rfl
      · rfl
  have F : Fst (Ed g) root (gt rank) (gt ((List.replicate g.length (-1)).set root.toNat root)) (gt rank root) := by
    have hroot : ∀ x, 0 ≤ gt rank x → gt rank root ≤ gt rank x → x = root := fun x h0 h1 => O.num.inj x root h0 (by have := O.num.top x; omega)
    have hpos : ∀ x, 0 ≤ gt ((List.replicate g.length (-1)).set root.toNat root) x → x = root := fun x h => by
      rw [hset] at h; split at h
      · assumption
      · omega
    refine ⟨⟨by rw [hset, if_pos rfl], hr0, fun x h => by rw [hpos x h]; exact O.num.root0, fun x h hn => absurd (hpos x h) hn⟩, fun x d h hn => absurd (hpos x h) hn, fun x h0 h1 => by rw [hroot x h0 h1, hset, if_pos rfl]; exact hr0, fun x h => ?_,
      fun x p h0 h1 h2 => absurd (hroot x h0 h1) h2, fun x z h0 h1 h2 => absurd (hroot x h0 h1) h2⟩
    rw [hset, if_neg (fun e => by subst e; omega)]; decide
  have hk0 : (gt rank root).toNat + (gt rank root).toNat < (gt rank root).toNat + (gt rank root).toNat + 1 := by omega
  have hpass : ∀ k, (gt rank root).toNat + (gt rank root).toNat < k → ∃ s', passB k g rank root order ((List.replicate g.length (-1)).set root.toNat root) = some s' ∧ Sin1 g root rank 0 s' := fun k hk =>
    whole_pass (P := Sin1 g root rank) O (fun t s b h h1 h2 h3 => h.step O.num O.rlen hk h1 h2 h3)
      ⟨by rw [List.length_set, List.length_replicate], F, (fun _ x h0 h1 => O.num.inj x root h0 (by have := O.num.top x; omega)), fun x hx => by show gt _ x = -1; rw [hset, if_neg (fun e => by subst e; have := O.num.root0; omega)]⟩
  obtain ⟨⟨r0, f0⟩, _, _⟩ := hpass _ hk0
  -- the pass's outcome does not depend on the rounds: take them large enough at once
  have main : ∀ k s', passB k g rank root order ((List.replicate g.length (-1)).set root.toNat root) = some s' → Sin1 g root rank 0 s' → far root order rank s'.1 + (gt rank root).toNat + (gt rank root).toNat + 1 < k →
      ∃ k r, domL k g rank root order ((List.replicate g.length (-1)).set root.toNat root) = some r ∧ Res g root rank r := fun k s' hs S hk => by
    have J := S.fst.done (Int.le_refl _)
    by_cases hf : s'.2 = true
    · obtain ⟨r, hr, R⟩ := dom_later O hm _ k s'.1 (Nat.le_refl _) hk S.len J S.out
      exact ⟨k + 1, r, by rw [domL, hs, Option.bind_some, if_pos hf]; exact hr, R⟩
    · refine ⟨k + 1, s'.1, by rw [domL, hs, Option.bind_some, if_neg hf], S.len, J, fun x p h0 h1 => ?_, S.out⟩
      have hf' : s'.2 = false := by cases h : s'.2 <;> simp_all
      exact absurd (S.st hf' x h0 h0) h1
  have hfar : ∀ r, far root order rank r ≤ order.length * (gt rank root + 1).toNat := fun r => by
    unfold far
    have : ∀ l : List Int, (l.map fun b => (gt rank root - gt rank (gt r b)).toNat).sum ≤ l.length * (gt rank root + 1).toNat := fun l => by
      induction l with
      | nil => simp
      | cons x l ih =>
        rw [List.map_cons, List.sum_cons, List.length_cons, Nat.succ_mul]
        have h3 := O.gt_low (gt r x)
        omega
    exact this order
  obtain ⟨s', hs, S⟩ := hpass (order.length * (gt rank root + 1).toNat + (gt rank root).toNat + (gt rank root).toNat + 2) (by omega)
  exact main _ s' hs S (by have := hfar s'.1; omega)
end Go.Proofs.Ytaellapacoikaaa.PB
