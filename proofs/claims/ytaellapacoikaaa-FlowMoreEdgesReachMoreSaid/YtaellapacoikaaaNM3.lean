import Derived.Test.YtaellapacoikaaaNB6
import Derived.Test.YtaellapacoikaaaNM2
namespace Go.Proofs.Ytaellapacoikaaa.PB
open Go.RowKit Go.Proofs.YtaellapacoikaaaW.PrintWords Go.Proofs.YtaellapacoikaaaW.PrintLast Go.Proofs.YtaellapacoikaaaW.PrintMore Dom
set_option linter.unusedVariables false
set_option linter.unusedSimpArgs false
/-! ### the iterative algorithm over lists -/
/-- a row's number at a place; -1 outside -/
def gt (l : List Int) (x : Int) : Int := if 0 ≤ x ∧ x < (l.length : Int) then rd l x else -1
theorem gt_in {l : List Int} {x : Int} (h0 : 0 ≤ x) (h1 : x < (l.length : Int)) : gt l x = rd l x := if_pos ⟨h0, h1⟩
theorem gt_pos {l : List Int} {x : Int} (h : 0 ≤ gt l x) : 0 ≤ x ∧ x < (l.length : Int) := by
  unfold gt at h
  split at h
  · rename_i hc; exact hc
  · omega
theorem gt_set {l : List Int} {b c : Int} (h0 : 0 ≤ b) (h1 : b < (l.length : Int)) (x : Int) : gt (l.set b.toNat c) x = if x = b then c else gt l x := by
  unfold gt rd
  rw [List.length_set]
  by_cases e : x = b
  · subst e
    rw [if_pos ⟨h0, h1⟩, if_pos rfl, List.getD_eq_getElem?_getD, List.getElem?_set, if_pos rfl, if_pos (by omega)]; rfl
  · rw [if_neg e]
    by_cases h : 0 ≤ x ∧ x < (l.length : Int)
    · rw [if_pos h, if_pos h, List.getD_eq_getElem?_getD, List.getElem?_set, if_neg (by omega), List.getD_eq_getElem?_getD]
    · rw [if_neg h, if_neg h]
/-- the edges -/
def Ed (g : List S62) (p b : Int) : Prop := 0 ≤ p ∧ p < (g.length : Int) ∧ b ∈ innerL g p
theorem isect_nca {g : List S62} {root : Int} {rank idom : List Int} (N : Num (Ed g) root (gt rank)) (W : Wf root (gt rank) (gt idom)) : ∀ (m k : Nat) (a x : Int), 0 ≤ gt idom a → 0 ≤ gt idom x →
    (gt rank root - gt rank a).toNat + (gt rank root - gt rank x).toNat ≤ m → m < k → ∃ c, isect k rank idom a x = some c ∧ Nca (gt idom) root (fun p => p = a ∨ p = x) c
  | m, k, a, x, ha, hx, hm, hk => by
    obtain ⟨k, rfl⟩ : ∃ j, k = j + 1 := ⟨k - 1, by omega⟩
    rw [isect]
    by_cases e : a = x
    · rw [if_pos e]
      subst e
      exact ⟨a, rfl, ⟨fun p hp => by rcases hp with rfl | rfl <;> exact Ch.refl, fun z h => h a (.inl rfl)⟩⟩
    · rw [if_neg e]
      have na := W.num _ ha
      have nx := W.num _ hx
      have ia := gt_pos na
      have ix := gt_pos nx
      have ja := gt_pos ha
      have jx := gt_pos hx
      rw [if_pos ⟨ia.1, ia.2, ja.2, ix.1, ix.2, jx.2⟩, ← gt_in ia.1 ia.2, ← gt_in ix.1 ix.2, ← gt_in ja.1 ja.2, ← gt_in jx.1 jx.2]
      have ta := N.top a
      have tx := N.top x
      by_cases c : gt rank a < gt rank x
      · rw [if_pos c]
        have har : a ≠ root := fun h => by subst h; omega
        have h1 := W.up a ha har
        have t1 := N.top (gt idom a)
        cases m with
        | zero => omega
        | succ m =>
          obtain ⟨r, hr, hn⟩ := isect_nca N W m k (gt idom a) x h1.1 hx (by omega) (by omega)
          refine ⟨r, hr, ⟨fun p hp => ?_, fun z h => hn.best z fun p hp => ?_⟩⟩
          · rcases hp with rfl | rfl
            · exact Ch.up har (hn.all _ (.inl rfl))
            · exact hn.all _ (.inr rfl)
          · rcases hp with rfl | rfl
            · have h2 := h x (.inr rfl)
              have h3 := Ch.rank W h2 hx
              exact (Ch.under W (h a (.inl rfl)) ha (fun h => by subst h; omega)).1
            · exact h _ (.inr rfl)
      · rw [if_neg c]
        have hne : gt rank a ≠ gt rank x := fun h => e (N.inj a x na h)
        have hxr : x ≠ root := fun h => by subst h; omega
        have h1 := W.up x hx hxr
        have t1 := N.top (gt idom x)
        cases m with
        | zero => omega
        | succ m =>
          obtain ⟨r, hr, hn⟩ := isect_nca N W m k a (gt idom x) ha h1.1 (by omega) (by omega)
          refine ⟨r, hr, ⟨fun p hp => ?_, fun z h => hn.best z fun p hp => ?_⟩⟩
          · rcases hp with rfl | rfl
            · exact hn.all _ (.inl rfl)
            · exact Ch.up hxr (hn.all _ (.inr rfl))
          · rcases hp with rfl | rfl
            · exact h _ (.inl rfl)
            · have h2 := h a (.inl rfl)
              have h3 := Ch.rank W h2 ha
              exact (Ch.under W (h x (.inr rfl)) hx (fun h => by subst h; omega)).1
theorem two_le {R a c : Int} (h1 : 0 ≤ a) (h2 : 0 ≤ c) : (R - a).toNat + (R - c).toNat ≤ R.toNat + R.toNat := by omega
/-- what the rounds over the predecessors find -/
theorem nextL_spec {g : List S62} {root : Int} {rank idom : List Int} (N : Num (Ed g) root (gt rank)) (W : Wf root (gt rank) (gt idom)) (hi : idom.length = g.length) {k : Nat} (hk : (gt rank root).toNat + (gt rank root).toNat < k) (b : Int) : ∀ i : Nat, i ≤ g.length →
    ∃ c, nextL k g rank idom b i = some c ∧ ((c = -1 ∧ ∀ p : Int, p < i → 0 ≤ gt idom p → Ed g p b → False) ∨
      (0 ≤ gt idom c ∧ (∃ p : Int, p < i ∧ 0 ≤ gt idom p ∧ Ed g p b) ∧ Nca (gt idom) root (fun p => p < (i : Int) ∧ 0 ≤ gt idom p ∧ Ed g p b) c)) := by
  intro i
  induction i with
  | zero =>
    intro _
    refine ⟨-1, by unfold nextL; simp, .inl ⟨rfl, fun p hp h _ => ?_⟩⟩
    have := gt_pos h
    omega
  | succ i ih =>
    intro hle
    obtain ⟨c, hc, hs⟩ := ih (by omega)
    unfold nextL at hc ⊢
    rw [List.range_succ, List.foldlM_append, hc]
    show ∃ r, (Option.bind (some c) fun x => List.foldlM (nextP k g rank idom b) x [i]) = some r ∧ _
    rw [Option.bind_some, List.foldlM_cons]
    simp only [List.foldlM_nil]
    show ∃ r, (Option.bind (nextP k g rank idom b c i) fun x => some x) = some r ∧ _
    rw [show (Option.bind (nextP k g rank idom b c i) fun x => some x) = nextP k g rank idom b c i from by cases nextP k g rank idom b c i <;> rfl]
    unfold nextP
    have e : rd idom (i : Int) = gt idom i := (gt_in (by omega) (by omega)).symm
    rw [e]
    by_cases h1 : gt idom (i : Int) < 0
    · rw [if_pos h1]
      refine ⟨c, rfl, ?_⟩
      have hq : ∀ p : Int, p < ((i + 1 : Nat) : Int) → 0 ≤ gt idom p → p < (i : Int) := fun p hp h => by
        by_cases e : p = i
        · subst e; omega
        · omega
      rcases hs with ⟨a, b⟩ | ⟨a, ⟨p, p1, p2, p3⟩, b⟩
      · exact .inl ⟨a, fun p hp h => b p (hq p hp h) h⟩
      · exact .inr ⟨a, ⟨p, by omega, p2, p3⟩, ⟨fun q hq' => b.all q ⟨hq q hq'.1 hq'.2.1, hq'.2⟩, fun z hz => b.best z fun q hq' => hz q ⟨by omega, hq'.2⟩⟩⟩
    · rw [if_neg h1]
      by_cases h2 : b ∈ innerL g (i : Int)
      · rw [if_pos h2]
        have hE : Ed g i b := ⟨by omega, by omega, h2⟩
        rcases hs with ⟨a, hb⟩ | ⟨a, ⟨p, p1, p2, p3⟩, hb⟩
        · rw [if_pos (by omega)]
          refine ⟨_, rfl, .inr ⟨by omega, ⟨i, by omega, by omega, hE⟩, ⟨fun q hq => ?_, fun z hz => hz i ⟨by omega, by omega, hE⟩⟩⟩⟩
          by_cases e : q = i
          · subst e; exact Ch.refl
          · exact (hb q (by omega) hq.2.1 hq.2.2).elim
        · have hc0 := (gt_pos a).1
          rw [if_neg (by omega)]
          have z0 : 0 ≤ gt idom (i : Int) := by omega
          have z1 := W.num _ a
          have z2 := W.num _ z0
          have z3 : (gt rank root - gt rank (i : Int)).toNat + (gt rank root - gt rank c).toNat ≤ (gt rank root).toNat + (gt rank root).toNat := two_le z2 z1
          obtain ⟨r, hr, hn⟩ := isect_nca N W ((gt rank root).toNat + (gt rank root).toNat) k i c z0 a z3 hk
          refine ⟨r, hr, .inr ⟨Ch.done W (hn.all c (.inr rfl)) a, ⟨i, by omega, by omega, hE⟩, ⟨fun q hq => ?_, fun z hz => ?_⟩⟩⟩
          · by_cases e : q = i
            · subst e; exact hn.all _ (.inl rfl)
            · exact (hb.all q ⟨by omega, hq.2⟩).trans (hn.all c (.inr rfl))
          · refine hn.best z fun q hq => ?_
            rcases hq with rfl | rfl
            · exact hz _ ⟨by omega, by omega, hE⟩
            · exact hb.best z fun q hq => hz q ⟨by omega, hq.2⟩
      · rw [if_neg h2]
        refine ⟨c, rfl, ?_⟩
        have hq : ∀ p : Int, p < ((i + 1 : Nat) : Int) → Ed g p b → p < (i : Int) := fun p hp h => by
          by_cases e : p = i
          · subst e; exact absurd h.2.2 h2
          · omega
        rcases hs with ⟨a, b⟩ | ⟨a, ⟨p, p1, p2, p3⟩, b⟩
        · exact .inl ⟨a, fun p hp h hE => b p (hq p hp hE) h hE⟩
        · exact .inr ⟨a, ⟨p, by omega, p2, p3⟩, ⟨fun q hq' => b.all q ⟨hq q hq'.1 hq'.2.2, hq'.2⟩, fun z hz => b.best z fun q hq' => hz q ⟨by omega, hq'.2⟩⟩⟩
/-- .. over all blocks, for a block that a block looked at leads to -/
theorem nextL_all {g : List S62} {root : Int} {rank idom : List Int} (N : Num (Ed g) root (gt rank)) (W : Wf root (gt rank) (gt idom)) (hi : idom.length = g.length) {k : Nat} (hk : (gt rank root).toNat + (gt rank root).toNat < k) (b : Int)
    (hp : ∃ p, 0 ≤ gt idom p ∧ Ed g p b) : ∃ c, nextL k g rank idom b g.length = some c ∧ 0 ≤ gt idom c ∧ Nca (gt idom) root (fun p => 0 ≤ gt idom p ∧ Ed g p b) c := by
  obtain ⟨c, hc, hs⟩ := nextL_spec N W hi hk b g.length (Nat.le_refl _)
  obtain ⟨p, p1, p2⟩ := hp
  rcases hs with ⟨a, h⟩ | ⟨a, _, h⟩
  · exact (h p p2.2.1 p1 p2).elim
  · exact ⟨c, hc, a, ⟨fun q hq => h.all q ⟨hq.2.2.1, hq⟩, fun z hz => h.best z fun q hq => hz q hq.2⟩⟩

/-! ### a pass -/
/-- the numbering is the place in a list -/
structure Ord (g : List S62) (root : Int) (order rank : List Int) : Prop where
  num : Num (Ed g) root (gt rank)
  rlen : rank.length = g.length
  low : ∀ y : Int, 0 ≤ y → y < rank.length → 0 ≤ rd rank y ∨ rd rank y = -1
  at_ : ∀ i : Nat, ∀ h : i < order.length, gt rank order[i] = i
  last : ∃ m, order.length = m + 1 ∧ order[m]? = some root
/-- between two blocks of a later pass -/
structure Sin (g : List S62) (root : Int) (rank o : List Int) (t : Int) (s : List Int × Bool) : Prop where
  len : s.1.length = g.length
  mid : Mid (Ed g) root (gt rank) (gt o) (gt s.1) t
  ch : s.2 = true → ∃ b, t ≤ gt rank b ∧ 0 ≤ gt rank b ∧ gt s.1 b ≠ gt o b
  st : s.2 = false → s.1 = o ∧ ∀ x p, 0 ≤ gt rank x → t ≤ gt rank x → x ≠ root → 0 ≤ gt rank p → Ed g p x → Ch (gt o) root p (gt o x)
  out : ∀ x, gt rank x < 0 → gt s.1 x = gt o x
/-- between two blocks of the first pass -/
structure Sin1 (g : List S62) (root : Int) (rank : List Int) (t : Int) (s : List Int × Bool) : Prop where
  len : s.1.length = g.length
  fst : Fst (Ed g) root (gt rank) (gt s.1) t
  st : s.2 = false → ∀ x, 0 ≤ gt rank x → t ≤ gt rank x → x = root
  out : ∀ x, gt rank x < 0 → gt s.1 x = -1
theorem Sin.step {g : List S62} {root : Int} {rank o : List Int} {t : Int} {s : List Int × Bool} {b : Int} {k : Nat} (N : Num (Ed g) root (gt rank)) (hr : rank.length = g.length) (I : Inv (Ed g) root (gt rank) (gt o)) (h : Sin g root rank o t s) (hk : (gt rank root).toNat + (gt rank root).toNat < k) (hb : gt rank b = t - 1) (hb0 : 0 ≤ gt rank b) (hbr : b ≠ root) :
    ∃ s', stepB k g rank root s b = some s' ∧ Sin g root rank o (t - 1) s' := by
  obtain ⟨q, hq, hqE⟩ := N.up b hb0 hbr
  obtain ⟨c, hc, hcd, hn⟩ := nextL_all N h.mid.wf h.len hk b ⟨q, h.mid.all q (by omega), hqE⟩
  have hbi := gt_pos hb0
  have hn' : Nca (gt s.1) root (fun p => 0 ≤ gt rank p ∧ Ed g p b) c := ⟨fun p hp => hn.all p ⟨h.mid.all p hp.1, hp.2⟩, fun z hz => hn.best z fun p hp => hz p ⟨h.mid.wf.num p hp.1, hp.2⟩⟩
  unfold stepB
  rw [if_neg hbr, hc, Option.bind_some]
  have hbl : b < (s.1.length : Int) := by rw [h.len]; omega
  rw [← gt_in hbi.1 hbl]
  by_cases e : c = gt s.1 b
  · rw [if_pos e]
    obtain ⟨M, _⟩ := h.mid.step N I (g := gt s.1) hb hb0 hbr hn' e.symm (fun _ _ => rfl)
    refine ⟨s, rfl, h.len, M, fun hs => ?_, fun hs => ?_, h.out⟩
    · obtain ⟨y, h1, h2⟩ := h.ch hs; exact ⟨y, by omega, h2⟩
    · obtain ⟨h1, h2⟩ := h.st hs
      refine ⟨h1, fun x p hx hxt hxr hp hE => ?_⟩
      by_cases ex : x = b
      · subst ex
        have := hn'.all p ⟨hp, hE⟩
        rw [e, h1] at this
        exact this
      · have : gt rank x ≠ gt rank b := fun h => ex (N.inj x b hx h)
        exact h2 x p hx (by omega) hxr hp hE
  · rw [if_neg e]
    have hg := gt_set (l := s.1) (c := c) hbi.1 hbl
    obtain ⟨M, _⟩ := h.mid.step N I (g := gt (s.1.set b.toNat c)) hb hb0 hbr hn' (by rw [hg, if_pos rfl]) (fun x hx => by rw [hg, if_neg hx])
    refine ⟨_, rfl, by rw [List.length_set]; exact h.len, M, fun _ => ⟨b, by omega, hb0, ?_⟩, (fun hs => by cases hs), fun x hx => ?_⟩
    · show gt (s.1.set b.toNat c) b ≠ gt o b
      rw [hg, if_pos rfl, ← h.mid.low b (by omega)]
      exact e
    · show gt (s.1.set b.toNat c) x = gt o x
      rw [hg, if_neg (fun e => by subst e; omega)]
      exact h.out x hx
theorem Sin1.step {g : List S62} {root : Int} {rank : List Int} {t : Int} {s : List Int × Bool} {b : Int} {k : Nat} (N : Num (Ed g) root (gt rank)) (hr : rank.length = g.length) (h : Sin1 g root rank t s) (hk : (gt rank root).toNat + (gt rank root).toNat < k) (hb : gt rank b = t - 1) (hb0 : 0 ≤ gt rank b) (hbr : b ≠ root) :
    ∃ s', stepB k g rank root s b = some s' ∧ Sin1 g root rank (t - 1) s' := by
  obtain ⟨q, hq, hqE⟩ := N.up b hb0 hbr
  obtain ⟨c, hc, hcd, hn⟩ := nextL_all N h.fst.wf h.len hk b ⟨q, h.fst.has q (by omega) (by omega), hqE⟩
  have hbi := gt_pos hb0
  have hbl : b < (s.1.length : Int) := by rw [h.len]; omega
  unfold stepB
  rw [if_neg hbr, hc, Option.bind_some, ← gt_in hbi.1 hbl]
  have h1 := h.fst.hasnt b (by omega)
  have hc0 := gt_pos hcd
  rw [if_neg (by omega)]
  have hg := gt_set (l := s.1) (c := c) hbi.1 hbl
  obtain ⟨F, _⟩ := h.fst.step N (g := gt (s.1.set b.toNat c)) hb hb0 hbr hn (by rw [hg, if_pos rfl]) (fun x hx => by rw [hg, if_neg hx])
  refine ⟨_, rfl, by rw [List.length_set]; exact h.len, F, (fun hs => by cases hs), fun x hx => ?_⟩
  show gt (s.1.set b.toNat c) x = -1
  rw [hg, if_neg (fun e => by subst e; omega)]
  exact h.out x hx
theorem take_rev {l : List Int} {j : Nat} (h : j < l.length) : (l.take (j + 1)).reverse = l[j] :: (l.take j).reverse := by
  rw [← List.take_append_getElem h]; simp
/-- the rest of a pass -/
theorem rest_pass {P : Int → List Int × Bool → Prop} {g : List S62} {root : Int} {order rank : List Int} {k : Nat} (O : Ord g root order rank)
    (hstep : ∀ t s b, P t s → gt rank b = t - 1 → 0 ≤ gt rank b → b ≠ root → ∃ s', stepB k g rank root s b = some s' ∧ P (t - 1) s') : ∀ (j : Nat) (s : List Int × Bool), j < order.length → P j s →
    ∃ s', (order.take j).reverse.foldlM (stepB k g rank root) s = some s' ∧ P 0 s' := by
  intro j
  induction j with
  | zero => intro s _ h; exact ⟨s, by simp, h⟩
  | succ j ih =>
    intro s hj h
    have hj' : j < order.length := by omega
    have hrk := O.at_ j hj'
    obtain ⟨m, hm, hl⟩ := O.last
    have hml : m < order.length := by omega
    rw [List.getElem?_eq_getElem hml] at hl
    injection hl with hl
    have hne : order[j] ≠ root := fun e => by
      have := O.at_ m hml
      rw [hl, ← e, hrk] at this
      omega
    obtain ⟨s1, h1, h2⟩ := hstep _ s order[j] h (by rw [hrk]; omega) (by rw [hrk]; omega) hne
    have e : ((j + 1 : Nat) : Int) - 1 = (j : Int) := by omega
    rw [e] at h2
    obtain ⟨s2, h3, h4⟩ := ih s1 hj' h2
    refine ⟨s2, ?_, h4⟩
    rw [take_rev hj', List.foldlM_cons, h1]
    exact h3
theorem whole_pass {P : Int → List Int × Bool → Prop} {g : List S62} {root : Int} {order rank idom : List Int} {k : Nat} (O : Ord g root order rank)
    (hstep : ∀ t s b, P t s → gt rank b = t - 1 → 0 ≤ gt rank b → b ≠ root → ∃ s', stepB k g rank root s b = some s' ∧ P (t - 1) s') (h : P (gt rank root) (idom, false)) :
    ∃ s', passB k g rank root order idom = some s' ∧ P 0 s' := by
  obtain ⟨m, hm, hl⟩ := O.last
  have hml : m < order.length := by omega
  have hl' := hl
  rw [List.getElem?_eq_getElem hml] at hl'
  injection hl' with hl'
  have hroot := O.at_ m hml
  rw [hl'] at hroot
  obtain ⟨s1, h1, h2⟩ := rest_pass O hstep m (idom, false) hml (by rw [← hroot]; exact h)
  refine ⟨s1, ?_, h2⟩
  unfold passB
  have e : order.reverse = root :: (order.take m).reverse := by
    rw [← hl', ← take_rev hml, ← hm, List.take_length]
  rw [e, List.foldlM_cons]
  have e2 : stepB k g rank root (idom, false) root = some (idom, false) := by unfold stepB; rw [if_pos rfl]
  rw [e2]
  exact h1
theorem later_pass {g : List S62} {root : Int} {order rank o : List Int} {k : Nat} (O : Ord g root order rank) (hk : (gt rank root).toNat + (gt rank root).toNat < k) (hl : o.length = g.length) (I : Inv (Ed g) root (gt rank) (gt o)) :
    ∃ s', passB k g rank root order o = some s' ∧ Sin g root rank o 0 s' :=
  whole_pass (P := Sin g root rank o) O (fun t s b h h1 h2 h3 => h.step O.num O.rlen I hk h1 h2 h3)
    ⟨hl, I.begin O.num, (fun h => by cases h), (fun _ => ⟨rfl, fun x p h0 h1 h2 => absurd (O.num.inj x root h0 (by have := O.num.top x; omega)) h2⟩), fun _ _ => rfl⟩
end Go.Proofs.Ytaellapacoikaaa.PB
