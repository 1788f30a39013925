import Derived.Test.YtaellapacoikaaaNM1
namespace Go.Proofs.Ytaellapacoikaaa.Dom
set_option linter.unusedVariables false
/-! ### one pass -/
section pass
variable {E : Int → Int → Prop} {root : Int} {rk o f g : Int → Int} {b c t : Int}
/-- a finished state, as a pass leaves it -/
structure Inv (E : Int → Int → Prop) (root : Int) (rk f : Int → Int) : Prop where
  wf : Wf root rk f
  bd : Bd E root f
  all : ∀ x, 0 ≤ rk x → 0 ≤ f x
  fwd : ∀ x p, 0 ≤ rk x → x ≠ root → rk x < rk p → E p x → Ch f root p (f x)
  best : ∀ x z, 0 ≤ rk x → x ≠ root → (∀ p, 0 ≤ rk p → E p x → Ch f root p z) → Ch f root (f x) z
/-- in the midst of a pass that began with o: the blocks of rank t and above have been looked at -/
structure Mid (E : Int → Int → Prop) (root : Int) (rk o f : Int → Int) (t : Int) : Prop where
  wf : Wf root rk f
  bd : Bd E root f
  all : ∀ x, 0 ≤ rk x → 0 ≤ f x
  low : ∀ x, rk x < t → f x = o x
  fwd : ∀ x p, 0 ≤ rk x → t ≤ rk x → x ≠ root → rk x < rk p → E p x → Ch f root p (f x)
  less : ∀ x z, 0 ≤ rk x → Ch f root x z → Ch o root x z
  best : ∀ x z, 0 ≤ rk x → t ≤ rk x → x ≠ root → (∀ p, rk x < rk p → E p x → Ch f root p z) →
    (∀ p, 0 ≤ rk p → rk p ≤ rk x → E p x → Ch o root p z ∧ ∀ e, Ch o root p e → rk x < rk e → rk e ≤ rk z → Ch f root e z) → Ch f root (f x) z
theorem Inv.begin (N : Num E root rk) (I : Inv E root rk o) : Mid E root rk o o (rk root) where
  wf := I.wf
  bd := I.bd
  all := I.all
  low _ _ := rfl
  fwd x p h0 h1 h2 := absurd (N.inj x root h0 (by have := N.top x; omega)) h2
  less _ _ _ h := h
  best x z h0 h1 h2 := absurd (N.inj x root h0 (by have := N.top x; omega)) h2
/-- of the tree before the pass: who is in a chain, is on the way by which the numbering came -/
theorem Inv.keep (N : Num E root rk) (I : Inv E root rk o) (W : Wf root rk f) (hall : ∀ x, 0 ≤ rk x → 0 ≤ f x) (hf : ∀ x p, 0 ≤ rk x → x ≠ root → rk x < rk p → E p x → Ch f root p (f x)) :
    ∀ (n : Nat) (p e z : Int), (rk root - rk p).toNat ≤ n → 0 ≤ rk p → Ch o root p e → Ch f root p z → rk e ≤ rk z → Ch f root e z
  | n, p, e, z, hn, hp, he, hz, hr => by
    by_cases h1 : e = p
    · subst h1; exact hz
    · obtain ⟨he2, hpr⟩ := Ch.under I.wf he (I.all _ hp) h1
      have h2 := I.wf.up p (I.all p hp) hpr
      have h3 := Ch.rank I.wf he2 h2.1
      obtain ⟨hz2, _⟩ := Ch.under W hz (hall _ hp) (fun h => by subst h; omega)
      obtain ⟨q, hq, hE⟩ := N.up p hp hpr
      have := N.top q
      cases n with
      | zero => omega
      | succ n => exact Inv.keep N I W hall hf n q e z (by omega) (by omega) ((I.fwd p q hp hpr hq hE).trans he2) ((hf p q hp hpr hq hE).trans hz2) hr
theorem Mid.done (N : Num E root rk) (I : Inv E root rk o) (M : Mid E root rk o f t) (ht : t ≤ 0) : Inv E root rk f where
  wf := M.wf
  bd := M.bd
  all := M.all
  fwd x p h0 h1 h2 h3 := M.fwd x p h0 (by omega) h1 h2 h3
  best x z h0 h1 h2 := by
    refine M.best x z h0 (by omega) h1 (fun p hp hE => h2 p (by omega) hE) (fun p hp0 hp hE => ?_)
    have h3 := h2 p hp0 hE
    exact ⟨M.less p z hp0 h3, fun e he _ hr => Inv.keep N I M.wf M.all (fun x p h0 h1 h2 h3 => M.fwd x p h0 (by omega) h1 h2 h3) _ p e z (Nat.le_refl _) hp0 he h3 hr⟩
/-- a chain of the mixed tree -/
theorem Mid.mix (I : Inv E root rk o) (M : Mid E root rk o f t) {p z : Int} (hp : 0 ≤ rk p) (h : Ch o root p z) (hz : t ≤ rk z) (hk : ∀ e, Ch o root p e → t ≤ rk e → rk e ≤ rk z → Ch f root e z) : Ch f root p z := by
  induction h with
  | refl => exact Ch.refl
  | @up x y n h1 ih =>
    have h2 := I.wf.up x (I.all x hp) n
    by_cases hc : t ≤ rk x
    · exact hk x Ch.refl hc (by have := Ch.rank I.wf h1 h2.1; omega)
    · refine Ch.up n ?_
      rw [M.low x (by omega)]
      exact ih (I.wf.num _ h2.1) hz (fun e he => hk e (Ch.up n he))
/-- one block: the nearest block of its predecessors' chains is stored (or stands there) -/
theorem Mid.step (N : Num E root rk) (I : Inv E root rk o) (M : Mid E root rk o f t) (hb : rk b = t - 1) (hb0 : 0 ≤ rk b) (hbr : b ≠ root)
    (hc : Nca f root (fun p => 0 ≤ rk p ∧ E p b) c) (hg : g b = c) (hgo : ∀ x, x ≠ b → g x = f x) : Mid E root rk o g (t - 1) ∧ 0 ≤ rk c := by
  obtain ⟨q, hq, hqE⟩ := N.up b hb0 hbr
  have hqc := hc.all q ⟨by omega, hqE⟩
  have hcd := Ch.done M.wf hqc (M.all q (by omega))
  have hcr := Ch.rank M.wf hqc (M.all q (by omega))
  have P : Put root rk f g b c := ⟨hbr, hg, hgo, hb0, hcd, by omega, N.pos _ (M.wf.num _ hcd)⟩
  have Wg := P.wf M.wf
  have Bg := P.bd M.bd (fun d hd h => M.bd.nca N M.wf hc ⟨q, by omega, hqE⟩ (fun p hp => M.all p hp.1) (fun p hp => dom_pred h hp.2 (N.reached hp.1) hd))
  have Ag : ∀ x, 0 ≤ rk x → 0 ≤ g x := fun x hx => by
    by_cases e : x = b
    · subst e; rw [hg]; exact P.cpos
    · rw [hgo x e]; exact M.all x hx
  have hz : ∀ z, Ch g root b z → z = b ∨ Ch f root c z := fun z h => by
    cases h with
    | refl => exact .inl rfl
    | up _ h => rw [hg] at h; exact .inr (P.ch' M.wf hcd (by omega) h)
  have lessb : ∀ z, Ch g root b z → Ch o root b z := fun z h => by
    rcases hz z h with rfl | h
    · exact Ch.refl
    · exact Ch.up hbr (I.best b z hb0 hbr (fun p hp hE => M.less p z hp ((hc.all p ⟨hp, hE⟩).trans h)))
  refine ⟨⟨Wg, Bg, Ag, fun x hx => ?_, fun x p h0 h1 h2 h3 hE => ?_, fun x z hx h => ?_, fun x z h0 h1 h2 h3 h4 => ?_⟩, by omega⟩
  · rw [hgo x (fun e => by subst e; omega), M.low x (by omega)]
  · by_cases e : x = b
    · subst e; rw [hg]; exact P.ch M.wf (M.all p (by omega)) (by omega) (hc.all p ⟨by omega, hE⟩)
    · have : rk x ≠ rk b := fun h => e (N.inj x b h0 h)
      rw [hgo x e]
      exact P.ch M.wf (M.all p (by omega)) (by omega) (M.fwd x p h0 (by omega) h2 h3 hE)
  · induction h with
    | refl => exact Ch.refl
    | @up x y n h1 ih =>
      by_cases e : x = b
      · subst e; exact lessb _ (Ch.up n h1)
      · by_cases hr : rk b < rk x
        · exact M.less x _ hx (P.ch' M.wf (M.all x hx) hr (Ch.up n h1))
        · have : rk x ≠ rk b := fun h => e (N.inj x b hx h)
          rw [hgo x e, M.low x (by omega)] at ih
          exact Ch.up n (ih (I.wf.num _ (I.wf.up x (I.all x hx) n).1))
  · by_cases e : x = b
    · subst e
      rw [hg]
      refine P.ch M.wf hcd (by omega) (hc.best z fun p hp => ?_)
      by_cases hr : rk x < rk p
      · exact P.ch' M.wf (M.all p hp.1) hr (h3 p hr hp.2)
      · obtain ⟨h5, h6⟩ := h4 p hp.1 (by omega) hp.2
        have hzr : rk x < rk z := by
          have h7 := Ch.rank Wg (h3 q hq hqE) (Ag q (by omega))
          omega
        refine M.mix I hp.1 h5 (by omega) (fun e he ht hez => ?_)
        have he0 : 0 ≤ rk e := by omega
        exact P.ch' M.wf (M.all e he0) (by omega) (h6 e he (by omega) hez)
    · have hne : rk x ≠ rk b := fun h => e (N.inj x b h0 h)
      rw [hgo x e]
      have hfx := M.wf.up x (M.all x h0) h2
      refine P.ch M.wf hfx.1 (by omega) (M.best x z h0 (by omega) h2 (fun p hp hE => P.ch' M.wf (M.all p (by omega)) (by omega) (h3 p hp hE)) (fun p hp0 hp hE => ?_))
      obtain ⟨h5, h6⟩ := h4 p hp0 hp hE
      exact ⟨h5, fun y he hx hyz => P.ch' M.wf (M.all y (by omega)) (by omega) (h6 y he hx hyz)⟩
/-! ### the first pass -/
/-- in the midst of the first pass -/
structure Fst (E : Int → Int → Prop) (root : Int) (rk f : Int → Int) (t : Int) : Prop where
  wf : Wf root rk f
  bd : Bd E root f
  has : ∀ x, 0 ≤ rk x → t ≤ rk x → 0 ≤ f x
  hasnt : ∀ x, rk x < t → f x < 0
  fwd : ∀ x p, 0 ≤ rk x → t ≤ rk x → x ≠ root → rk x < rk p → E p x → Ch f root p (f x)
  best : ∀ x z, 0 ≤ rk x → t ≤ rk x → x ≠ root → (∀ p, rk x < rk p → E p x → Ch f root p z) → Ch f root (f x) z
theorem Fst.done (F : Fst E root rk f t) (ht : t ≤ 0) : Inv E root rk f where
  wf := F.wf
  bd := F.bd
  all x hx := F.has x hx (by omega)
  fwd x p h0 h1 h2 h3 := F.fwd x p h0 (by omega) h1 h2 h3
  best x z h0 h1 h2 := F.best x z h0 (by omega) h1 (fun p hp hE => h2 p (by omega) hE)
theorem Fst.step (N : Num E root rk) (F : Fst E root rk f t) (hb : rk b = t - 1) (hb0 : 0 ≤ rk b) (hbr : b ≠ root)
    (hc : Nca f root (fun p => 0 ≤ f p ∧ E p b) c) (hg : g b = c) (hgo : ∀ x, x ≠ b → g x = f x) : Fst E root rk g (t - 1) ∧ 0 ≤ rk c := by
  obtain ⟨q, hq, hqE⟩ := N.up b hb0 hbr
  have hqd := F.has q (by omega) (by omega)
  have hqc := hc.all q ⟨hqd, hqE⟩
  have hcd := Ch.done F.wf hqc hqd
  have hcr := Ch.rank F.wf hqc hqd
  have P : Put root rk f g b c := ⟨hbr, hg, hgo, hb0, hcd, by omega, N.pos _ (F.wf.num _ hcd)⟩
  have Wg := P.wf F.wf
  have Bg := P.bd F.bd (fun d hd h => F.bd.nca N F.wf hc ⟨q, hqd, hqE⟩ (fun p hp => hp.1) (fun p hp => dom_pred h hp.2 (N.reached (F.wf.num _ hp.1)) hd))
  have hdone : ∀ x, 0 ≤ f x → rk b < rk x := fun x hx => by
    by_cases h : rk x < t
    · have := F.hasnt x h; omega
    · omega
  refine ⟨⟨Wg, Bg, fun x h0 h1 => ?_, fun x hx => ?_, fun x p h0 h1 h2 h3 hE => ?_, fun x z h0 h1 h2 h3 => ?_⟩, by omega⟩
  · by_cases e : x = b
    · subst e; rw [hg]; exact P.cpos
    · rw [hgo x e]; exact F.has x h0 (by have : rk x ≠ rk b := fun h => e (N.inj x b h0 h); omega)
  · rw [hgo x (fun e => by subst e; omega)]; exact F.hasnt x (by omega)
  · by_cases e : x = b
    · subst e; rw [hg]; have hp := F.has p (by omega) (by omega); exact P.ch F.wf hp (by omega) (hc.all p ⟨hp, hE⟩)
    · have : rk x ≠ rk b := fun h => e (N.inj x b h0 h)
      rw [hgo x e]
      exact P.ch F.wf (F.has p (by omega) (by omega)) (by omega) (F.fwd x p h0 (by omega) h2 h3 hE)
  · by_cases e : x = b
    · subst e
      rw [hg]
      exact P.ch F.wf hcd (by omega) (hc.best z fun p hp => P.ch' F.wf hp.1 (hdone p hp.1) (h3 p (hdone p hp.1) hp.2))
    · have : rk x ≠ rk b := fun h => e (N.inj x b h0 h)
      rw [hgo x e]
      have hfx := F.wf.up x (F.has x h0 (by omega)) h2
      exact P.ch F.wf hfx.1 (by omega) (F.best x z h0 (by omega) h2 (fun p hp hE => P.ch' F.wf (F.has p (by omega) (by omega)) (by omega) (h3 p hp hE)))
end pass
end Go.Proofs.Ytaellapacoikaaa.Dom
