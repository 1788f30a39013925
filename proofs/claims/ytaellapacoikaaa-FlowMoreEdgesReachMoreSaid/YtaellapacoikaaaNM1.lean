namespace Go.Proofs.Ytaellapacoikaaa.Dom
/-! ### dominators: the plain theory of the iterative algorithm -/
set_option linter.unusedVariables false
/-- a path from a to b that keeps clear of av -/
inductive Rch (E : Int → Int → Prop) (av : Int) : Int → Int → Prop
  | refl {a : Int} : a ≠ av → Rch E av a a
  | step {a b c : Int} : Rch E av a b → E b c → c ≠ av → Rch E av a c
theorem Rch.head {E : Int → Int → Prop} {av a b : Int} (h : Rch E av a b) : a ≠ av := by
  induction h with
  | refl h => exact h
  | step _ _ _ ih => exact ih
theorem Rch.last {E : Int → Int → Prop} {av a b : Int} (h : Rch E av a b) : b ≠ av := by
  cases h with
  | refl h => exact h
  | step _ _ h => exact h
theorem Rch.trans {E : Int → Int → Prop} {av a b c : Int} (h : Rch E av a b) (k : Rch E av b c) : Rch E av a c := by
  induction k with
  | refl _ => exact h
  | step _ e n ih => exact Rch.step ih e n
theorem Rch.front {E : Int → Int → Prop} {av a b c : Int} (h : E a b) (ha : a ≠ av) (k : Rch E av b c) : Rch E av a c :=
  (Rch.step (Rch.refl ha) h k.head).trans k
/-- d dominates b -/
def Dm (E : Int → Int → Prop) (root d b : Int) : Prop := Rch E (-1) root b ∧ (d = b ∨ ¬ Rch E d root b)
/-- the chain of a block -/
inductive Ch (f : Int → Int) (root : Int) : Int → Int → Prop
  | refl {x : Int} : Ch f root x x
  | up {x y : Int} : x ≠ root → Ch f root (f x) y → Ch f root x y
theorem Ch.trans {f : Int → Int} {root x y z : Int} (h : Ch f root x y) (k : Ch f root y z) : Ch f root x z := by
  induction h with
  | refl => exact k
  | up n _ ih => exact Ch.up n (ih k)
theorem Ch.at_root {f : Int → Int} {root x y : Int} (h : Ch f root x y) (e : x = root) : y = x := by
  cases h with
  | refl => rfl
  | up n _ => exact absurd e n

/-- the graph's reachable blocks, numbered -/
structure Num (E : Int → Int → Prop) (root : Int) (rk : Int → Int) : Prop where
  root0 : 0 ≤ rk root
  top : ∀ x, rk x ≤ rk root
  inj : ∀ x y, 0 ≤ rk x → rk x = rk y → x = y
  up : ∀ x, 0 ≤ rk x → x ≠ root → ∃ p, rk x < rk p ∧ E p x
  closed : ∀ p x, 0 ≤ rk p → E p x → 0 ≤ rk x
  pos : ∀ x, 0 ≤ rk x → 0 ≤ x
theorem Num.reach {E : Int → Int → Prop} {root : Int} {rk : Int → Int} (N : Num E root rk) {d x : Int} (hx : 0 ≤ rk x) (hd : rk d < rk x) : Rch E d root x := by
  have key : ∀ (n : Nat) (x : Int), rk root - rk x = n → 0 ≤ rk x → rk d < rk x → Rch E d root x := by
    intro n
    induction n using Nat.strongRecOn with
    | _ n ih =>
      intro x hn hx hd
      by_cases e : x = root
      · subst e; exact Rch.refl (fun e => by subst e; omega)
      · obtain ⟨p, hp, hE⟩ := N.up x hx e
        have := N.top p
        exact Rch.step (ih (rk root - rk p).toNat (by omega) p (by omega) (by omega) (by omega)) hE (fun e => by subst e; omega)
  exact key (rk root - rk x).toNat x (by have := N.top x; omega) hx hd
theorem Num.reached {E : Int → Int → Prop} {root : Int} {rk : Int → Int} (N : Num E root rk) {x : Int} (hx : 0 ≤ rk x) : Rch E (-1) root x := by
  refine N.reach hx ?_
  by_cases h : 0 ≤ rk (-1)
  · exact absurd (N.pos _ h) (by decide)
  · omega
theorem Num.of_reach {E : Int → Int → Prop} {root : Int} {rk : Int → Int} (N : Num E root rk) {av x : Int} (h : Rch E av root x) : 0 ≤ rk x := by
  induction h with
  | refl _ => exact N.root0
  | step _ e _ ih => exact N.closed _ _ ih e
theorem Num.dom_rank {E : Int → Int → Prop} {root : Int} {rk : Int → Int} (N : Num E root rk) {d x : Int} (h : Dm E root d x) : rk x ≤ rk d := by
  rcases h.2 with rfl | h2
  · exact Int.le_refl _
  · have := N.of_reach h.1
    by_cases c : rk d < rk x
    · exact absurd (N.reach this c) h2
    · omega
theorem dom_pred {E : Int → Int → Prop} {root d p x : Int} (h : Dm E root d x) (hE : E p x) (hp : Rch E (-1) root p) (hn : d ≠ x) : Dm E root d p := by
  refine ⟨hp, ?_⟩
  rcases h.2 with e | h2
  · exact absurd e hn
  · by_cases e : d = p
    · exact .inl e
    · exact .inr fun h3 => h2 (Rch.step h3 hE (Ne.symm hn))
theorem dom_root {E : Int → Int → Prop} {root d : Int} (h : Dm E root d root) : d = root := by
  rcases h.2 with e | h2
  · exact e
  · by_cases e : d = root
    · exact e
    · exact absurd (Rch.refl (Ne.symm e)) h2

/-- a state of the dominators: f x is negative where x has not been looked at -/
structure Wf (root : Int) (rk f : Int → Int) : Prop where
  rt : f root = root
  rt0 : 0 ≤ root
  num : ∀ x, 0 ≤ f x → 0 ≤ rk x
  up : ∀ x, 0 ≤ f x → x ≠ root → 0 ≤ f (f x) ∧ rk x < rk (f x)
theorem Wf.rooted {root : Int} {rk f : Int → Int} (W : Wf root rk f) : 0 ≤ f root := by rw [W.rt]; exact W.rt0
theorem Ch.done {root : Int} {rk f : Int → Int} (W : Wf root rk f) {x y : Int} (h : Ch f root x y) (hx : 0 ≤ f x) : 0 ≤ f y := by
  induction h with
  | refl => exact hx
  | up n _ ih => exact ih (W.up _ hx n).1
theorem Ch.rank {root : Int} {rk f : Int → Int} (W : Wf root rk f) {x y : Int} (h : Ch f root x y) (hx : 0 ≤ f x) : rk x ≤ rk y := by
  induction h with
  | refl => exact Int.le_refl _
  | up n _ ih => have := W.up _ hx n; have := ih this.1; omega
theorem Ch.line {root : Int} {rk f : Int → Int} (W : Wf root rk f) {x y z : Int} (h : Ch f root x y) (hx : 0 ≤ f x) (k : Ch f root x z) (hr : rk y ≤ rk z) : Ch f root y z := by
  induction h with
  | refl => exact k
  | up n h1 ih =>
    have := W.up _ hx n
    cases k with
    | refl => have := Ch.rank W h1 this.1; omega
    | up _ k1 => exact ih this.1 k1 hr
theorem Ch.under {root : Int} {rk f : Int → Int} (W : Wf root rk f) {x y : Int} (h : Ch f root x y) (hx : 0 ≤ f x) (hn : y ≠ x) : Ch f root (f x) y ∧ x ≠ root := by
  cases h with
  | refl => exact absurd rfl hn
  | up n h => exact ⟨h, n⟩
/-- every block's chain ends in the root -/
theorem Wf.to_root {E : Int → Int → Prop} {root : Int} {rk f : Int → Int} (N : Num E root rk) (W : Wf root rk f) : ∀ (n : Nat) (x : Int), 0 ≤ f x → (rk root - rk x).toNat ≤ n → Ch f root x root
  | n, x, hx, hn => by
    by_cases e : x = root
    · subst e; exact Ch.refl
    · have h1 := W.up x hx e
      have := N.top (f x)
      cases n with
      | zero => omega
      | succ n => exact Ch.up e (Wf.to_root N W n (f x) h1.1 (by omega))

/-- c is the nearest block of both chains -/
structure Nca (f : Int → Int) (root : Int) (S : Int → Prop) (c : Int) : Prop where
  all : ∀ p, S p → Ch f root p c
  best : ∀ z, (∀ p, S p → Ch f root p z) → Ch f root c z

/-- what an edge of the tree keeps: who dominates x, dominates its parent -/
def Bd (E : Int → Int → Prop) (root : Int) (f : Int → Int) : Prop := ∀ x d, 0 ≤ f x → x ≠ root → d ≠ x → Dm E root d x → Dm E root d (f x)
theorem Bd.chain {E : Int → Int → Prop} {root : Int} {rk f : Int → Int} (N : Num E root rk) (W : Wf root rk f) (B : Bd E root f) {d : Int} : ∀ (n : Nat) (x : Int), (rk root - rk x).toNat ≤ n → 0 ≤ f x → Dm E root d x → Ch f root x d
  | n, x, hn, hx, hd => by
    by_cases e : d = x
    · subst e; exact Ch.refl
    · by_cases r : x = root
      · subst r; exact absurd (dom_root hd) e
      · have h1 := W.up x hx r
        have := N.top (f x)
        cases n with
        | zero => omega
        | succ n => exact Ch.up r (Bd.chain N W B n (f x) (by omega) h1.1 (B x d hx r e hd))
theorem Bd.ch {E : Int → Int → Prop} {root : Int} {rk f : Int → Int} (N : Num E root rk) (W : Wf root rk f) (B : Bd E root f) {d x : Int} (hx : 0 ≤ f x) (hd : Dm E root d x) : Ch f root x d := B.chain N W _ x (Nat.le_refl _) hx hd
theorem Bd.along {E : Int → Int → Prop} {root : Int} {rk f : Int → Int} (N : Num E root rk) (W : Wf root rk f) (B : Bd E root f) {d x c : Int} (h : Ch f root x c) (hx : 0 ≤ f x) (hd : Dm E root d x) (hr : rk c ≤ rk d) : Dm E root d c := by
  induction h with
  | refl => exact hd
  | @up x y n h1 ih =>
    have h2 := W.up _ hx n
    have h3 := Ch.rank W h1 h2.1
    exact ih h2.1 (B _ d hx n (fun e => by subst e; omega) hd) hr
/-- the nearest common block keeps what dominates all -/
theorem Bd.nca {E : Int → Int → Prop} {root : Int} {rk f : Int → Int} (N : Num E root rk) (W : Wf root rk f) (B : Bd E root f) {S : Int → Prop} {c d : Int} (h : Nca f root S c) (hS : ∃ p, S p) (hf : ∀ p, S p → 0 ≤ f p) (hd : ∀ p, S p → Dm E root d p) : Dm E root d c := by
  have h1 : Ch f root c d := h.best d fun p hp => B.ch N W (hf p hp) (hd p hp)
  obtain ⟨p, hp⟩ := hS
  have h2 := h.all p hp
  exact B.along N W h2 (hf p hp) (hd p hp) (Ch.rank W h1 (Ch.done W h2 (hf p hp)))

/-- at rest: the chain of a block is what dominates it -/
theorem rest_dom {E : Int → Int → Prop} {root : Int} {rk f : Int → Int} (N : Num E root rk) (W : Wf root rk f) (hall : ∀ x, 0 ≤ rk x → 0 ≤ f x) (hfix : ∀ x p, 0 ≤ rk x → x ≠ root → 0 ≤ rk p → E p x → Ch f root p (f x)) {x y : Int} (hx : 0 ≤ rk x) (h : Ch f root x y) : Dm E root y x := by
  refine ⟨N.reached hx, ?_⟩
  by_cases e : y = x
  · exact .inl e
  · refine .inr fun hr => ?_
    have key : ∀ v, Rch E y root v → ¬ Ch f root v y := by
      intro v hv
      have gen : 0 ≤ rk v ∧ ¬ Ch f root v y := by
        induction hv with
        | refl h => exact ⟨N.root0, fun hc => h (hc.at_root rfl).symm⟩
        | step h1 h2 h3 ih =>
          rename_i b c
          obtain ⟨i1, i2⟩ := ih
          have h4 := N.closed _ _ i1 h2
          refine ⟨h4, fun hc => ?_⟩
          obtain ⟨h5, h6⟩ := Ch.under W hc (hall _ h4) (Ne.symm h3)
          exact i2 ((hfix c b h4 h6 i1 h2).trans h5)
      exact gen.2
    exact key x hr h

/-! ### one store -/
section put
variable {E : Int → Int → Prop} {root : Int} {rk f g : Int → Int} {b c t : Int}
/-- g is f but for the block b, where it is c -/
structure Put (root : Int) (rk f g : Int → Int) (b c : Int) : Prop where
  ne : b ≠ root
  at_b : g b = c
  far : ∀ x, x ≠ b → g x = f x
  numb : 0 ≤ rk b
  cdone : 0 ≤ f c
  crank : rk b < rk c
  cpos : 0 ≤ c
theorem Put.wf (P : Put root rk f g b c) (W : Wf root rk f) : Wf root rk g := by
  have hc : ∀ x, 0 ≤ f x → 0 ≤ g x := fun x hx => by
    by_cases e : x = b
    · subst e; rw [P.at_b]; exact P.cpos
    · rw [P.far x e]; exact hx
  refine ⟨by rw [P.far _ (Ne.symm P.ne), W.rt], W.rt0, fun x hx => ?_, fun x hx hn => ?_⟩
  · by_cases e : x = b
    · subst e; exact P.numb
    · rw [P.far x e] at hx; exact W.num x hx
  · by_cases e : x = b
    · subst e; rw [P.at_b]; exact ⟨hc _ P.cdone, P.crank⟩
    · rw [P.far x e] at hx ⊢; have := W.up x hx hn; exact ⟨hc _ this.1, this.2⟩
/-- chains that begin above b are as they were -/
theorem Put.ch (P : Put root rk f g b c) (W : Wf root rk f) {x y : Int} (hx : 0 ≤ f x) (hr : rk b < rk x) (h : Ch f root x y) : Ch g root x y := by
  induction h with
  | refl => exact Ch.refl
  | @up x y n _ ih =>
    have h1 := W.up _ hx n
    refine Ch.up n ?_
    rw [P.far x (fun e => by subst e; omega)]
    exact ih h1.1 (by omega)
theorem Put.ch' (P : Put root rk f g b c) (W : Wf root rk f) {x y : Int} (hx : 0 ≤ f x) (hr : rk b < rk x) (h : Ch g root x y) : Ch f root x y := by
  induction h with
  | refl => exact Ch.refl
  | @up x y n _ ih =>
    have h1 := W.up _ hx n
    have e : g x = f x := P.far x (fun e => by subst e; omega)
    refine Ch.up n ?_
    rw [e] at ih
    exact ih h1.1 (by omega)
theorem Put.bd (P : Put root rk f g b c) (B : Bd E root f) (hb : ∀ d, d ≠ b → Dm E root d b → Dm E root d c) : Bd E root g := by
  intro x d hx hn hd h
  by_cases e : x = b
  · subst e; rw [P.at_b]; exact hb d hd h
  · rw [P.far x e] at hx ⊢; exact B x d hx hn hd h
end put
end Go.Proofs.Ytaellapacoikaaa.Dom
