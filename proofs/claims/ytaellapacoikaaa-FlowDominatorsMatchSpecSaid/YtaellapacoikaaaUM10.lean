import Derived.Test.YtaellapacoikaaaUSBx9
import Derived.Test.YtaellapacoikaaaUM9
namespace Go.Proofs.Ytaellapacoikaaa.PB
open Go.RowKit Go.Proofs.YtaellapacoikaaaW.PrintWords Go.Proofs.YtaellapacoikaaaW.PrintLast Go.Proofs.YtaellapacoikaaaW.PrintMore Dom
set_option linter.unusedVariables false
set_option linter.unusedSimpArgs false
/-! ### immediate dominators: what flow.dominators answers, without its numbering -/
structure DomOk (g : List S62) (a : Int) (r : List Int) : Prop where
  len : r.length = g.length
  root : gt r a = a
  none : ∀ x, ¬ Rch (Ed g) (-1) a x → gt r x = -1
  rng : ∀ x, Rch (Ed g) (-1) a x → 0 ≤ gt r x ∧ gt r x < (g.length : Int)
  rchd : ∀ x, Rch (Ed g) (-1) a x → Rch (Ed g) (-1) a (gt r x)
  ne : ∀ x, Rch (Ed g) (-1) a x → x ≠ a → gt r x ≠ x
  dom : ∀ x, Rch (Ed g) (-1) a x → Dm (Ed g) a (gt r x) x
  best : ∀ x e, Rch (Ed g) (-1) a x → x ≠ a → e ≠ x → Dm (Ed g) a e x → Dm (Ed g) a e (gt r x)
  chain : ∀ x y, Rch (Ed g) (-1) a x → (Ch (gt r) a x y ↔ Dm (Ed g) a y x)
  anti : ∀ x y, Dm (Ed g) a x y → Dm (Ed g) a y x → x = y
  fin : ∃ h : Int → Nat, ∀ x, Rch (Ed g) (-1) a x → x ≠ a → h (gt r x) < h x
theorem rng_of {g : List S62} (G : GV g) {a x : Int} {w : Int} (h : Rch (Ed g) w a x) (h0 : 0 ≤ a) (h1 : a < (g.length : Int)) : 0 ≤ x ∧ x < (g.length : Int) := by
  cases h with
  | refl _ => exact ⟨h0, h1⟩
  | step _ e _ => exact ⟨e.pos, G.gok.into _ _ e⟩
theorem domok {g : List S62} (G : GV g) {a : Int} (h0 : 0 ≤ a) (h1 : a < (g.length : Int)) : ∃ r, Ev (fun k => flow_dominators.f k g a) r ∧ DomOk g a r := by
  obtain ⟨r, rank, hr, N, R⟩ := doms_f G h0 h1
  have W := R.inv.wf
  have hall := R.inv.all
  have B := R.inv.bd
  have hrk : ∀ x, Rch (Ed g) (-1) a x ↔ 0 ≤ gt rank x := fun x => ⟨N.of_reach, N.reached⟩
  have hrch : ∀ x, Rch (Ed g) (-1) a x → Rch (Ed g) (-1) a (gt r x) := fun x hx => by
    by_cases e : x = a
    · rw [show gt r x = x from by rw [e]; exact W.rt]; exact hx
    · exact (hrk _).2 (W.num _ (W.up x (hall x ((hrk x).1 hx)) e).1)
  have hdom : ∀ x, Rch (Ed g) (-1) a x → Dm (Ed g) a (gt r x) x := fun x hx => by
    by_cases e : x = a
    · rw [show gt r x = x from by rw [e]; exact W.rt]; exact ⟨hx, .inl rfl⟩
    · exact rest_dom N W hall R.fix ((hrk x).1 hx) (Ch.up e Ch.refl)
  refine ⟨r, hr, R.len, W.rt, fun x hx => ?_, fun x hx => ?_, hrch, fun x hx hn e => ?_, hdom, fun x e hx hn he hd => B x e (hall x ((hrk x).1 hx)) hn he hd, fun x y hx => ⟨fun h => rest_dom N W hall R.fix ((hrk x).1 hx) h, fun h => B.ch N W (hall x ((hrk x).1 hx)) h⟩, fun x y h k => ?_, ⟨fun x => (gt rank a - gt rank x).toNat, fun x hx hn => ?_⟩⟩
  · exact R.out x (by have : ¬ 0 ≤ gt rank x := fun h => hx ((hrk x).2 h); omega)
  · exact rng_of G (hrch x hx) h0 h1
  · have := W.up x (hall x ((hrk x).1 hx)) hn
    rw [e] at this
    omega
  · have a1 := N.dom_rank h
    have a2 := N.dom_rank k
    exact N.inj x y ((hrk x).1 k.1) (by omega)
  · have h2 := W.up x (hall x ((hrk x).1 hx)) hn
    have := N.top (gt r x)
    show Int.toNat _ < Int.toNat _
    omega
/-! ### the reference's Dominates and Immediate -/
theorem dominates_f {g : List S62} (G : GV g) {a d b : Int} (h0 : 0 ≤ a) (h1 : a < (g.length : Int)) (hb0 : 0 ≤ b) (hb1 : b < (g.length : Int)) : ∃ q : Bool, Ev (fun k => linkhouseref7_Dominates.f k g a d b) q ∧ (q = true ↔ Dm (Ed g) a d b) := by
  obtain ⟨r, hr, R⟩ := reached_f G h0 h1 (-1)
  have hbl : b < (r.length : Int) := by rw [R.len]; exact hb1
  by_cases c : rdOf false r b = true
  · have hs : Rch (Ed g) (-1) a b := (R.mem b).1 ⟨hb0, hbl, c⟩
    by_cases c2 : d = b
    · refine ⟨true, ?_, by rw [c2]; exact ⟨fun _ => ⟨hs, .inl rfl⟩, fun _ => rfl⟩⟩
      refine Ev.bind hr (Ev.congr (fun k => ?_) (Ev.now true))
      rw [if_pos hb0, if_pos hbl, if_pos c, if_pos c2]
    · obtain ⟨s, hs2, S⟩ := reached_f G h0 h1 d
      have hbs : b < (s.length : Int) := by rw [S.len]; exact hb1
      refine ⟨!(rdOf false s b), ?_, ?_⟩
      · refine Ev.bind hr (Ev.congr (fun k => by rw [if_pos hb0, if_pos hbl, if_pos c, if_neg c2]) (Ev.bind hs2 ?_))
        refine Ev.congr (fun k => ?_) (Ev.now _)
        rw [if_pos hbs]
      · rw [Bool.not_eq_true']
        constructor
        · intro h
          refine ⟨hs, .inr fun h2 => ?_⟩
          have := ((S.mem b).2 h2).2.2
          rw [h] at this; cases this
        · intro h
          cases e : rdOf false s b with
          | false => rfl
          | true => exact absurd ((S.mem b).1 ⟨hb0, hbs, e⟩) (h.2.resolve_left c2)
  · refine ⟨false, ?_, ⟨(fun h => by cases h), fun h => absurd ((R.mem b).2 h.1).2.2 c⟩⟩
    refine Ev.bind hr (Ev.congr (fun k => ?_) (Ev.now false))
    rw [if_pos hb0, if_pos hbl, if_neg c]
section
variable {g : List S62} (G : GV g) {a b : Int} (h0 : 0 ≤ a) (h1 : a < (g.length : Int)) (hb0 : 0 ≤ b) (hb1 : b < (g.length : Int))
include G h0 h1 hb0 hb1
theorem imm_l1 {d : Nat} (hd : d < g.length) {r : Int} : ∀ (m j : Nat) (fl : Bool), j + m = g.length →
    (fl = true → (∀ x : Int, (j : Int) ≤ x → x < (g.length : Int) → x ≠ b → Dm (Ed g) a x b → Dm (Ed g) a x (d : Int)) → r = (d : Int)) →
    (¬ (fl = true ∧ ∀ x : Int, (j : Int) ≤ x → x < (g.length : Int) → x ≠ b → Dm (Ed g) a x b → Dm (Ed g) a x (d : Int)) → Ev (fun k => linkhouseref7_Immediate.l0 k g a b ((d + 1 : Nat) : Int)) r) →
    Ev (fun k => linkhouseref7_Immediate.l1 k g a b (d : Int) fl (j : Int)) r := by
  have hl := G.len
  have d0 : (0 : Int) ≤ (d : Int) := by omega
  have d1 : (d : Int) < (g.length : Int) := by omega
  have wd : wrap64 ((d : Int) + 1) = ((d + 1 : Nat) : Int) := ws (Nat.le_of_lt hd) (Nat.le_trans hl (by decide))
  intro m
  induction m with
  | zero =>
    intro j fl hj hy hn
    have hj' : ¬ ((j : Int) < (g.length : Int)) := by clear wd; omega
    have hv : ∀ x : Int, (j : Int) ≤ x → x < (g.length : Int) → x ≠ b → Dm (Ed g) a x b → Dm (Ed g) a x (d : Int) := fun x a1 a2 => absurd (Int.lt_of_le_of_lt a1 a2) hj'
    cases fl with
    | true =>
      rw [hy rfl hv]
      exact Ev.step (fun k => by rw [linkhouseref7_Immediate.l1, if_neg hj', if_pos rfl]) (Ev.now _)
    | false => exact Ev.step (fun k => by rw [linkhouseref7_Immediate.l1, if_neg hj', if_neg (by decide), wd]) (hn (fun h => by cases h.1))
  | succ m ih =>
    intro j fl hj hy hn
    have j1 : (j : Int) < (g.length : Int) := by clear wd; omega
    have j0 : (0 : Int) ≤ (j : Int) := by clear wd; omega
    have hjl : j ≤ g.length := by clear wd; omega
    have hjm : j + 1 + m = g.length := by clear wd; omega
    have wj : wrap64 ((j : Int) + 1) = ((j + 1 : Nat) : Int) := ws hjl (Nat.le_trans hl (by decide))
    have wide : ∀ P : Int → Prop, P (j : Int) → (∀ x : Int, ((j + 1 : Nat) : Int) ≤ x → P x) → ∀ x : Int, (j : Int) ≤ x → P x := fun P p1 p2 x hx => by
      by_cases e : x = (j : Int)
      · rw [e]; exact p1
      · exact p2 x (by clear wd wj; omega)
    have next : ((j : Int) ≠ b → Dm (Ed g) a (j : Int) b → Dm (Ed g) a (j : Int) (d : Int)) → Ev (fun k => linkhouseref7_Immediate.l1 k g a b (d : Int) fl ((j + 1 : Nat) : Int)) r := fun hok =>
      ih (j + 1) fl hjm (fun hf hv => hy hf (wide (fun x => x < (g.length : Int) → x ≠ b → Dm (Ed g) a x b → Dm (Ed g) a x (d : Int)) (fun _ => hok) hv)) (fun hno => hn (fun h => hno ⟨h.1, fun x hx => h.2 x (by clear wd wj; omega)⟩))
    by_cases c : (j : Int) = b
    · exact Ev.step (fun k => by rw [linkhouseref7_Immediate.l1, if_pos j1, if_pos c, wj]) (next (fun h => absurd c h))
    · obtain ⟨q, hq, hq2⟩ := dominates_f (d := (j : Int)) G h0 h1 hb0 hb1
      cases q with
      | false =>
        refine Ev.step (fun k => by rw [linkhouseref7_Immediate.l1, if_pos j1, if_neg c]) (Ev.bind hq ?_)
        refine Ev.congr (fun k => by rw [if_neg (by decide), wj]) (next (fun _ h => absurd (hq2.2 h) (by decide)))
      | true =>
        obtain ⟨p, hp, hp2⟩ := dominates_f (d := (j : Int)) G h0 h1 d0 d1
        refine Ev.step (fun k => by rw [linkhouseref7_Immediate.l1, if_pos j1, if_neg c]) (Ev.bind hq ?_)
        refine Ev.congr (fun k => by rw [if_pos rfl]) (Ev.bind hp ?_)
        cases p with
        | true => exact Ev.congr (fun k => by rw [if_pos rfl, wj]) (next (fun _ _ => hp2.1 rfl))
        | false =>
          refine Ev.congr (fun k => by rw [if_neg (by decide), wj]) (ih (j + 1) false hjm (fun h => by cases h) (fun _ => hn (fun h => ?_)))
          exact absurd (hp2.2 (h.2 j (Int.le_refl _) j1 c (hq2.1 rfl))) (by decide)
theorem imm_l0 {i : Int} (hi0 : 0 ≤ i) (hi1 : i < (g.length : Int)) (hid : Dm (Ed g) a i b) (hib : i ≠ b) (hbest : ∀ e, e ≠ b → Dm (Ed g) a e b → Dm (Ed g) a e i) (anti : ∀ x y, Dm (Ed g) a x y → Dm (Ed g) a y x → x = y) :
    ∀ (m d : Nat), (d : Int) + m = i → Ev (fun k => linkhouseref7_Immediate.l0 k g a b (d : Int)) i := by
  have hl := G.len
  intro m
  induction m with
  | zero =>
    intro d hd
    have e : (d : Int) = i := by omega
    have d1 : (d : Int) < (g.length : Int) := by omega
    have hdl : d < g.length := by omega
    have hdb : ¬ ((d : Int) = b) := by rw [e]; exact hib
    obtain ⟨q, hq, hq2⟩ := dominates_f (d := (d : Int)) G h0 h1 hb0 hb1
    have hqt : q = true := hq2.2 (by rw [e]; exact hid)
    subst hqt
    have good : ∀ x : Int, (0 : Int) ≤ x → x < (g.length : Int) → x ≠ b → Dm (Ed g) a x b → Dm (Ed g) a x (d : Int) := fun x _ _ h2 h3 => by rw [e]; exact hbest x h2 h3
    have h3 := imm_l1 G h0 h1 hb0 hb1 hdl (r := i) g.length 0 true (Nat.zero_add _) (fun _ _ => e.symm) (fun h => absurd ⟨rfl, good⟩ h)
    refine Ev.step (fun k => by rw [linkhouseref7_Immediate.l0, if_pos d1, if_neg hdb]) (Ev.bind hq ?_)
    exact Ev.step (fun k => by rw [linkhouseref7_Immediate.j1, if_neg (by decide)]; rfl) h3
  | succ m ih =>
    intro d hd
    have d1 : (d : Int) < (g.length : Int) := by omega
    have hdl : d < g.length := by omega
    have hne : (d : Int) ≠ i := by omega
    have next := ih (d + 1) (by omega)
    have wd : wrap64 ((d : Int) + 1) = ((d + 1 : Nat) : Int) := ws (Nat.le_of_lt hdl) (Nat.le_trans hl (by decide))
    have skip : Ev (fun k => linkhouseref7_Immediate.j1 k g a b (d : Int) true) i := Ev.step (fun k => by rw [linkhouseref7_Immediate.j1, if_pos rfl, wd]) next
    by_cases c : (d : Int) = b
    · exact Ev.step (fun k => by rw [linkhouseref7_Immediate.l0, if_pos d1, if_pos c]) skip
    · obtain ⟨q, hq, hq2⟩ := dominates_f (d := (d : Int)) G h0 h1 hb0 hb1
      refine Ev.step (fun k => by rw [linkhouseref7_Immediate.l0, if_pos d1, if_neg c]) (Ev.bind hq ?_)
      cases q with
      | false => exact skip
      | true =>
        have hdd := hq2.1 rfl
        have h3 := imm_l1 G h0 h1 hb0 hb1 hdl (r := i) g.length 0 true (Nat.zero_add _) (fun _ hv => anti i (d : Int) (hv i hi0 hi1 hib hid) (hbest d c hdd)) (fun _ => next)
        exact Ev.step (fun k => by rw [linkhouseref7_Immediate.j1, if_neg (by decide)]; rfl) h3
theorem imm_f {r : List Int} (D : DomOk g a r) : Ev (fun k => linkhouseref7_Immediate.f k g a b) (gt r b) := by
  obtain ⟨s, hs, S⟩ := reached_f G h0 h1 (-1)
  have hbl : b < (s.length : Int) := by rw [S.len]; exact hb1
  by_cases c : rdOf false s b = true
  · have hb : Rch (Ed g) (-1) a b := (S.mem b).1 ⟨hb0, hbl, c⟩
    by_cases c2 : b = a
    · refine Ev.bind hs (Ev.congr (fun k => ?_) (Ev.now _))
      rw [if_pos hb0, if_pos hbl, if_pos c, if_pos c2, c2, D.root]
    · have hr := D.rng b hb
      have h := imm_l0 G h0 h1 hb0 hb1 hr.1 hr.2 (D.dom b hb) (D.ne b hb c2) (fun e he hd => D.best b e hb c2 he hd) D.anti (gt r b).toNat 0 (by omega)
      exact Ev.bind hs (Ev.congr (fun k => by rw [if_pos hb0, if_pos hbl, if_pos c, if_neg c2]; rfl) h)
  · have hb : ¬ Rch (Ed g) (-1) a b := fun h => c ((S.mem b).2 h).2.2
    rw [D.none b hb]
    refine Ev.bind hs (Ev.congr (fun k => ?_) (Ev.now _))
    rw [if_pos hb0, if_pos hbl, if_neg c]
end
/-! ### FlowDominatorsMatchSpec -/
theorem doms_ev {g : List S62} (G : GV g) {a : Int} (h0 : 0 ≤ a) (h1 : a < (g.length : Int)) : ∃ r, Ev (fun k => flow_Dominators.f k g a) (r, 0, 0) ∧ DomOk g a r := by
  obtain ⟨r, hr, D⟩ := domok G h0 h1
  refine ⟨r, ?_, D⟩
  have hC := chk_f G.fit a
  rw [chkR_ok ⟨G, h0, h1⟩] at hC
  refine Ev.bind (g := fun k => flow_check.f k g a) hC ?_
  refine Ev.congr (fun k => ?_) (Ev.bind (f := fun _ t => some (t, (0 : Int), (0 : Int))) hr (Ev.now _))
  rw [if_neg zz_]
theorem doms_bad {g : List S62} (F : Fit g) {a : Int} (hz : (chkR g a).1 ≠ 0) : Ev (fun k => flow_Dominators.f k g a) ([], (chkR g a).1, (chkR g a).2) := by
  refine Ev.bind (g := fun k => flow_check.f k g a) (chk_f F a) ?_
  refine Ev.congr (fun k => ?_) (Ev.now _)
  rw [if_pos (by simp; exact .inl hz)]
theorem dm_l0 {g : List S62} (G : GV g) {a : Int} (h0 : 0 ≤ a) (h1 : a < (g.length : Int)) {r : List Int} (D : DomOk g a r) : ∀ (m j : Nat), j + m = g.length → Ev (fun k => linkhouselaw7_FlowDominatorsMatchSpec.l0 k g a r (r.take j) (j : Int) 0 0) true := by
  have hl := G.len
  intro m
  induction m with
  | zero =>
    intro j hj
    have e : r.take j = r := List.take_of_length_le (by rw [D.len]; omega)
    rw [e]
    have hj' : ¬ ((j : Int) < (g.length : Int)) := by omega
    refine Ev.step (fun k => by rw [linkhouselaw7_FlowDominatorsMatchSpec.l0, if_neg hj', if_pos rfl]) (Ev.bind (sameI_f r (by rw [D.len]; omega)) ?_)
    exact Ev.congr (fun k => by rw [if_pos rfl]) (Ev.bind (f := fun _ t => some t) crossed_ev (Ev.now true))
  | succ m ih =>
    intro j hj
    have j1 : (j : Int) < (g.length : Int) := by omega
    have j0 : (0 : Int) ≤ (j : Int) := by omega
    have hjr : j < r.length := by rw [D.len]; omega
    have next := ih (j + 1) (by omega)
    have hI := imm_f G h0 h1 j0 j1 D
    rw [gt_in j0 (by omega), rdI hjr] at hI
    rw [← List.take_append_getElem hjr] at next
    have hlen : (r.take j).length < 17592186044416 := by rw [List.length_take]; omega
    have wj : wrap64 ((j : Int) + 1) = ((j + 1 : Nat) : Int) := ws (by omega) (Nat.le_trans hl (by decide))
    refine Ev.step (fun k => by rw [linkhouselaw7_FlowDominatorsMatchSpec.l0, if_pos j1]) (Ev.bind hI ?_)
    exact Ev.congr (fun k => by rw [if_pos hlen, wj]) next
theorem dommatch_pure {g : List S62} (F : Fit g) (a : Int) : ∃ k, linkhouselaw7_FlowDominatorsMatchSpec.f k g a = some true := by
  refine Ev.rounds (g := fun k => linkhouselaw7_FlowDominatorsMatchSpec.f k g a) ?_
  have hfrom := from_f F a
  by_cases hz : (chkR g a).1 = 0
  · obtain ⟨G, h0, h1⟩ := chkR_zero.1 hz
    rw [chkR_ok ⟨G, h0, h1⟩] at hfrom
    obtain ⟨r, hr, D⟩ := doms_ev G h0 h1
    refine Ev.bind hr (Ev.bind hfrom ?_)
    by_cases c : (g.length : Int) > 9
    · exact Ev.congr (fun k => by rw [if_pos rfl, if_pos c]) (Ev.bind (f := fun _ t => some t) crossed_ev (Ev.now true))
    · exact Ev.congr (fun k => by rw [if_pos rfl, if_neg c]; rfl) (dm_l0 G h0 h1 D g.length 0 (Nat.zero_add _))
  · refine Ev.bind (doms_bad F hz) (Ev.bind hfrom ?_)
    refine Ev.congr (fun k => by rw [if_neg hz, if_pos (by simp), if_pos (by simp)]) (Ev.bind (f := fun _ t => some t) crossed_ev (Ev.now true))
end Go.Proofs.Ytaellapacoikaaa.PB
