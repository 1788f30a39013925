import Derived.Test.YtaellapacoikaaaUSBx10
import Derived.Test.YtaellapacoikaaaUM13
namespace Go.Proofs.Ytaellapacoikaaa.PB
open Go.RowKit Go.Proofs.YtaellapacoikaaaW.PrintWords Go.Proofs.YtaellapacoikaaaW.PrintLast Go.Proofs.YtaellapacoikaaaW.PrintMore Dom
set_option linter.unusedVariables false
set_option linter.unusedSimpArgs false
/-! ### the reference's loops -/
section
variable {g : List S62} (G : GV g) {a : Int} (h0 : 0 ≤ a) (h1 : a < (g.length : Int)) {s : List Bool} (S : Rs g (-1) a s)
include G h0 h1 S
omit G h0 h1 in
theorem rs_at {p : Int} (p0 : 0 ≤ p) (p1 : p < (g.length : Int)) : rdOf false s p = true ↔ Rch (Ed g) (-1) a p :=
  ⟨fun h => (S.mem p).1 ⟨p0, by rw [S.len]; exact p1, h⟩, fun h => ((S.mem p).2 h).2.2⟩
theorem rl_l1 {hd : Nat} (hh : hd < g.length) (acc : List S68) {res : List S68}
    (H1 : (∀ b, ¬ Back g a hd b) → Ev (fun k => linkhouseref7_Loops.l0 k g a s acc ((hd + 1 : Nat) : Int)) res)
    (H2 : ∀ q : List Int, Sel (Back g a hd) g.length q → q ≠ [] → Ev (fun k => linkhouseref7_Loops.l2 k g a s acc (hd : Int) q 0 (hd : Int) []) res) :
    ∀ (m j : Nat) (q : List Int), j + m = g.length → Sel (Back g a hd) j q → Ev (fun k => linkhouseref7_Loops.l1 k g a s acc (hd : Int) q (j : Int)) res := by
  have hlen := G.len
  have wh := wd_ G (Nat.le_of_lt hh)
  have d0 : (0 : Int) ≤ (hd : Int) := by omega
  have d2 : (hd : Int) < (g.length : Int) := by omega
  have d1 : (hd : Int) < (s.length : Int) := by rw [S.len]; exact d2
  intro m
  induction m with
  | zero =>
    intro j q hj hS
    have hjn : j = g.length := by clear wh; omega
    have hj' : ¬ ((j : Int) < (g.length : Int)) := by clear wh; omega
    rw [hjn] at hS
    by_cases c : q = []
    · subst c
      refine Ev.step (fun k => by rw [linkhouseref7_Loops.l1, if_neg hj', if_pos (by simp), wh]) (H1 fun b hb => ?_)
      have := (hS.mem b).2 ⟨(rng_of G hb.1 h0 h1).1, (rng_of G hb.1 h0 h1).2, hb⟩
      cases this
    · have cl : ¬ ((q.length : Int) = 0) := fun h => c (List.length_eq_zero_iff.1 (by clear wh; omega))
      exact Ev.step (fun k => by rw [linkhouseref7_Loops.l1, if_neg hj', if_neg cl]) (H2 q hS c)
  | succ m ih =>
    intro j q hj hS
    have j1 : (j : Int) < (g.length : Int) := by clear wh; omega
    have j0 : (0 : Int) ≤ (j : Int) := by clear wh; omega
    have j2 : (j : Int) < (s.length : Int) := by rw [S.len]; exact j1
    have hjm : j + 1 + m = g.length := by clear wh; omega
    have hjl : j ≤ g.length := by clear wh; omega
    have hql : q.length < 17592186044416 := by have := hS.len; clear wh; omega
    have wj := wd_ G hjl
    have skip : ¬ Back g a hd (j : Int) → Ev (fun k => linkhouseref7_Loops.l1 k g a s acc (hd : Int) q ((j + 1 : Nat) : Int)) res := fun hb => ih (j + 1) q hjm (hS.skip hb)
    by_cases c1 : rdOf false s (j : Int) = true
    · have r1 := (rs_at S j0 j1).1 c1
      by_cases c2 : rdOf false s (hd : Int) = true
      · have r2 := (rs_at S d0 d2).1 c2
        have hL := leads_f G j0 j1 (hd : Int)
        refine Ev.step (fun k => by rw [linkhouseref7_Loops.l1, if_pos j1, if_pos j0, if_pos j2, if_pos c1, if_pos d0, if_pos d1, if_pos c2]) (Ev.bind hL ?_)
        by_cases c3 : (hd : Int) ∈ innerL g (j : Int)
        · rw [decide_eq_true c3]
          obtain ⟨p, e, f⟩ := dominates_f (d := (hd : Int)) G h0 h1 j0 j1
          refine Ev.congr (fun k => by rw [if_pos rfl]) (Ev.bind e ?_)
          cases p with
          | true => exact Ev.congr (fun k => by rw [if_pos rfl, if_pos hql, wj]) (ih (j + 1) (q ++ [(j : Int)]) hjm (hS.add ⟨r1, r2, ⟨j0, j1, c3⟩, f.1 rfl⟩))
          | false => exact Ev.congr (fun k => by rw [if_neg (by decide), wj]) (skip (fun hb => absurd (f.2 hb.2.2.2) (by decide)))
        · rw [decide_eq_false c3]
          exact Ev.congr (fun k => by rw [if_neg (by decide), wj]) (skip (fun hb => c3 hb.2.2.1.2.2))
      · exact Ev.step (fun k => by rw [linkhouseref7_Loops.l1, if_pos j1, if_pos j0, if_pos j2, if_pos c1, if_pos d0, if_pos d1, if_neg c2, wj]) (skip (fun hb => c2 ((rs_at S d0 d2).2 hb.2.1)))
    · exact Ev.step (fun k => by rw [linkhouseref7_Loops.l1, if_pos j1, if_pos j0, if_pos j2, if_neg c1, wj]) (skip (fun hb => c1 ((rs_at S j0 j1).2 hb.1)))
omit h0 h1 S in
theorem rl_l3 {hd : Nat} (acc : List S68) {res : List S68} {q : List Int} (hq : q.length ≤ g.length) {x : Nat} (hx : x < g.length) {t : List Bool} (T : Rs g (hd : Int) (x : Int) t) (hqr : ∀ b ∈ q, 0 ≤ b ∧ b < (g.length : Int)) {z : List Int} (hz : z.length ≤ g.length)
    (P : Prop) (Hy : P → Ev (fun k => linkhouseref7_Loops.l2 k g a s acc (hd : Int) q ((x + 1 : Nat) : Int) (hd : Int) (z ++ [(x : Int)])) res) (Hn : ¬ P → Ev (fun k => linkhouseref7_Loops.l2 k g a s acc (hd : Int) q ((x + 1 : Nat) : Int) (hd : Int) z) res) :
    ∀ (es : List Int) (j : Nat) (fl : Bool), q.drop j = es → (P ↔ fl = true ∨ ∃ b ∈ es, Rch (Ed g) (hd : Int) (x : Int) b) → Ev (fun k => linkhouseref7_Loops.l3 k g a s acc (hd : Int) q (x : Int) fl t (j : Int) (hd : Int) z) res := by
  have hlen := G.len
  have wx := wd_ G (Nat.le_of_lt hx)
  have hzl : z.length < 17592186044416 := by clear wx; omega
  intro es
  induction es with
  | nil =>
    intro j fl hj hP
    have hjl : q.length ≤ j := List.drop_eq_nil_iff.1 hj
    have hj' : ¬ ((j : Int) < (q.length : Int)) := by clear wx; omega
    cases fl with
    | true => exact Ev.step (fun k => by rw [linkhouseref7_Loops.l3, if_neg hj', if_pos rfl, if_pos hzl, wx]) (Hy (hP.2 (.inl rfl)))
    | false => exact Ev.step (fun k => by rw [linkhouseref7_Loops.l3, if_neg hj', if_neg (by decide), wx]) (Hn (fun h => by rcases hP.1 h with h | ⟨b, h, _⟩ <;> cases h))
  | cons e es ih =>
    intro j fl hj hP
    obtain ⟨hjl, he, hd'⟩ := drop_cons hj
    have j0 : (0 : Int) ≤ (j : Int) := by clear wx; omega
    have j1 : (j : Int) < (q.length : Int) := by clear wx; omega
    have hjg : j ≤ g.length := by clear wx; omega
    have wj := wd_ G hjg
    cases fl with
    | true => exact Ev.step (fun k => by rw [linkhouseref7_Loops.l3, if_pos j1, if_pos rfl, wj]) (ih (j + 1) true hd' ⟨fun _ => .inl rfl, fun _ => hP.2 (.inl rfl)⟩)
    | false =>
      have her := hqr e (by rw [← he]; exact List.getElem_mem hjl)
      have het : e < (t.length : Int) := by rw [T.len]; exact her.2
      have hre : rd q (j : Int) = e := by rw [rdI hjl, he]
      refine Ev.step (fun k => by rw [linkhouseref7_Loops.l3, if_pos j1, if_neg (by decide), if_pos j0, hre, if_pos her.1, if_pos het, wj]) (ih (j + 1) (rdOf false t e) hd' ?_)
      have hte : rdOf false t e = true ↔ Rch (Ed g) (hd : Int) (x : Int) e := ⟨fun h => (T.mem e).1 ⟨her.1, het, h⟩, fun h => ((T.mem e).2 h).2.2⟩
      rw [hP, hte]
      constructor
      · rintro (h | ⟨b, hb, h⟩)
        · cases h
        · rcases List.mem_cons.1 hb with e' | hb
          · rw [← e']; exact .inl h
          · exact .inr ⟨b, hb, h⟩
      · rintro (h | ⟨b, hb, h⟩)
        · exact .inr ⟨e, by simp, h⟩
        · exact .inr ⟨b, by simp [hb], h⟩
theorem rl_l2 {hd : Nat} (hh : hd < g.length) (acc : List S68) (ha : acc.length ≤ g.length) {res : List S68} {q : List Int} (hq : Sel (Back g a hd) g.length q)
    (H : ∀ z : List Int, Sel (Inl g a hd) g.length z → Ev (fun k => linkhouseref7_Loops.l0 k g a s (acc ++ [⟨(hd : Int), z⟩]) ((hd + 1 : Nat) : Int)) res) :
    ∀ (m x : Nat) (z : List Int), x + m = g.length → Sel (Inl g a hd) x z → Ev (fun k => linkhouseref7_Loops.l2 k g a s acc (hd : Int) q (x : Int) (hd : Int) z) res := by
  have hlen := G.len
  have wh := wd_ G (Nat.le_of_lt hh)
  have hal : acc.length < 4398046511104 := by clear wh; omega
  intro m
  induction m with
  | zero =>
    intro x z hx hS
    have hxn : x = g.length := by clear wh; omega
    have hx' : ¬ ((x : Int) < (g.length : Int)) := by clear wh; omega
    rw [hxn] at hS
    exact Ev.step (fun k => by rw [linkhouseref7_Loops.l2, if_neg hx', if_pos hal, wh]) (H z hS)
  | succ m ih =>
    intro x z hx hS
    have x1 : (x : Int) < (g.length : Int) := by clear wh; omega
    have x0 : (0 : Int) ≤ (x : Int) := by clear wh; omega
    have x2 : (x : Int) < (s.length : Int) := by rw [S.len]; exact x1
    have hxm : x + 1 + m = g.length := by clear wh; omega
    have hxl : x < g.length := by clear wh; omega
    have hzg : z.length ≤ g.length := by have := hS.len; clear wh; omega
    have hzl : z.length < 17592186044416 := by clear wh; omega
    have wx := wd_ G (Nat.le_of_lt hxl)
    have yes : Inl g a hd (x : Int) → Ev (fun k => linkhouseref7_Loops.l2 k g a s acc (hd : Int) q ((x + 1 : Nat) : Int) (hd : Int) (z ++ [(x : Int)])) res := fun h => ih (x + 1) _ hxm (hS.add h)
    have no : ¬ Inl g a hd (x : Int) → Ev (fun k => linkhouseref7_Loops.l2 k g a s acc (hd : Int) q ((x + 1 : Nat) : Int) (hd : Int) z) res := fun h => ih (x + 1) _ hxm (hS.skip h)
    by_cases c : (x : Int) = (hd : Int)
    · exact Ev.step (fun k => by rw [linkhouseref7_Loops.l2, if_pos x1, if_pos c, if_pos hzl, wx]) (yes (.inl c))
    · by_cases c1 : rdOf false s (x : Int) = true
      · have r1 := (rs_at S x0 x1).1 c1
        obtain ⟨t, ht, T⟩ := reached_f G x0 x1 (hd : Int)
        refine Ev.step (fun k => by rw [linkhouseref7_Loops.l2, if_pos x1, if_neg c, if_pos x0, if_pos x2, if_pos c1]) (Ev.bind ht ?_)
        refine rl_l3 G acc hq.len hxl T (fun b hb => ⟨((hq.mem b).1 hb).1, ((hq.mem b).1 hb).2.1⟩) hzg (Inl g a hd (x : Int)) yes no q 0 _ rfl ?_
        constructor
        · rintro (h | ⟨_, b, hb, hp⟩)
          · exact absurd h c
          · exact .inr ⟨b, (hq.mem b).2 ⟨(rng_of G hb.1 h0 h1).1, (rng_of G hb.1 h0 h1).2, hb⟩, hp⟩
        · rintro (h | ⟨b, hb, hp⟩)
          · exact absurd (by simpa using h) c
          · exact .inr ⟨r1, b, ((hq.mem b).1 hb).2.2, hp⟩
      · refine Ev.step (fun k => by rw [linkhouseref7_Loops.l2, if_pos x1, if_neg c, if_pos x0, if_pos x2, if_neg c1, wx]) (no ?_)
        rintro (h | ⟨h, _⟩)
        · exact c h
        · exact c1 ((rs_at S x0 x1).2 h)
theorem rl_l0 : ∀ (m hd : Nat) (acc : List S68), hd + m = g.length → LsP g a hd acc → ∃ L, Ev (fun k => linkhouseref7_Loops.l0 k g a s acc (hd : Int)) L ∧ LsP g a g.length L := by
  have hlen := G.len
  intro m
  induction m with
  | zero =>
    intro hd acc hj hL
    have hj' : ¬ ((hd : Int) < (g.length : Int)) := by omega
    exact ⟨acc, Ev.step (fun k => by rw [linkhouseref7_Loops.l0, if_neg hj']) (Ev.now _), by rw [show g.length = hd from by omega]; exact hL⟩
  | succ m ih =>
    intro hd acc hj hL
    have hh : hd < g.length := by omega
    have d1 : (hd : Int) < (g.length : Int) := by omega
    have hbeg : ∀ {res : List S68}, ((∀ b, ¬ Back g a hd b) → Ev (fun k => linkhouseref7_Loops.l0 k g a s acc ((hd + 1 : Nat) : Int)) res) → ((∃ b, Back g a hd b) → ∀ z : List Int, Sel (Inl g a hd) g.length z → Ev (fun k => linkhouseref7_Loops.l0 k g a s (acc ++ [⟨(hd : Int), z⟩]) ((hd + 1 : Nat) : Int)) res) → Ev (fun k => linkhouseref7_Loops.l0 k g a s acc (hd : Int)) res := fun H1 H2 => by
      have hl1 := rl_l1 G h0 h1 S hh acc H1 (fun q hS hq => by
        have hex : ∃ b, Back g a hd b := by
          cases q with
          | nil => exact absurd rfl hq
          | cons b q => exact ⟨b, ((hS.mem b).1 (by simp)).2.2⟩
        exact rl_l2 G h0 h1 S hh acc (Nat.le_trans hL.len (by omega)) hS (H2 hex) g.length 0 [] (Nat.zero_add _) .nil) g.length 0 [] (Nat.zero_add _) .nil
      exact Ev.step (fun k => by rw [linkhouseref7_Loops.l0, if_pos d1]; rfl) hl1
    by_cases hex : ∃ b, Back g a hd b
    · obtain ⟨z, hz⟩ := Sel.ex (Inl g a hd) g.length
      obtain ⟨b, hb⟩ := hex
      obtain ⟨L, hL1, hL2⟩ := ih (hd + 1) (acc ++ [⟨(hd : Int), z⟩]) (by omega) (hL.add hb hz)
      exact ⟨L, hbeg (fun hno => absurd hb (hno b)) (fun _ z' hz' => by rw [hz'.one hz]; exact hL1), hL2⟩
    · obtain ⟨L, hL1, hL2⟩ := ih (hd + 1) acc (by omega) (hL.skip (fun b hb => hex ⟨b, hb⟩))
      exact ⟨L, hbeg (fun _ => hL1) (fun h => absurd h hex), hL2⟩
end
theorem rloops_ev {g : List S62} (G : GV g) {a : Int} (h0 : 0 ≤ a) (h1 : a < (g.length : Int)) : ∃ L, Ev (fun k => linkhouseref7_Loops.f k g a) L ∧ LsP g a g.length L := by
  obtain ⟨s, hs, S⟩ := reached_f G h0 h1 (-1)
  obtain ⟨L, hL, hP⟩ := rl_l0 G h0 h1 S g.length 0 [] (Nat.zero_add _) .nil
  exact ⟨L, Ev.bind hs hL, hP⟩
theorem rd68 {l : List S68} {i : Nat} (h : i < l.length) : rd_T68 l (i : Int) = l[i] := by
  unfold rd_T68
  rw [Int.toNat_natCast, List.getD_eq_getElem?_getD, List.getElem?_eq_getElem h]; rfl
theorem sameL_l (l : List S68) (hl : l.length ≤ 1000) (hf : ∀ e ∈ l, e.f1.length ≤ 1000) : ∀ (es : List S68) (j : Nat), l.drop j = es → Ev (fun k => linkhouseref7_SameLoops.l0 k l l (j : Int)) true := by
  intro es
  induction es with
  | nil =>
    intro j hj
    have hjl : l.length ≤ j := List.drop_eq_nil_iff.1 hj
    exact Ev.step (fun k => by rw [linkhouseref7_SameLoops.l0, if_neg (by omega)]) (Ev.now _)
  | cons e es ih =>
    intro j hj
    obtain ⟨hjl, he, hd⟩ := drop_cons hj
    have j0 : (0 : Int) ≤ (j : Int) := by omega
    have j1 : (j : Int) < (l.length : Int) := by omega
    have hfe := hf e (by rw [← he]; exact List.getElem_mem hjl)
    have hI := sameI_f e.f1 (Nat.le_trans hfe (by decide))
    have wj : wrap64 ((j : Int) + 1) = ((j + 1 : Nat) : Int) := ws (Nat.le_of_lt hjl) (Nat.le_trans hl (by decide))
    refine Ev.step (fun k => by rw [linkhouseref7_SameLoops.l0, if_pos j1, if_pos j0, if_pos j1, if_pos rfl, rd68 hjl, he]) (Ev.bind hI ?_)
    exact Ev.congr (fun k => by rw [if_pos rfl, wj]) (ih (j + 1) hd)
theorem sameL_f (l : List S68) (hl : l.length ≤ 1000) (hf : ∀ e ∈ l, e.f1.length ≤ 1000) : Ev (fun k => linkhouseref7_SameLoops.f k l l) true :=
  Ev.congr (fun k => by rw [linkhouseref7_SameLoops.f, if_pos rfl]; rfl) (sameL_l l hl hf l 0 rfl)
theorem loopsmatch_pure {g : List S62} (F : Fit g) (a : Int) : ∃ k, linkhouselaw7_FlowLoopsMatchSpec.f k g a = some true := by
  refine Ev.rounds (g := fun k => linkhouselaw7_FlowLoopsMatchSpec.f k g a) ?_
  have hfrom := from_f F a
  by_cases hz : (chkR g a).1 = 0
  · obtain ⟨G, h0, h1⟩ := chkR_zero.1 hz
    rw [chkR_ok ⟨G, h0, h1⟩] at hfrom
    have hlen := G.len
    obtain ⟨L, hL, P⟩ := loops_ev G h0 h1
    obtain ⟨M, hM, Q⟩ := rloops_ev G h0 h1
    obtain rfl : L = M := P.one Q
    refine Ev.bind hL (Ev.bind hfrom ?_)
    by_cases c : (g.length : Int) > 12
    · exact Ev.congr (fun k => by rw [if_pos rfl, if_pos c]) (Ev.bind (f := fun _ t => some t) crossed_ev (Ev.now true))
    · refine Ev.congr (fun k => by rw [if_pos rfl, if_neg c, if_pos rfl]) (Ev.bind hM (Ev.bind (sameL_f L (by have := P.len; omega) (fun e he => by have := (P.at_ e he).len; omega)) ?_))
      exact Ev.congr (fun k => by rw [if_pos rfl]) (Ev.bind (f := fun _ t => some t) crossed_ev (Ev.now true))
  · refine Ev.bind (loops_bad F hz) (Ev.bind hfrom ?_)
    refine Ev.congr (fun k => by rw [if_neg hz, if_pos (by simp), if_pos (by simp)]) (Ev.bind (f := fun _ t => some t) crossed_ev (Ev.now true))
end Go.Proofs.Ytaellapacoikaaa.PB
