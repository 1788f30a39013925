import Derived.Test.YtaellapacoikaaaUM10
namespace Go.Proofs.Ytaellapacoikaaa.PB
open Go.RowKit Go.Proofs.YtaellapacoikaaaW.PrintWords Go.Proofs.YtaellapacoikaaaW.PrintLast Go.Proofs.YtaellapacoikaaaW.PrintMore Dom
set_option linter.unusedVariables false
set_option linter.unusedSimpArgs false
/-! ### natural loops -/
/-- the numbers below a bound that have a property, in order -/
inductive Sel (P : Int → Prop) : Nat → List Int → Prop
  | nil : Sel P 0 []
  | skip {n : Nat} {l : List Int} : Sel P n l → ¬ P (n : Int) → Sel P (n + 1) l
  | add {n : Nat} {l : List Int} : Sel P n l → P (n : Int) → Sel P (n + 1) (l ++ [(n : Int)])
theorem Sel.one {P : Int → Prop} : ∀ {n : Nat} {l l' : List Int}, Sel P n l → Sel P n l' → l = l'
  | 0, l, l', h, k => by cases h; cases k; rfl
  | n + 1, l, l', h, k => by
    cases h with
    | skip h a =>
      cases k with
      | skip k _ => exact h.one k
      | add _ b => exact absurd b a
    | add h a =>
      cases k with
      | skip _ b => exact absurd a b
      | add k _ => rw [h.one k]
theorem Sel.ex (P : Int → Prop) : ∀ n : Nat, ∃ l, Sel P n l
  | 0 => ⟨[], .nil⟩
  | n + 1 => by
    obtain ⟨l, h⟩ := Sel.ex P n
    by_cases c : P (n : Int)
    · exact ⟨_, h.add c⟩
    · exact ⟨_, h.skip c⟩
theorem Sel.mem {P : Int → Prop} {n : Nat} {l : List Int} (h : Sel P n l) (x : Int) : x ∈ l ↔ 0 ≤ x ∧ x < (n : Int) ∧ P x := by
  induction h with
  | nil => simp; omega
  | @skip n l h c ih =>
    rw [ih]
    constructor
    · rintro ⟨a, b, d⟩; exact ⟨a, by omega, d⟩
    · rintro ⟨a, b, d⟩
      refine ⟨a, ?_, d⟩
      by_cases e : x = (n : Int)
      · rw [e] at d; exact absurd d c
      · omega
  | @add n l h c ih =>
    rw [List.mem_append, ih, List.mem_singleton]
    constructor
    · rintro (⟨a, b, d⟩ | e)
      · exact ⟨a, by omega, d⟩
      · rw [e]; exact ⟨by omega, by omega, c⟩
    · rintro ⟨a, b, d⟩
      by_cases e : x = (n : Int)
      · exact .inr e
      · exact .inl ⟨a, by omega, d⟩
theorem Sel.len {P : Int → Prop} {n : Nat} {l : List Int} (h : Sel P n l) : l.length ≤ n := by
  induction h with
  | nil => simp
  | skip _ _ ih => omega
  | add _ _ ih => rw [List.length_append, List.length_singleton]; omega
/-- b leads back to the head h, which dominates it -/
def Back (g : List S62) (a h b : Int) : Prop := Rch (Ed g) (-1) a b ∧ Rch (Ed g) (-1) a h ∧ Ed g b h ∧ Dm (Ed g) a h b
/-- x lies in the loop of h -/
def Inl (g : List S62) (a h x : Int) : Prop := x = h ∨ (Rch (Ed g) (-1) a x ∧ ∃ b, Back g a h b ∧ Rch (Ed g) h x b)
/-- the loops of the heads below a bound -/
inductive LsP (g : List S62) (a : Int) : Nat → List S68 → Prop
  | nil : LsP g a 0 []
  | skip {n : Nat} {l : List S68} : LsP g a n l → (∀ b, ¬ Back g a n b) → LsP g a (n + 1) l
  | add {n : Nat} {l : List S68} {b : Int} {z : List Int} : LsP g a n l → Back g a n b → Sel (Inl g a n) g.length z → LsP g a (n + 1) (l ++ [⟨n, z⟩])
theorem LsP.one {g : List S62} {a : Int} : ∀ {n : Nat} {l l' : List S68}, LsP g a n l → LsP g a n l' → l = l'
  | 0, l, l', h, k => by cases h; cases k; rfl
  | n + 1, l, l', h, k => by
    cases h with
    | skip h c =>
      cases k with
      | skip k _ => exact h.one k
      | add _ b _ => exact absurd b (c _)
    | add h b z =>
      cases k with
      | skip _ c => exact absurd b (c _)
      | add k _ z' => rw [h.one k, z.one z']
theorem LsP.at_ {g : List S62} {a : Int} {n : Nat} {l : List S68} (h : LsP g a n l) : ∀ e ∈ l, Sel (Inl g a e.f0) g.length e.f1 := by
  induction h with
  | nil => intro e he; cases he
  | skip _ _ ih => exact ih
  | add _ _ z ih =>
    intro e he
    rcases List.mem_append.1 he with he | he
    · exact ih e he
    · rw [List.mem_singleton] at he; rw [he]; exact z
theorem LsP.len {g : List S62} {a : Int} {n : Nat} {l : List S68} (h : LsP g a n l) : l.length ≤ n := by
  induction h with
  | nil => simp
  | skip _ _ ih => omega
  | add _ _ _ ih => rw [List.length_append, List.length_singleton]; omega
theorem wd_ {g : List S62} (G : GV g) {i : Nat} (h : i ≤ g.length) : wrap64 ((i : Int) + 1) = ((i + 1 : Nat) : Int) := ws h (Nat.le_trans G.len (by decide))
/-! ### flow.Loops -/
section
variable {g : List S62} (G : GV g) {a : Int} (h0 : 0 ≤ a) (h1 : a < (g.length : Int)) {r : List Int} (D : DomOk g a r)
include G h0 h1 D
omit G h0 h1 in
theorem rch_iff (x : Int) : 0 ≤ gt r x ↔ Rch (Ed g) (-1) a x := by
  constructor
  · intro h
    by_cases c : Rch (Ed g) (-1) a x
    · exact c
    · rw [D.none x c] at h; omega
  · intro h; exact (D.rng x h).1
theorem chain_ev (hd : Int) : ∀ (m : Nat) (x : Int), (∃ h : Int → Nat, h x ≤ m ∧ ∀ x, Rch (Ed g) (-1) a x → x ≠ a → h (gt r x) < h x) → Rch (Ed g) (-1) a x → ∃ q : Bool, Ev (fun k => flow_Loops_1.l0 k hd x r) q ∧ (q = true ↔ Dm (Ed g) a hd x) := by
  intro m
  induction m with
  | zero =>
    rintro x ⟨h, hm, hh⟩ hx
    have hxa : x = a := by
      by_cases e : x = a
      · exact e
      · have := hh x hx e; omega
    have hr := rng_of G hx h0 h1
    have hrl : x < (r.length : Int) := by rw [D.len]; exact hr.2
    by_cases c : x = hd
    · refine ⟨true, Ev.step (fun k => by rw [flow_Loops_1.l0, if_pos c, c]; simp) (Ev.now true), ⟨fun _ => ⟨hx, .inl c.symm⟩, fun _ => rfl⟩⟩
    · refine ⟨false, Ev.step (fun k => ?_) (Ev.now false), ⟨(fun h => by cases h), fun h => ?_⟩⟩
      · rw [flow_Loops_1.l0, if_neg c, if_pos hr.1, if_pos hrl, if_pos (by rw [← gt_in hr.1 hrl, hxa]; exact D.root)]
        rw [beq_eq_false_iff_ne.2 (fun h => c h.symm)]
      · exact absurd (((D.chain x hd hx).2 h).at_root hxa).symm c
  | succ m ih =>
    rintro x ⟨h, hm, hh⟩ hx
    have hr := rng_of G hx h0 h1
    have hrl : x < (r.length : Int) := by rw [D.len]; exact hr.2
    by_cases c : x = hd
    · refine ⟨true, Ev.step (fun k => by rw [flow_Loops_1.l0, if_pos c, c]; simp) (Ev.now true), ⟨fun _ => ⟨hx, .inl c.symm⟩, fun _ => rfl⟩⟩
    · by_cases hxa : x = a
      · refine ⟨false, Ev.step (fun k => ?_) (Ev.now false), ⟨(fun h => by cases h), fun h => ?_⟩⟩
        · rw [flow_Loops_1.l0, if_neg c, if_pos hr.1, if_pos hrl, if_pos (by rw [← gt_in hr.1 hrl, hxa]; exact D.root)]
          rw [beq_eq_false_iff_ne.2 (fun h => c h.symm)]
        · exact absurd (((D.chain x hd hx).2 h).at_root hxa).symm c
      · have hlt := hh x hx hxa
        obtain ⟨q, hq, hq2⟩ := ih (gt r x) ⟨h, by omega, hh⟩ (D.rchd x hx)
        refine ⟨q, Ev.step (fun k => ?_) hq, ?_⟩
        · rw [flow_Loops_1.l0, if_neg c, if_pos hr.1, if_pos hrl, ← gt_in hr.1 hrl, if_neg (D.ne x hx hxa)]
        · rw [hq2, ← D.chain x hd hx, ← D.chain _ hd (D.rchd x hx)]
          constructor
          · exact fun h => Ch.up hxa h
          · intro h
            cases h with
            | refl => exact absurd rfl c
            | up _ h => exact h
theorem domin_ev (hd x : Int) (hx : Rch (Ed g) (-1) a x) : ∃ q : Bool, Ev (fun k => flow_Loops_1.f k hd x r) q ∧ (q = true ↔ Dm (Ed g) a hd x) := by
  obtain ⟨h, hh⟩ := D.fin
  exact chain_ev G h0 h1 D hd (h x) x ⟨h, Nat.le_refl _, hh⟩ hx
omit h0 h1 D in
theorem inner_at {p : Int} (p0 : 0 ≤ p) (p1 : p < (g.length : Int)) : Ev (fun k => flow_Inner.f k (rd_T62 g p).f0 (rd_T62 g p).f1 (rd_T62 g p).f2 (rd_T62 g p).f3) (innerL g p) := inner_ev _ _ _ _ (by have := edgs_le (rd62_mem p0 p1); have := G.few; omega)
omit h0 h1 D in
theorem cont_at {p : Int} (p0 : 0 ≤ p) (p1 : p < (g.length : Int)) (y : Int) : ∃ q : Bool, Ev (fun k => slices_Contains_int_int.f k (innerL g p) y) q ∧ (q = true ↔ Ed g p y) :=
  ⟨_, cont_f _ (Nat.le_trans (innerE_len _) (by have := edgs_le (rd62_mem p0 p1); have := G.few; omega)) y, by rw [decide_eq_true_iff]; exact ⟨fun h => ⟨p0, p1, h⟩, fun h => h.2.2⟩⟩
/-- the blocks that lead back to the head are found -/
theorem lp_l1 {hd : Nat} (hh : hd < g.length) (acc : List S68) {res : List S68 × Int × Int}
    (H1 : (∀ b, ¬ Back g a hd b) → Ev (fun k => flow_Loops.l0 k g acc (g.length : Int) ((hd + 1 : Nat) : Int) r) res)
    (H2 : ∀ (ins : List Bool) (q : List Int), Sel (Back g a hd) g.length q → q ≠ [] → (∀ x, Sn ins x ↔ x ∈ q) → ins.length = g.length → cntF ins + q.length ≤ g.length → Ev (fun k => flow_Loops.l2 k g acc (hd : Int) (ins.set hd true) q (g.length : Int) (hd : Int) r) res) :
    ∀ (m j : Nat) (ins : List Bool) (q : List Int), j + m = g.length → Sel (Back g a hd) j q → (∀ x, Sn ins x ↔ x ∈ q) → ins.length = g.length → cntF ins + q.length ≤ g.length →
      Ev (fun k => flow_Loops.l1 k g acc (hd : Int) ins q (g.length : Int) (hd : Int) (g.length : Int) (j : Int) r) res := by
  have hlen := G.len
  have wh := wd_ G (Nat.le_of_lt hh)
  have d0 : (0 : Int) ≤ (hd : Int) := by omega
  have d1 : (hd : Int) < (r.length : Int) := by rw [D.len]; omega
  have d2 : (hd : Int) < (g.length : Int) := by omega
  intro m
  induction m with
  | zero =>
    intro j ins q hj hS hm hl hc
    have hjn : j = g.length := by clear wh; omega
    have hj' : ¬ ((j : Int) < (g.length : Int)) := by clear wh; omega
    have d3 : (hd : Int) < (ins.length : Int) := by rw [hl]; exact d2
    rw [hjn] at hS
    by_cases c : q = []
    · subst c
      refine Ev.step (fun k => by rw [flow_Loops.l1, if_neg hj', if_pos (by simp), wh]) (H1 fun b hb => ?_)
      have := (hS.mem b).2 ⟨(rng_of G hb.1 h0 h1).1, (rng_of G hb.1 h0 h1).2, hb⟩
      cases this
    · have cl : ¬ ((q.length : Int) = 0) := fun h => c (List.length_eq_zero_iff.1 (by clear wh; omega))
      refine Ev.step (fun k => by rw [flow_Loops.l1, if_neg hj', if_neg cl, if_pos d0, if_pos d3, Int.toNat_natCast]) (H2 ins q hS c hm hl hc)
  | succ m ih =>
    intro j ins q hj hS hm hl hc
    have j1 : (j : Int) < (g.length : Int) := by clear wh; omega
    have j0 : (0 : Int) ≤ (j : Int) := by clear wh; omega
    have j2 : (j : Int) < (r.length : Int) := by rw [D.len]; exact j1
    have j3 : (j : Int) < (ins.length : Int) := by rw [hl]; exact j1
    have hjm : j + 1 + m = g.length := by clear wh; omega
    have hjl : j ≤ g.length := by clear wh; omega
    have wj := wd_ G hjl
    have hr := rch_iff D (j : Int)
    have hrh := rch_iff D (hd : Int)
    have skip : ¬ Back g a hd (j : Int) → Ev (fun k => flow_Loops.l1 k g acc (hd : Int) ins q (g.length : Int) (hd : Int) (g.length : Int) ((j + 1 : Nat) : Int) r) res := fun hb => ih (j + 1) ins q hjm (hS.skip hb) hm hl hc
    rw [gt_in j0 j2] at hr
    rw [gt_in d0 d1] at hrh
    by_cases c1 : rd r (j : Int) ≥ 0
    · by_cases c2 : rd r (hd : Int) ≥ 0
      · have hjr := hr.1 c1
        obtain ⟨q1, e1, f1⟩ := cont_at G j0 j1 (hd : Int)
        refine Ev.step (fun k => by rw [flow_Loops.l1, if_pos j1, if_pos j0, if_pos j2, if_pos c1, if_pos d0, if_pos d1, if_pos c2, if_pos j1]) (Ev.bind (inner_at G j0 j1) (Ev.bind e1 ?_))
        cases q1 with
        | false => exact Ev.congr (fun k => by rw [if_neg (by decide), wj]) (skip (fun hb => absurd (f1.2 hb.2.2.1) (by decide)))
        | true =>
          obtain ⟨q2, e2, f2⟩ := domin_ev G h0 h1 D (hd : Int) (j : Int) hjr
          refine Ev.congr (fun k => by rw [if_pos rfl]) (Ev.bind e2 ?_)
          cases q2 with
          | false => exact Ev.congr (fun k => by rw [if_neg (by decide), wj]) (skip (fun hb => absurd (f2.2 hb.2.2.2) (by decide)))
          | true =>
            have hb : Back g a hd (j : Int) := ⟨hjr, hrh.1 c2, f1.1 rfl, f2.1 rfl⟩
            have hns : ¬ Sn ins (j : Int) := fun h => by have := ((hS.mem _).1 ((hm _).1 h)).2.1; exact absurd this (Int.lt_irrefl _)
            have hno : ¬ rdOf false ins (j : Int) = true := fun h => hns ⟨j0, j3, h⟩
            have hset := Sn.set j0 j3
            have hcnt := cntF_set j0 j3 hns
            rw [Int.toNat_natCast] at hset hcnt
            have hql := hS.len
            have hq17 : q.length < 17592186044416 := by clear wh wj; omega
            refine Ev.congr (fun k => by rw [if_pos rfl, if_pos j3, if_neg hno, if_pos hq17, wj, Int.toNat_natCast]) (ih (j + 1) (ins.set j true) (q ++ [(j : Int)]) hjm (hS.add hb) (fun x => ?_) (by rw [List.length_set]; exact hl) ?_)
            · rw [hset, hm, List.mem_append, List.mem_singleton]; exact Or.comm
            · rw [List.length_append, List.length_singleton]; clear wh wj; omega
      · exact Ev.step (fun k => by rw [flow_Loops.l1, if_pos j1, if_pos j0, if_pos j2, if_pos c1, if_pos d0, if_pos d1, if_neg c2, wj]) (skip (fun hb => c2 (hrh.2 hb.2.1)))
    · exact Ev.step (fun k => by rw [flow_Loops.l1, if_pos j1, if_pos j0, if_pos j2, if_neg c1, wj]) (skip (fun hb => c1 (hr.2 hb.1)))
/-- in the midst of the search for a loop's blocks -/
structure Lq (g : List S62) (a hd : Int) (ins : List Bool) (q : List Int) : Prop where
  len : ins.length = g.length
  head : Sn ins hd
  back : ∀ b, Back g a hd b → Sn ins b
  ok : ∀ x, Sn ins x → Inl g a hd x
  sub : ∀ x, x ∈ q → Sn ins x
  cls : ∀ y, Sn ins y → y ≠ hd → y ∈ q ∨ ∀ p, Rch (Ed g) (-1) a p → Ed g p y → Sn ins p
omit G h0 h1 D in
theorem Lq.gen {hd : Int} {ins : List Bool} (L : Lq g a hd ins []) {x b : Int} (hp : Rch (Ed g) hd x b) (hx : Rch (Ed g) (-1) a x) : Rch (Ed g) (-1) a b ∧ (Sn ins b → Sn ins x) := by
  induction hp with
  | refl _ => exact ⟨hx, id⟩
  | step _ hE hc ih => exact ⟨Rch.step ih.1 hE (by have := hE.pos; omega), fun hs => ih.2 (((L.cls _ hs hc).resolve_left (by simp)) _ ih.1 hE)⟩
omit G h0 h1 D in
theorem Lq.done {hd : Int} {ins : List Bool} (L : Lq g a hd ins []) (x : Int) : Sn ins x ↔ Inl g a hd x := by
  refine ⟨L.ok x, ?_⟩
  rintro (h | ⟨h, b, hb, hp⟩)
  · rw [h]; exact L.head
  · exact (L.gen hp h).2 (L.back b hb)
end
end Go.Proofs.Ytaellapacoikaaa.PB
