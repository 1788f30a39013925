import Derived.Test.YtaellapacoikaaaUM12
namespace Go.Proofs.Ytaellapacoikaaa.PB
open Go.RowKit Go.Proofs.YtaellapacoikaaaW.PrintWords Go.Proofs.YtaellapacoikaaaW.PrintLast Go.Proofs.YtaellapacoikaaaW.PrintMore Dom
set_option linter.unusedVariables false
set_option linter.unusedSimpArgs false
/-! ### flow.Loops: the blocks of a loop, and all loops -/
section
variable {g : List S62} (G : GV g) {a : Int} (h0 : 0 ≤ a) (h1 : a < (g.length : Int)) {r : List Int} (D : DomOk g a r)
include G h0 h1 D
theorem lp_l3 {hd : Nat} (hh : hd < g.length) (acc : List S68) {res : List S68 × Int × Int} {x : Int} (hxh : x ≠ (hd : Int)) {m : Nat} (hm1 : m ≤ 1000)
    (H : ∀ (ins : List Bool) (q : List Int), Lq g a hd ins q → cntF ins + q.length ≤ m → Ev (fun k => flow_Loops.l2 k g acc (hd : Int) ins q (g.length : Int) (hd : Int) r) res) :
    ∀ (mm j : Nat) (ins : List Bool) (q : List Int), j + mm = g.length → Lq g a hd ins (x :: q) → (∀ p : Int, p < (j : Int) → Rch (Ed g) (-1) a p → Ed g p x → Sn ins p) → cntF ins + q.length ≤ m →
      Ev (fun k => flow_Loops.l3 k g acc (hd : Int) ins (x :: q) (g.length : Int) (hd : Int) (g.length : Int) (j : Int) r) res := by
  have hlen := G.len
  intro mm
  induction mm with
  | zero =>
    intro j ins q hj L hp hc
    have hj' : ¬ ((j : Int) < (g.length : Int)) := by omega
    have hq1 : 1 ≤ ((x :: q).length : Int) := by rw [List.length_cons]; omega
    have L2 : Lq g a hd ins q := ⟨L.len, L.head, L.back, L.ok, fun y hy => L.sub y (List.mem_cons_of_mem _ hy), fun y hy hn => by
      rcases L.cls y hy hn with h | h
      · rcases List.mem_cons.1 h with e | h
        · exact .inr fun p hr hE => hp p (by have := (rng_of G hr h0 h1).2; omega) hr (by rw [← e]; exact hE)
        · exact .inl h
      · exact .inr h⟩
    exact Ev.step (fun k => by rw [flow_Loops.l3, if_neg hj', if_pos hq1]; rfl) (H ins q L2 hc)
  | succ mm ih =>
    intro j ins q hj L hp hc
    have j1 : (j : Int) < (g.length : Int) := by omega
    have j0 : (0 : Int) ≤ (j : Int) := by omega
    have j2 : (j : Int) < (r.length : Int) := by rw [D.len]; exact j1
    have j3 : (j : Int) < (ins.length : Int) := by rw [L.len]; exact j1
    have hjm : j + 1 + mm = g.length := by omega
    have hjl : j ≤ g.length := by omega
    have hq0 : 0 < ((x :: q).length : Int) := by rw [List.length_cons]; omega
    have hql : (x :: q).length < 17592186044416 := by rw [List.length_cons]; omega
    have wide : ∀ (Q : Int → Prop), (∀ p : Int, p < (j : Int) → Q p) → Q (j : Int) → ∀ p : Int, p < ((j + 1 : Nat) : Int) → Q p := fun Q q1 q2 p hpj => by
      by_cases e : p = (j : Int)
      · rw [e]; exact q2
      · exact q1 p (by omega)
    have wj := wd_ G hjl
    have skip : (Rch (Ed g) (-1) a (j : Int) → Ed g (j : Int) x → Sn ins (j : Int)) → Ev (fun k => flow_Loops.l3 k g acc (hd : Int) ins (x :: q) (g.length : Int) (hd : Int) (g.length : Int) ((j + 1 : Nat) : Int) r) res := fun hb =>
      ih (j + 1) ins q hjm L (wide (fun p => Rch (Ed g) (-1) a p → Ed g p x → Sn ins p) hp hb) hc
    by_cases c0 : rdOf false ins (j : Int) = true
    · exact Ev.step (fun k => by rw [flow_Loops.l3, if_pos j1, if_pos j0, if_pos j3, if_pos c0, wj]) (skip (fun _ _ => ⟨j0, j3, c0⟩))
    · have hr := rch_iff D (j : Int)
      rw [gt_in j0 j2] at hr
      by_cases c1 : rd r (j : Int) ≥ 0
      · have hjr := hr.1 c1
        obtain ⟨q1, e1, f1⟩ := cont_at G j0 j1 x
        have hx0 : rd (x :: q) 0 = x := rfl
        refine Ev.step (fun k => by rw [flow_Loops.l3, if_pos j1, if_pos j0, if_pos j3, if_neg c0, if_pos j2, if_pos c1, if_pos j1]) (Ev.bind (inner_at G j0 j1) ?_)
        refine Ev.congr (fun k => by rw [if_pos hq0, hx0]) (Ev.bind e1 ?_)
        cases q1 with
        | false => exact Ev.congr (fun k => by rw [if_neg (by decide), wj]) (skip (fun _ hE => absurd (f1.2 hE) (by decide)))
        | true =>
          have hE := f1.1 rfl
          have hns : ¬ Sn ins (j : Int) := fun h => c0 h.2.2
          have hset := Sn.set j0 j3
          have hcnt := cntF_set j0 j3 hns
          rw [Int.toNat_natCast] at hset hcnt
          have hjh : (j : Int) ≠ (hd : Int) := fun e => hns (by rw [e]; exact L.head)
          have hin : Inl g a hd (j : Int) := by
            rcases L.ok x (L.sub x (by simp)) with e | ⟨_, b, hb, hp⟩
            · exact absurd e hxh
            · exact .inr ⟨hjr, b, hb, Rch.front hE hjh hp⟩
          have L2 : Lq g a hd (ins.set j true) (x :: (q ++ [(j : Int)])) := by
            refine ⟨by rw [List.length_set]; exact L.len, (hset _).2 (.inr L.head), fun b hb => (hset _).2 (.inr (L.back b hb)), fun y hy => ?_, fun y hy => ?_, fun y hy hn => ?_⟩
            · rcases (hset y).1 hy with e | h
              · rw [e]; exact hin
              · exact L.ok y h
            · rcases List.mem_cons.1 hy with e | hy
              · rw [e]; exact (hset _).2 (.inr (L.sub x (by simp)))
              · rcases List.mem_append.1 hy with hy | hy
                · exact (hset _).2 (.inr (L.sub y (by simp [hy])))
                · rw [List.mem_singleton] at hy; exact (hset _).2 (.inl hy)
            · rcases (hset y).1 hy with e | h
              · exact .inl (by simp [e])
              · rcases L.cls y h hn with h | h
                · exact .inl (by rcases List.mem_cons.1 h with h | h <;> simp [h])
                · exact .inr fun p a b => (hset p).2 (.inr (h p a b))
          have hc2 : cntF (ins.set j true) + (q ++ [(j : Int)]).length ≤ m := by rw [List.length_append, List.length_singleton]; clear wj; omega
          refine Ev.congr (fun k => by rw [if_pos rfl, if_pos hql, wj, Int.toNat_natCast]; rfl) (ih (j + 1) (ins.set j true) (q ++ [(j : Int)]) hjm L2 (wide (fun p => Rch (Ed g) (-1) a p → Ed g p x → Sn (ins.set j true) p) (fun p a b c => (hset p).2 (.inr (hp p a b c))) (fun _ _ => (hset _).2 (.inl rfl))) hc2)
      · exact Ev.step (fun k => by rw [flow_Loops.l3, if_pos j1, if_pos j0, if_pos j3, if_neg c0, if_pos j2, if_neg c1, wj]) (skip (fun hq _ => absurd (hr.2 hq) c1))
theorem lp_l2 {hd : Nat} (hh : hd < g.length) (acc : List S68) {res : List S68 × Int × Int}
    (H : ∀ ins : List Bool, ins.length = g.length → (∀ x, Sn ins x ↔ Inl g a hd x) → Ev (fun k => flow_Loops.l4 k g acc (g.length : Int) (hd : Int) ins (ins.length : Int) 0 r (hd : Int) []) res) :
    ∀ m : Nat, m ≤ 1000 → ∀ (ins : List Bool) (q : List Int), Lq g a hd ins q → cntF ins + q.length ≤ m → Ev (fun k => flow_Loops.l2 k g acc (hd : Int) ins q (g.length : Int) (hd : Int) r) res := by
  have nil_ : ∀ ins : List Bool, Lq g a hd ins [] → Ev (fun k => flow_Loops.l2 k g acc (hd : Int) ins [] (g.length : Int) (hd : Int) r) res := fun ins L =>
    Ev.step (fun k => by rw [flow_Loops.l2, if_neg (by simp)]) (H ins L.len L.done)
  intro m
  induction m with
  | zero =>
    intro _ ins q L hc
    obtain rfl : q = [] := List.length_eq_zero_iff.1 (by omega)
    exact nil_ ins L
  | succ m ih =>
    intro hm ins q L hc
    cases q with
    | nil => exact nil_ ins L
    | cons x q =>
      have hq0 : ((x :: q).length : Int) > 0 := by rw [List.length_cons]; omega
      have hq1 : 1 ≤ ((x :: q).length : Int) := by rw [List.length_cons]; omega
      have hx0 : rd (x :: q) 0 = x := rfl
      have hc2 : cntF ins + q.length ≤ m := by rw [List.length_cons] at hc; omega
      by_cases c : x = (hd : Int)
      · have L2 : Lq g a hd ins q := ⟨L.len, L.head, L.back, L.ok, fun y hy => L.sub y (List.mem_cons_of_mem _ hy), fun y hy hn => by
          rcases L.cls y hy hn with h | h
          · exact .inl ((List.mem_cons.1 h).resolve_left (fun e => hn (e.trans c)))
          · exact .inr h⟩
        exact Ev.step (fun k => by rw [flow_Loops.l2, if_pos hq0, if_pos hq0, hx0, if_pos c, if_pos hq1]; rfl) (ih (by omega) ins q L2 hc2)
      · exact Ev.step (fun k => by rw [flow_Loops.l2, if_pos hq0, if_pos hq0, hx0, if_neg c]; rfl) (lp_l3 G h0 h1 D hh acc c (by omega) (ih (by omega)) g.length 0 ins q (Nat.zero_add _) L (fun p hp hr => absurd (rng_of G hr h0 h1).1 (by omega)) hc2)
omit D in
theorem lp_l4 {hd : Nat} (hh : hd < g.length) (acc : List S68) (ha : acc.length ≤ g.length) {res : List S68 × Int × Int} {ins : List Bool} (hl : ins.length = g.length) (hin : ∀ x, Sn ins x ↔ Inl g a hd x)
    (H : ∀ z : List Int, Sel (Inl g a hd) g.length z → Ev (fun k => flow_Loops.l0 k g (acc ++ [⟨(hd : Int), z⟩]) (g.length : Int) ((hd + 1 : Nat) : Int) r) res) :
    ∀ (m j : Nat) (z : List Int), j + m = g.length → Sel (Inl g a hd) j z → Ev (fun k => flow_Loops.l4 k g acc (g.length : Int) (hd : Int) ins (ins.length : Int) (j : Int) r (hd : Int) z) res := by
  have hlen := G.len
  have hal : acc.length < 4398046511104 := by omega
  have wh := wd_ G (Nat.le_of_lt hh)
  intro m
  induction m with
  | zero =>
    intro j z hj hS
    have hjn : j = g.length := by clear wh; omega
    have hj' : ¬ ((j : Int) < (ins.length : Int)) := by clear wh; omega
    rw [hjn] at hS
    exact Ev.step (fun k => by rw [flow_Loops.l4, if_neg hj', if_pos hal, wh]) (H z hS)
  | succ m ih =>
    intro j z hj hS
    have j1 : (j : Int) < (ins.length : Int) := by clear wh; omega
    have j0 : (0 : Int) ≤ (j : Int) := by clear wh; omega
    have hjm : j + 1 + m = g.length := by clear wh; omega
    have hjl : j ≤ g.length := by clear wh; omega
    have hzl : z.length < 17592186044416 := by have := hS.len; clear wh; omega
    have wj := wd_ G hjl
    by_cases c : rdOf false ins (j : Int) = true
    · exact Ev.step (fun k => by rw [flow_Loops.l4, if_pos j1, if_pos j0, if_pos j1, if_pos c, if_pos hzl, wj]) (ih (j + 1) (z ++ [(j : Int)]) hjm (hS.add ((hin _).1 ⟨j0, j1, c⟩)))
    · exact Ev.step (fun k => by rw [flow_Loops.l4, if_pos j1, if_pos j0, if_pos j1, if_neg c, wj]) (ih (j + 1) z hjm (hS.skip (fun h => c ((hin _).2 h).2.2)))
theorem lp_l0 : ∀ (m hd : Nat) (acc : List S68), hd + m = g.length → LsP g a hd acc → ∃ L, Ev (fun k => flow_Loops.l0 k g acc (g.length : Int) (hd : Int) r) (L, 0, 0) ∧ LsP g a g.length L := by
  have hlen := G.len
  intro m
  induction m with
  | zero =>
    intro hd acc hj hL
    have hj' : ¬ ((hd : Int) < (g.length : Int)) := by omega
    exact ⟨acc, Ev.step (fun k => by rw [flow_Loops.l0, if_neg hj']) (Ev.now _), by rw [show g.length = hd from by omega]; exact hL⟩
  | succ m ih =>
    intro hd acc hj hL
    have hh : hd < g.length := by omega
    have d1 : (hd : Int) < (g.length : Int) := by omega
    have z0 : (0 : Int) ≤ (g.length : Int) := by omega
    have z1 : ((g.length : Int) : Int).toNat ≤ 281474976710656 := by omega
    have hrep : List.replicate ((g.length : Int) : Int).toNat false = List.replicate g.length false := by rw [Int.toNat_natCast]
    have hc0 : cntF (List.replicate g.length false) = g.length := by unfold cntF; simp
    have hbeg : ∀ {res : List S68 × Int × Int}, ((∀ b, ¬ Back g a hd b) → Ev (fun k => flow_Loops.l0 k g acc (g.length : Int) ((hd + 1 : Nat) : Int) r) res) → ((∃ b, Back g a hd b) → ∀ z : List Int, Sel (Inl g a hd) g.length z → Ev (fun k => flow_Loops.l0 k g (acc ++ [⟨(hd : Int), z⟩]) (g.length : Int) ((hd + 1 : Nat) : Int) r) res) → Ev (fun k => flow_Loops.l0 k g acc (g.length : Int) (hd : Int) r) res := fun H1 H2 => by
      have hl1 := lp_l1 G h0 h1 D hh acc H1 (fun ins q hS hq hm hl hc => by
        have hex : ∃ b, Back g a hd b := by
          cases q with
          | nil => exact absurd rfl hq
          | cons b q => exact ⟨b, ((hS.mem b).1 (by simp)).2.2⟩
        have i0 : (0 : Int) ≤ (hd : Int) := by omega
        have i1 : (hd : Int) < (ins.length : Int) := by rw [hl]; exact d1
        have hset := Sn.set i0 i1
        rw [Int.toNat_natCast] at hset
        have hcl : cntF (ins.set hd true) ≤ cntF ins := by
          by_cases c : Sn ins (hd : Int)
          · have e : ins.set hd true = ins := by
              refine List.ext_getElem (by simp) fun i a1 a2 => ?_
              rw [List.getElem_set]
              split
              · rename_i e
                subst e
                have := c.2.2
                rw [rdB a2] at this
                exact this.symm
              · rfl
            rw [e]; exact Nat.le_refl _
          · have := cntF_set i0 i1 c
            rw [Int.toNat_natCast] at this
            omega
        refine lp_l2 G h0 h1 D hh acc (fun ins2 hl2 hin => lp_l4 G h0 h1 hh acc (Nat.le_trans hL.len (by omega)) hl2 hin (H2 hex) g.length 0 [] (Nat.zero_add _) .nil) g.length (by omega) (ins.set hd true) q ⟨by rw [List.length_set]; exact hl, (hset _).2 (.inl rfl), fun b hb => (hset _).2 (.inr ((hm b).2 ((hS.mem b).2 ⟨(rng_of G hb.1 h0 h1).1, (rng_of G hb.1 h0 h1).2, hb⟩))), fun y hy => ?_, fun y hy => (hset _).2 (.inr ((hm y).2 hy)), fun y hy hn => .inl ?_⟩ (by omega)
        · rcases (hset y).1 hy with e | h
          · exact .inl e
          · have hb := ((hS.mem y).1 ((hm y).1 h)).2.2
            by_cases e : y = (hd : Int)
            · exact .inl e
            · exact .inr ⟨hb.1, y, hb, Rch.refl e⟩
        · exact (hm y).1 (((hset y).1 hy).resolve_left hn)) g.length 0 (List.replicate g.length false) [] (Nat.zero_add _) .nil (fun x => ⟨fun h => absurd h (no_rep x), fun h => by cases h⟩) (by simp) (by simp [hc0])
      exact Ev.step (fun k => by rw [flow_Loops.l0, if_pos d1, if_pos z0, if_pos z1, hrep]; rfl) hl1
    by_cases hex : ∃ b, Back g a hd b
    · obtain ⟨z, hz⟩ := Sel.ex (Inl g a hd) g.length
      obtain ⟨b, hb⟩ := hex
      obtain ⟨L, hL1, hL2⟩ := ih (hd + 1) (acc ++ [⟨(hd : Int), z⟩]) (by omega) (hL.add hb hz)
      exact ⟨L, hbeg (fun hno => absurd hb (hno b)) (fun _ z' hz' => by rw [hz'.one hz]; exact hL1), hL2⟩
    · obtain ⟨L, hL1, hL2⟩ := ih (hd + 1) acc (by omega) (hL.skip (fun b hb => hex ⟨b, hb⟩))
      exact ⟨L, hbeg (fun _ => hL1) (fun h => absurd h hex), hL2⟩
end
theorem loops_ev {g : List S62} (G : GV g) {a : Int} (h0 : 0 ≤ a) (h1 : a < (g.length : Int)) : ∃ L, Ev (fun k => flow_Loops.f k g a) (L, 0, 0) ∧ LsP g a g.length L := by
  obtain ⟨r, hr, D⟩ := domok G h0 h1
  obtain ⟨L, hL, hP⟩ := lp_l0 G h0 h1 D g.length 0 [] (Nat.zero_add _) .nil
  refine ⟨L, ?_, hP⟩
  have hC := chk_f G.fit a
  rw [chkR_ok ⟨G, h0, h1⟩] at hC
  refine Ev.bind (g := fun k => flow_check.f k g a) hC ?_
  refine Ev.congr (fun k => by rw [if_neg zz_]) (Ev.bind hr ?_)
  exact hL
theorem loops_bad {g : List S62} (F : Fit g) {a : Int} (hz : (chkR g a).1 ≠ 0) : Ev (fun k => flow_Loops.f k g a) ([], (chkR g a).1, (chkR g a).2) := by
  refine Ev.bind (g := fun k => flow_check.f k g a) (chk_f F a) ?_
  refine Ev.congr (fun k => ?_) (Ev.now _)
  rw [if_pos (by simp; exact .inl hz)]
end Go.Proofs.Ytaellapacoikaaa.PB
