import Derived.Test.YtaellapacoikaaaNSBx2
import Derived.RangeFuncBox
import Derived.WalkKit
import Derived.Lib.Hide
import Derived.Outline
namespace Go.Proofs.Ytaellapacoikaaa.PB
open Go.RowKit Go.Proofs.YtaellapacoikaaaW.PrintWords Go.Proofs.YtaellapacoikaaaW.PrintLast Go.Proofs.YtaellapacoikaaaW.PrintMore
set_option linter.unusedVariables false
set_option linter.unusedSimpArgs false

/-! ### flow.postorder: what it computes -/
/-- the blocks to which a block leads within its function -/
def innerE (es : List S64) : List Int := (es.filter fun e => decide (e.f0 ≠ 3) && decide (0 ≤ e.f1)).map S64.f1
def innerL (g : List S62) (i : Int) : List Int := innerE (rd_T62 g i).f3
theorem innerE_cons (e : S64) (es : List S64) : innerE (e :: es) = if e.f0 = 3 then innerE es else if e.f1 ≥ 0 then e.f1 :: innerE es else innerE es := by
 unfold innerE
 by_cases h : e.f0 = 3
 ·
  simp [h]
 ·
  by_cases h2 : 0 ≤ e.f1
  ·
   simp [h, h2]
  ·
   simp [h, h2]
theorem innerE_len (es : List S64) : (innerE es).length ≤ es.length := by
 unfold innerE; rw [List.length_map]; exact List.length_filter_le _ _
theorem inner_l0 (es : List S64) (hn : es.length ≤ 1000) : ∀ (m i : Nat), i + m = es.length → ∀ (acc : List Int), acc.length ≤ i → ∀ k, m < k →
  flow_Inner.l0 k acc es (es.length : Int) i = some (acc ++ innerE (es.drop i)) := by
 intro m
 induction m with
 | zero =>
  intro i hi acc _ k hk
  obtain ⟨k, rfl⟩ : ∃ k', k = k' + 1 := ⟨k - 1, by omega⟩
  unfold flow_Inner.l0
  rw [if_neg (by omega), List.drop_eq_nil_of_le (by omega)]
  simp [innerE]
 | succ m ih =>
  intro i hi acc ha k hk
  obtain ⟨k, rfl⟩ : ∃ k', k = k' + 1 := ⟨k - 1, by omega⟩
  unfold flow_Inner.l0
  have hlt : i < es.length := by omega
  rw [if_pos (by omega), if_pos (by omega), if_pos (by omega), show wrap64 ((i : Int) + 1) = ((i + 1 : Nat) : Int) from by unfold wrap64; omega]
  rw [List.drop_eq_getElem_cons hlt, innerE_cons]
  have hr : rd_T64 es (i : Int) = es[i] := by
   unfold rd_T64
   rw [Int.toNat_natCast, List.getD_eq_getElem?_getD, List.getElem?_eq_getElem hlt]; rfl
  rw [hr]
  by_cases h1 : es[i].f0 = 3
  ·
   rw [if_pos h1, if_pos h1, ih (i + 1) (by omega) acc (by omega) k (by omega)]
  ·
   rw [if_neg h1, if_neg h1]
   by_cases h2 : es[i].f1 ≥ 0
   ·
    rw [if_pos h2, if_pos h2, if_pos (by omega), ih (i + 1) (by omega) _ (by simp; omega) k (by omega)]
    simp
   ·
    rw [if_neg h2, if_neg h2, ih (i + 1) (by omega) acc (by omega) k (by omega)]
theorem inner_f (a b c : Int) (es : List S64) (hn : es.length ≤ 1000) : flow_Inner.f (es.length + 1) a b c es = some (innerE es) := by
 unfold flow_Inner.f
 have := inner_l0 es hn es.length 0 (by omega) [] (by simp) (es.length + 1) (by omega)
 simpa using this

/-- a depth-first search: which blocks have been seen, and those that are done, in order -/
def vis : Nat → List S62 → List Bool × List Int → Int → Option (List Bool × List Int)
 | 0, _, _, _ => none
 | k + 1, g, s, i => if 0 ≤ i ∧ i < s.1.length ∧ i < g.length ∧ (rd_T62 g i).f3.length ≤ 1000 then
   ((innerL g i).foldlM (fun s j => if 0 ≤ j ∧ j < s.1.length then (if rdOf false s.1 j = true then some s else vis k g s j) else none) (s.1.set i.toNat true, s.2)).bind fun s' =>
    if s'.2.length < 1000000 then some (s'.1, s'.2 ++ [i]) else none
  else none
def visStep (k : Nat) (g : List S62) (s : List Bool × List Int) (j : Int) : Option (List Bool × List Int) := if 0 ≤ j ∧ j < s.1.length then (if rdOf false s.1 j = true then some s else vis k g s j) else none
theorem vis_succ (k : Nat) (g : List S62) (s : List Bool × List Int) (i : Int) : vis (k + 1) g s i = if 0 ≤ i ∧ i < s.1.length ∧ i < g.length ∧ (rd_T62 g i).f3.length ≤ 1000 then
   ((innerL g i).foldlM (visStep k g) (s.1.set i.toNat true, s.2)).bind fun s' => if s'.2.length < 1000000 then some (s'.1, s'.2 ++ [i]) else none
  else none := rfl
theorem foldlM_len {k : Nat} {g : List S62} (h : ∀ s i s', vis k g s i = some s' → s'.1.length = s.1.length) : ∀ (l : List Int) (s s' : List Bool × List Int), l.foldlM (visStep k g) s = some s' → s'.1.length = s.1.length
 | [], s, s', e => by simp at e; rw [e]
 | j :: l, s, s', e => by
  rw [List.foldlM_cons] at e
  obtain ⟨s1, e1, e2⟩ := Option.bind_eq_some_iff.1 e
  rw [foldlM_len h l s1 s' e2]
  unfold visStep at e1
  split at e1
  ·
   split at e1
   ·
    injection e1 with e1; rw [e1]
   ·
    exact h _ _ _ e1
  ·
   cases e1
theorem vis_len : ∀ (k : Nat) (g : List S62) (s : List Bool × List Int) (i : Int) (s' : List Bool × List Int), vis k g s i = some s' → s'.1.length = s.1.length
 | 0, _, _, _, _, h => by cases h
 | k + 1, g, s, i, s', h => by
  rw [vis_succ] at h
  split at h
  ·
   obtain ⟨s1, e1, e2⟩ := Option.bind_eq_some_iff.1 h
   have := foldlM_len (vis_len k g) _ _ _ e1
   split at e2
   ·
    injection e2 with e2; rw [← e2]; simpa using this
   ·
    cases e2
  ·
   cases h

/-! ### the search's variables in memory -/
structure VSt (W0 : World) (Bs Bg Bv Bo gs n cs : Nat) (A : Option Addr) (c : Nat) (g : List S62) (s : List Bool × List Int) (W : World) : Prop where
 bs : W.heap[Bs]? = some (.cells #[.slice (some ⟨gs, 0, none⟩) n cs] 54 (0, 0))
 bg : W.heap[Bg]? = some (.cells #[.slice A g.length c] 42 (0, 0))
 bv : W.heap[Bv]? = some (.cells #[.func (.func 64) #[] #[.pointer (some ⟨Bs, 0, none⟩), .pointer (some ⟨Bg, 0, none⟩), .pointer (some ⟨Bv, 0, none⟩), .pointer (some ⟨Bo, 0, none⟩)]] 99 (0, 0))
 bo : ∃ vo, W.heap[Bo]? = some (.cells #[vo] 22 (0, 0)) ∧ Kd.R (Kd.int .i64) 3 W W0.heap.size (fun _ => True) vo s.2
 bob : W0.heap.size ≤ Bo
 seen : Kd.R Kd.bool 4 W W0.heap.size (fun _ => True) (.slice (some ⟨gs, 0, none⟩) n cs) s.1
 rg : Kd.C k62 W0 A g.length g
 rc : g.length ≤ c
 bel : Below W0.heap.size W0 W
theorem VSt.below {W0 : World} {Bs Bg Bv Bo gs n cs : Nat} {A : Option Addr} {c : Nat} {g : List S62} {s : List Bool × List Int} {W W1 : World} (h : VSt W0 Bs Bg Bv Bo gs n cs A c g s W) (hb : Below W.heap.size W W1) : VSt W0 Bs Bg Bv Bo gs n cs A c g s W1 :=
 ⟨blk_below h.bs hb, blk_below h.bg hb, blk_below h.bv hb, by obtain ⟨vo, h1, h2⟩ := h.bo; exact ⟨vo, blk_below h1 hb, Kd.R_below h2 hb⟩, h.bob, Kd.R_below h.seen hb, h.rg, h.rc, below_step h.bel hb⟩
theorem VSt.len {W0 : World} {Bs Bg Bv Bo gs n cs : Nat} {A : Option Addr} {c : Nat} {g : List S62} {s : List Bool × List Int} {W : World} (h : VSt W0 Bs Bg Bv Bo gs n cs A c g s W) : n = s.1.length := (Kd.R_reads' h.seen).1
theorem VSt.blk {W0 : World} {Bs Bg Bv Bo gs n cs : Nat} {A : Option Addr} {c : Nat} {g : List S62} {s : List Bool × List Int} {W : World} (h : VSt W0 Bs Bg Bv Bo gs n cs A c g s W) : ∃ cells, W.heap[gs]? = some (.cells cells 4 (0, 0)) := Kd.R_typed h.seen gs rfl
/-- a block is marked -/
theorem VSt.mark {W0 : World} {Bs Bg Bv Bo gs n cs : Nat} {A : Option Addr} {c : Nat} {g : List S62} {s : List Bool × List Int} {W : World} (h : VSt W0 Bs Bg Bv Bo gs n cs A c g s W) (i : Int) (h0 : 0 ≤ i) (h1 : i < s.1.length) :
  W.cell? ⟨gs, i.toNat, none⟩ = some (.bool (rdOf false s.1 i)) ∧ W.frozen? ⟨gs, i.toNat, none⟩ = false ∧ VSt W0 Bs Bg Bv Bo gs n cs A c g (s.1.set i.toNat true, s.2) (W.setCell ⟨gs, i.toNat, none⟩ (.bool true)) := by
 obtain ⟨a1, a2⟩ := Kd.R_celln false h.seen i h0 (by have := h.len; omega)
 obtain ⟨cells, hgs⟩ := h.blk
 obtain ⟨vo, ho1, ho2⟩ := h.bo
 have hn : ∀ (b : Nat) (cs : Array Value) (t : TypeId), W.heap[b]? = some (.cells cs t (0, 0)) → t ≠ 4 → (W.setCell ⟨gs, i.toNat, none⟩ (.bool true)).heap[b]? = some (.cells cs t (0, 0)) := fun b cs t hb ht => blk_far hb (blk_ne hb hgs ht) _
 exact ⟨a1, a2, hn _ _ _ h.bs (by decide), hn _ _ _ h.bg (by decide), hn _ _ _ h.bv (by decide), ⟨vo, hn _ _ _ ho1 (by decide), Kd.R_set ho2 hgs (by decide) _ _⟩, h.bob, Kd.R_putn h.seen i true, h.rg, h.rc, below_set h.bel (Kd.R_base h.seen gs rfl)⟩
/-- the block in which the list of what is done lies -/
def outB (Bo : Nat) (W : World) : Option Nat := match W.heap[Bo]? with
 | some (.cells cs _ _) => (cs.getD 0 undef).ownBlock
 | _ => none
theorem outB_of {Bo : Nat} {W : World} {vo : Value} (h : W.heap[Bo]? = some (.cells #[vo] 22 (0, 0))) : outB Bo W = vo.ownBlock := by unfold outB; rw [h]; rfl
theorem outB_same {Bo : Nat} {W W' : World} (h : W'.heap[Bo]? = W.heap[Bo]?) : outB Bo W' = outB Bo W := by unfold outB; rw [h]
/-- a search changes the marks and its list, and makes new blocks -/
structure Fr (gs Bo : Nat) (W W' : World) : Prop where
 size : W.heap.size ≤ W'.heap.size
 same : ∀ b, b < W.heap.size → b ≠ gs → b ≠ Bo → outB Bo W ≠ some b → W'.heap[b]? = W.heap[b]?
 at_ : outB Bo W' = outB Bo W ∨ ∃ b, W.heap.size ≤ b ∧ outB Bo W' = some b
theorem Fr.refl (gs Bo : Nat) (W : World) : Fr gs Bo W W := ⟨Nat.le_refl _, fun _ _ _ _ _ => rfl, .inl rfl⟩
theorem Fr.trans {gs Bo : Nat} {W W1 W2 : World} (h : Fr gs Bo W W1) (k : Fr gs Bo W1 W2) : Fr gs Bo W W2 := by
 refine ⟨Nat.le_trans h.size k.size, fun b h1 h2 h3 h4 => ?_, ?_⟩
 ·
  rw [k.same b (Nat.lt_of_lt_of_le h1 h.size) h2 h3 ?_, h.same b h1 h2 h3 h4]
  rcases h.at_ with e | ⟨b', hb', e⟩
  ·
   rw [e]; exact h4
  ·
   rw [e]; intro e2; injection e2 with e2; omega
 ·
  rcases k.at_ with e | ⟨b', hb', e⟩
  ·
   rcases h.at_ with e1 | ⟨b1, hb1, e1⟩
   ·
    exact .inl (e.trans e1)
   ·
    exact .inr ⟨b1, hb1, e.trans e1⟩
  ·
   exact .inr ⟨b', Nat.le_trans h.size hb', e⟩
theorem Fr.below {gs Bo : Nat} {W W1 : World} (hb : Below W.heap.size W W1) (hB : Bo < W.heap.size) : Fr gs Bo W W1 :=
 ⟨hb.size, fun b h _ _ _ => hb.block b h, .inl (outB_same (hb.block Bo hB))⟩
theorem VSt.bolt {W0 : World} {Bs Bg Bv Bo gs n cs : Nat} {A : Option Addr} {c : Nat} {g : List S62} {s : List Bool × List Int} {W : World} (h : VSt W0 Bs Bg Bv Bo gs n cs A c g s W) : Bo < W.heap.size := by obtain ⟨vo, h1, _⟩ := h.bo; exact blk_lt h1
theorem VSt.outlt {W0 : World} {Bs Bg Bv Bo gs n cs : Nat} {A : Option Addr} {c : Nat} {g : List S62} {s : List Bool × List Int} {W : World} (h : VSt W0 Bs Bg Bv Bo gs n cs A c g s W) (b : Nat) (hb : outB Bo W = some b) : b < W.heap.size := by
 obtain ⟨vo, h1, h2⟩ := h.bo
 rw [outB_of h1] at hb
 exact Kd.R_lt h2 b hb
theorem VSt.gslt {W0 : World} {Bs Bg Bv Bo gs n cs : Nat} {A : Option Addr} {c : Nat} {g : List S62} {s : List Bool × List Int} {W : World} (h : VSt W0 Bs Bg Bv Bo gs n cs A c g s W) : gs < W.heap.size := by obtain ⟨cells, h1⟩ := h.blk; exact blk_lt h1
theorem VSt.markFr {W0 : World} {Bs Bg Bv Bo gs n cs : Nat} {A : Option Addr} {c : Nat} {g : List S62} {s : List Bool × List Int} {W : World} (h : VSt W0 Bs Bg Bv Bo gs n cs A c g s W) (j : Nat) (u : Value) : Fr gs Bo W (W.setCell ⟨gs, j, none⟩ u) := by
 obtain ⟨cells, hgs⟩ := h.blk
 obtain ⟨vo, ho1, _⟩ := h.bo
 have hne : Bo ≠ gs := blk_ne ho1 hgs (by decide)
 refine ⟨by simp [World.setCell], fun b _ hb _ _ => Below.heap_setCell W ⟨gs, j, none⟩ u b hb, .inl (outB_same (Below.heap_setCell W ⟨gs, j, none⟩ u Bo hne))⟩
/-- a block is done: it is appended to the list -/
theorem VSt.done {W0 : World} {Bs Bg Bv Bo gs n cs : Nat} {A : Option Addr} {c : Nat} {g : List S62} {s : List Bool × List Int} {W w1 : World} (h : VSt W0 Bs Bg Bv Bo gs n cs A c g s W) {vo v1 : Value} (hvo : W.heap[Bo]? = some (.cells #[vo] 22 (0, 0))) {x : Int}
  (hr : Kd.R (Kd.int .i64) 3 w1 W0.heap.size (fun _ => True) v1 (s.2 ++ [x])) (hb : Below W0.heap.size W0 w1) (hg : W.grownBy w1 vo.ownBlock) (hat : v1.ownBlock = vo.ownBlock ∨ ∃ b, v1.ownBlock = some b ∧ W.heap.size ≤ b) :
  w1.cell? ⟨Bo, 0, none⟩ = some vo ∧ w1.frozen? ⟨Bo, 0, none⟩ = false ∧ VSt W0 Bs Bg Bv Bo gs n cs A c g (s.1, s.2 ++ [x]) (w1.setCell ⟨Bo, 0, none⟩ v1) ∧ Fr gs Bo W (w1.setCell ⟨Bo, 0, none⟩ v1) := by
 obtain ⟨cells, hgs⟩ := h.blk
 obtain ⟨vo', ho1, ho2⟩ := h.bo
 obtain rfl : vo' = vo := by rw [ho1] at hvo; injection hvo with hvo; injection hvo with hvo; injection hvo with hvo; injection hvo with hvo
 have hbo1 : w1.heap[Bo]? = some (.cells #[vo'] 22 (0, 0)) := blk_grown ho1 hg (Kd.R_ne ho2 ho1 (by decide))
 have hgs1 : w1.heap[gs]? = some (.cells cells 4 (0, 0)) := blk_grown hgs hg (Kd.R_ne ho2 hgs (by decide))
 have hn : ∀ (b : Nat) (cs : Array Value) (t : TypeId), W.heap[b]? = some (.cells cs t (0, 0)) → t ≠ 22 → t ≠ 3 → (w1.setCell ⟨Bo, 0, none⟩ v1).heap[b]? = some (.cells cs t (0, 0)) := fun b cs t hb ht h3 =>
  blk_far (blk_grown hb hg (Kd.R_ne ho2 hb (fun e => h3 e.symm))) (blk_ne hb ho1 ht) _
 have hput : (w1.setCell ⟨Bo, 0, none⟩ v1).heap[Bo]? = some (.cells #[v1] 22 (0, 0)) := blk_put hbo1 0 v1 rfl
 refine ⟨(blk_cell hbo1 0).trans rfl, blk_frozen hbo1 0, ⟨hn _ _ _ h.bs (by decide) (by decide), hn _ _ _ h.bg (by decide) (by decide), hn _ _ _ h.bv (by decide) (by decide), ⟨v1, hput, Kd.R_set hr hbo1 (by decide) _ _⟩, h.bob, ?_, h.rg, h.rc, below_set hb h.bob⟩, ?_⟩
 ·
  exact Kd.R_set (Kd.R_over h.seen ho2 (by decide) hg) hbo1 (by decide) _ _
 ·
  refine ⟨by have := hg.size; simpa [World.setCell] using this, fun b hb1 hb2 hb3 hb4 => ?_, ?_⟩
  ·
   rw [outB_of ho1] at hb4
   exact (Below.heap_setCell w1 ⟨Bo, 0, none⟩ v1 b hb3).trans (hg.block b hb1 (fun e => hb4 e.symm))
  ·
   rw [outB_of hput, outB_of ho1]
   rcases hat with e | ⟨b, e, hb'⟩
   ·
    exact .inl e
   ·
    exact .inr ⟨b, hb', e⟩
end Go.Proofs.Ytaellapacoikaaa.PB
