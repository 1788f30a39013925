import Derived.Test.YtaellapacoikaaaRows
import Derived.Test.YtaellapacoikaaaNSBx0
import Derived.Deep.Slices
import Derived.Deep.Fields
import Derived.ChangeSame
import Derived.WalkKit
import Derived.ProofKit
import Derived.OpenShut
import Derived.ShutString
import Derived.ChangeOld
import Derived.Below
import Derived.SizedLaws
import Derived.Lib.SmallJoins
namespace Go.Proofs.Ytaellapacoikaaa.PB
open Go.ChangeShapes Go.WideShapes Go.ChangeAt Go.RowKit Go.Joins Go.Deep
open Go.Proofs.YtaellapacoikaaaW.PrintWords
set_option linter.unusedVariables false
/-! ### an argument that is a list of blocks, opened -/
section
variable {H : Type} {enc : TypeId × Value → H} {P : Program} {w : World} {base : Nat} {spare : Nat → Bool} {held : Bool}
theorem open_slice_fields {t e : TypeId} {fs : Array Field} {fuel : Nat} {cs : List Value} {x : DataW H × List MemPlace} (ht : P.underlying t = some (.slice e)) (he : P.underlying e = some (.struct fs))
    (hone : oneCellFields P fs = true) (hC : P.cellsOf e = fs.size) (h : DataW.trod enc P w base spare held fuel t cs = some x) :
    (cs = [.slice none 0 0] ∧ x = (.nil, [])) ∨
    ∃ (a : Addr) (len cap m : Nat) (D : Nat → DataW H) (Pl : Nat → List MemPlace), cs = [.slice (some a) len cap] ∧ base ≤ a.block ∧ len ≤ cap ∧ cap ≤ maxLen ∧ m = (if spare a.block then cap else len) ∧
      x = (.slice ((List.range len).map D) ((List.range (m - len)).map fun j => D (len + j)), MemPlace.row a (m * fs.size) ++ (List.range m).flatMap Pl) ∧
      ∀ i, i < m → ∃ (ys : List (DataW H × List MemPlace)) (n : Nat), D i = .agg (ys.map (·.1)) ∧ Pl i = ys.flatMap (·.2) ∧ ys.length = fs.size ∧
        ∀ (j : Nat) (f : Field), fs[j]? = some f → ∃ (v : Value) (y : DataW H × List MemPlace), w.cell? (a.add (i * fs.size + j)) = some v ∧ ys[j]? = some y ∧ DataW.trod enc P w base spare held n f.type [v] = some y := by
  rcases open_slice ht h with h0 | ⟨a, len, cap, m, n, D, Pl, hcs, hb, hl, hm, hmm, hx, hi⟩
  · exact .inl h0
  · refine .inr ⟨a, len, cap, m, D, Pl, hcs, hb, hl, hm, hmm, by rw [hC] at hx; exact hx, fun i him => ?_⟩
    obtain ⟨cs', hc, ht'⟩ := hi i him
    rw [hC] at hc
    obtain ⟨ys, n', hn', hy, hlen, hyl, hf⟩ := DataW.trod_struct he ht'
    obtain ⟨_, hcl, hat⟩ := World.cells?_some hc
    simp only [Prod.mk.injEq] at hy
    refine ⟨ys, n', hy.1, hy.2, hyl, fun j f hj => ?_⟩
    obtain ⟨ho, hk⟩ := hone_of hone j f hj
    have hjl : j < fs.size := (Array.getElem?_eq_some_iff.1 hj).1
    have hcell := hat j hjl
    have hv : cs'[j]? = some (cs'[j]'(by omega)) := List.getElem?_eq_getElem (by omega)
    have h1 := hf j f hj
    rw [ho, hk] at h1
    have hone' : (cs'.drop j).take 1 = [cs'[j]'(by omega)] := by
      rw [List.drop_eq_getElem_cons (by omega)]
      rfl
    rw [hone'] at h1
    have hys : ys[j]? = some (ys[j]'(by omega)) := List.getElem?_eq_getElem (by omega)
    refine ⟨_, _, ?_, hys, h1.trans hys⟩
    rw [← Go.Deep.add_add, hcell, hv]
end
section
variable {H : Type} {enc : TypeId × Value → H} {W : World} {base : Nat} {spare : Nat → Bool} {held : Bool}
/-- cells that are read at every place make a row -/
theorem row_of {α : Type} (d : Kd α) {W : World} {a : Addr} {n : Nat} (hn : n ≤ 9223372036854775807) (h : ∀ i, i < n → ∃ (x : α) (c : List Value), d.K W x c ∧ ∀ j u, c[j]? = some u → W.cell? (a.add (i * d.sz + j)) = some u) :
    ∃ l : List α, l.length = n ∧ d.C W (some a) n l ∧ ∀ i, ∀ hi : i < l.length, ∃ c : List Value, d.K W l[i] c := by
  have pick : ∃ l : List α, l.length = n ∧ ∀ j p, l[j]? = some p → ∃ c : List Value, c.length = d.sz ∧ d.K W p c ∧ ∀ i u, c[i]? = some u → W.cell? (a.add (j * d.sz + i)) = some u := by
    clear hn
    induction n with
    | zero => exact ⟨[], rfl, fun j p h => by cases h⟩
    | succ n ih =>
      obtain ⟨l, hl, hp⟩ := ih (fun i hi => h i (by omega))
      obtain ⟨x, c, hK, hc⟩ := h n (by omega)
      refine ⟨l ++ [x], by simp [hl], fun j p hj => ?_⟩
      by_cases e : j < l.length
      · rw [List.getElem?_append_left e] at hj; exact hp j p hj
      · rw [List.getElem?_append_right (by omega)] at hj
        have e2 : j - l.length = 0 := by
          by_cases e3 : j - l.length = 0
          · exact e3
          · rw [List.getElem?_eq_none (by simp; omega)] at hj; cases hj
        rw [e2] at hj
        injection hj with hj
        subst hj
        have e4 : j = n := by omega
        subst e4
        exact ⟨c, d.K_len hK, hK, hc⟩
  obtain ⟨l, hl, hp⟩ := pick
  refine ⟨l, hl, ⟨hl, hn, fun _ => ⟨a, rfl, hp⟩⟩, fun i hi => ?_⟩
  obtain ⟨c, _, hK, _⟩ := hp i _ (List.getElem?_eq_getElem hi)
  exact ⟨c, hK⟩
theorem open_int {n : Nat} {v : Value} {y : DataW H × List MemPlace} (h : DataW.trod enc Try.prog W base spare held n 3 [v] = some y) : ∃ a : Int, v = .int .i64 a := by
  obtain ⟨a, ha, _, _⟩ := DataW.trod_int (k := .i64) Try.underlying3 h
  exact ⟨a, by simpa using ha⟩
theorem mem_all {H : Type} {P : Program} {e : TypeId} {d : DataW H} : ∀ {l : List (DataW H)}, d ∈ l → ∀ n ∈ d.weights P e, n ∈ DataW.weightsAll P e l
  | a :: l, h, n, hn => by
    simp only [DataW.weightsAll, List.mem_append]
    rcases List.mem_cons.1 h with rfl | h
    · exact .inl hn
    · exact .inr (mem_all h n hn)
theorem weigh {H : Type} {P : Program} {t e : TypeId} {elems spare : List (DataW H)} (ht : P.underlying t = some (.slice e)) (h : ∀ n ∈ (DataW.slice elems spare).weights P t, n ≤ reachBytes) :
    (elems.length + spare.length) * P.bytesOf e ≤ reachBytes ∧ ∀ d ∈ elems, ∀ n ∈ d.weights P e, n ≤ reachBytes := by
  simp only [DataW.weights, ht, List.mem_cons, List.mem_append] at h
  exact ⟨h _ (.inl rfl), fun d hd n hn => h n (.inr (.inl (mem_all hd n hn)))⟩
/-- a list of edges -/
theorem open_edges {n : Nat} {v : Value} {y : DataW H × List MemPlace} (h : DataW.trod enc Try.prog W base spare held n 60 [v] = some y) (hw : ∀ n ∈ y.1.weights Try.prog 60, n ≤ reachBytes) :
    ∃ (A : Option Addr) (c : Nat) (z : List S64), v = .slice A z.length c ∧ z.length ≤ c ∧ Kd.C k64 W A z.length z ∧ z.length ≤ 140737488355328 := by
  rcases open_slice_fields Try.underlying60 Try.underlying64 (by kernel_rfl) (by kernel_rfl) h with ⟨hcs, _⟩ | ⟨a, len, cap, m, D, Pl, hcs, _, hl, hm, hmm, hx, hi⟩
  · simp at hcs
    exact ⟨none, 0, [], hcs, Nat.le_refl _, ⟨rfl, by simp, fun h => absurd h (by simp)⟩, by simp⟩
  · simp at hcs
    have hle : len ≤ m := by rw [hmm]; split <;> omega
    unfold maxLen at hm
    rw [hx] at hw
    obtain ⟨hw1, _⟩ := weigh Try.underlying60 hw
    rw [show Try.prog.bytesOf 64 = 16 from by kernel_rfl, List.length_map, List.length_range] at hw1
    unfold reachBytes at hw1
    obtain ⟨z, hz, hC, _⟩ := row_of k64 (W := W) (a := a) (n := len) (by omega) (fun i hlt => by
      obtain ⟨ys, n', _, _, _, hf⟩ := hi i (by omega)
      obtain ⟨v0, y0, c0, _, t0⟩ := hf 0 _ rfl
      obtain ⟨v1, y1, c1, _, t1⟩ := hf 1 _ rfl
      obtain ⟨a0, rfl⟩ := open_int t0
      obtain ⟨a1, rfl⟩ := open_int t1
      refine ⟨⟨a0, a1⟩, _, k64_mk W ⟨a0, a1⟩, fun j u hj => ?_⟩
      match j, hj with
      | 0, hj => injection hj with hj; subst hj; exact c0
      | 1, hj => injection hj with hj; subst hj; exact c1
      | j + 2, hj => simp at hj)
    exact ⟨some a, cap, z, by rw [hz]; exact hcs, by omega, by rw [hz]; exact hC, by omega⟩
/-- a list of blocks -/
theorem open_blocks {n : Nat} {v : Value} {y : DataW H × List MemPlace} (h : DataW.trod enc Try.prog W base spare held n 42 [v] = some y) (hw : ∀ n ∈ y.1.weights Try.prog 42, n ≤ reachBytes) :
    ∃ (A : Option Addr) (c : Nat) (z : List S62), v = .slice A z.length c ∧ z.length ≤ c ∧ Kd.C k62 W A z.length z ∧ z.length ≤ 140737488355328 ∧ ∀ b ∈ z, b.f3.length ≤ 140737488355328 := by
  rcases open_slice_fields Try.underlying42 Try.underlying62 (by kernel_rfl) (by kernel_rfl) h with ⟨hcs, _⟩ | ⟨a, len, cap, m, D, Pl, hcs, _, hl, hm, hmm, hx, hi⟩
  · simp at hcs
    exact ⟨none, 0, [], hcs, Nat.le_refl _, ⟨rfl, by simp, fun h => absurd h (by simp)⟩, by simp, by simp⟩
  · simp at hcs
    have hle : len ≤ m := by rw [hmm]; split <;> omega
    unfold maxLen at hm
    rw [hx] at hw
    obtain ⟨hw1, hw2⟩ := weigh Try.underlying42 hw
    rw [show Try.prog.bytesOf 62 = 48 from by kernel_rfl, List.length_map, List.length_range] at hw1
    unfold reachBytes at hw1
    have elem : ∀ i, i < len → ∃ (x : S62) (c : List Value), (k62.K W x c ∧ x.f3.length ≤ 140737488355328) ∧ ∀ j u, c[j]? = some u → W.cell? (a.add (i * k62.sz + j)) = some u := fun i hlt => by
      obtain ⟨ys, n', hD, _, _, hf⟩ := hi i (by omega)
      obtain ⟨v0, y0, c0, _, t0⟩ := hf 0 _ rfl
      obtain ⟨v1, y1, c1, _, t1⟩ := hf 1 _ rfl
      obtain ⟨v2, y2, c2, _, t2⟩ := hf 2 _ rfl
      obtain ⟨v3, y3, c3, g3, t3⟩ := hf 3 _ rfl
      have hw3 : ∀ n ∈ y3.1.weights Try.prog 60, n ≤ reachBytes := fun n hn => by
        refine hw2 (D i) (List.mem_map.2 ⟨i, List.mem_range.2 hlt, rfl⟩) n ?_
        rw [hD, DataW.weights, Try.underlying62]
        exact DataW.weights_mem_each (j := 3) (t := 60) (d := y3.1) rfl (by rw [List.getElem?_map, g3]; rfl) n hn
      obtain ⟨a0, rfl⟩ := open_int t0
      obtain ⟨a1, rfl⟩ := open_int t1
      obtain ⟨a2, rfl⟩ := open_int t2
      obtain ⟨A, c, z, rfl, hc, hC, hz⟩ := open_edges t3 hw3
      refine ⟨⟨a0, a1, a2, z⟩, _, ⟨k62_mk W ⟨a0, a1, a2, z⟩ hc hC, hz⟩, fun j u hj => ?_⟩
      match j, hj with
      | 0, hj => injection hj with hj; subst hj; exact c0
      | 1, hj => injection hj with hj; subst hj; exact c1
      | 2, hj => injection hj with hj; subst hj; exact c2
      | 3, hj => injection hj with hj; subst hj; exact c3
      | j + 4, hj => simp at hj
    let d : Kd S62 := k62
    obtain ⟨z, hz, hp⟩ : ∃ l : List S62, l.length = len ∧ ∀ j p, l[j]? = some p → ∃ c : List Value, (k62.K W p c ∧ p.f3.length ≤ 140737488355328) ∧ ∀ i u, c[i]? = some u → W.cell? (a.add (j * k62.sz + i)) = some u := by
      have gen : ∀ n, n ≤ len → ∃ l : List S62, l.length = n ∧ ∀ j p, l[j]? = some p → ∃ c : List Value, (k62.K W p c ∧ p.f3.length ≤ 140737488355328) ∧ ∀ i u, c[i]? = some u → W.cell? (a.add (j * k62.sz + i)) = some u := by
        intro n
        induction n with
        | zero => intro _; exact ⟨[], rfl, fun j p h => by cases h⟩
        | succ n ih =>
          intro hn
          obtain ⟨l, hl, hp⟩ := ih (by omega)
          obtain ⟨x, c, hK, hc⟩ := elem n (by omega)
          refine ⟨l ++ [x], by simp [hl], fun j p hj => ?_⟩
          by_cases e : j < l.length
          · rw [List.getElem?_append_left e] at hj; exact hp j p hj
          · rw [List.getElem?_append_right (by omega)] at hj
            have e2 : j - l.length = 0 := by
              by_cases e3 : j - l.length = 0
              · exact e3
              · rw [List.getElem?_eq_none (by simp; omega)] at hj; cases hj
            rw [e2] at hj
            injection hj with hj
            subst hj
            have e4 : j = n := by omega
            subst e4
            exact ⟨c, hK, hc⟩
      exact gen len (Nat.le_refl _)
    refine ⟨some a, cap, z, by rw [hz]; exact hcs, by omega, ⟨rfl, by omega, fun _ => ⟨a, rfl, fun j p hj => ?_⟩⟩, by omega, fun b hb => ?_⟩
    · obtain ⟨c, hK, hc⟩ := hp j p hj
      exact ⟨c, k62.K_len hK.1, hK.1, hc⟩
    · obtain ⟨i, hi, rfl⟩ := List.mem_iff_getElem.1 hb
      obtain ⟨c, hK, _⟩ := hp i _ (List.getElem?_eq_getElem hi)
      exact hK.2
end
end Go.Proofs.Ytaellapacoikaaa.PB
