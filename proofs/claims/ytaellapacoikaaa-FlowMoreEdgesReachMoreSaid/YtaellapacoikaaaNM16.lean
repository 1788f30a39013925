import Derived.Test.YtaellapacoikaaaNM9
namespace Go.Proofs.Ytaellapacoikaaa.PB
open Go.RowKit Go.Proofs.YtaellapacoikaaaW.PrintWords Go.Proofs.YtaellapacoikaaaW.PrintLast Go.Proofs.YtaellapacoikaaaW.PrintMore Dom
set_option linter.unusedVariables false
set_option linter.unusedSimpArgs false
/-! ### FlowMoreEdgesReachMore: the plain law -/
def addE (g : List S62) (p : Int) (e : S64) : List S62 := g.set p.toNat ⟨(rd_T62 g p).f0, (rd_T62 g p).f1, (rd_T62 g p).f2, (rd_T62 g p).f3 ++ [e]⟩
theorem addE_len (g : List S62) (p : Int) (e : S64) : (addE g p e).length = g.length := List.length_set ..
theorem addE_rd {g : List S62} {p : Int} (h0 : 0 ≤ p) (h1 : p < (g.length : Int)) (e : S64) {q : Int} (q0 : 0 ≤ q) (q1 : q < (g.length : Int)) :
    (rd_T62 (addE g p e) q).f3 = if q = p then (rd_T62 g p).f3 ++ [e] else (rd_T62 g q).f3 := by
  unfold addE
  generalize rd_T62 g p = b0
  unfold rd_T62
  rw [List.getD_eq_getElem?_getD, List.getElem?_set, List.getD_eq_getElem?_getD]
  by_cases c : q = p
  · rw [if_pos c, if_pos (by omega), if_pos (by omega)]; rfl
  · rw [if_neg c, if_neg (by omega)]
theorem addE_ed {g : List S62} {p : Int} (h0 : 0 ≤ p) (h1 : p < (g.length : Int)) (e : S64) {x y : Int} (h : Ed g x y) : Ed (addE g p e) x y := by
  refine ⟨h.1, by rw [addE_len]; exact h.2.1, ?_⟩
  obtain ⟨a, b, c, d⟩ := mem_inner.1 h.2.2
  refine mem_inner.2 ⟨a, b, ?_, d⟩
  rw [addE_rd h0 h1 e h.1 h.2.1]
  split
  · rename_i hx; rw [← hx]; exact List.mem_append_left _ c
  · exact c
theorem addE_rch {g : List S62} {p : Int} (h0 : 0 ≤ p) (h1 : p < (g.length : Int)) (e : S64) {w a x : Int} (h : Rch (Ed g) w a x) : Rch (Ed (addE g p e)) w a x := by
  induction h with
  | refl h => exact Rch.refl h
  | step _ e n ih => exact Rch.step ih (addE_ed h0 h1 _ e) n
theorem badE_code {n : Int} {e : S64} {c : Int} (h : badE n e = some c) : c = 3 ∨ c = 4 := by
  unfold badE at h
  split at h
  · injection h; omega
  · split at h
    · injection h; omega
    · cases h
theorem chkE_code {n i : Int} : ∀ {es : List S64} {f : Int × Int}, chkE n i es = some f → f.1 = 3 ∨ f.1 = 4
  | [], f, h => by cases h
  | e :: es, f, h => by
    rw [chkE] at h
    split at h
    · rename_i c hc
      injection h with h
      rw [← h]
      exact badE_code hc
    · exact chkE_code h
theorem chkG_code {n : Int} : ∀ {bs : List S62} {x i : Int}, (chkG n x i bs).1 = 0 ∨ (chkG n x i bs).1 = 2 ∨ (chkG n x i bs).1 = 3 ∨ (chkG n x i bs).1 = 4
  | [], x, i => .inl rfl
  | b :: bs, x, i => by
    rw [chkG]
    split
    · exact .inr (.inl rfl)
    · split
      · rename_i f hf; exact .inr (.inr (chkE_code hf))
      · exact chkG_code
theorem chkR_code {g : List S62} {a : Int} (h : (chkR g a).1 ≠ 0) : (chkR g a).1 = 2 ∨ (chkR g a).1 = 3 ∨ (chkR g a).1 = 4 := by
  unfold chkR at h ⊢
  split
  · split
    · rename_i h1 h2; rw [if_pos h1, if_pos h2] at h; exact absurd rfl h
    · exact .inr (.inl rfl)
  · rename_i h1
    unfold vres at h1 ⊢
    split
    · exact .inl rfl
    · rename_i h2
      rw [if_neg h2] at h1
      exact (chkG_code (n := (g.length : Int)) (bs := g) (x := 0) (i := 0)).resolve_left h1
/-- how Reachable answers -/
theorem reach_ans {g : List S62} (F : Fit g) (a : Int) : ∃ k l c i, flow_Reachable.f k g a = some (l, c, i) ∧ c = (chkR g a).1 ∧ (c = 0 → Rs g (-1) a l) := by
  by_cases hz : (chkR g a).1 = 0
  · obtain ⟨G, h0, h1⟩ := chkR_zero.1 hz
    obtain ⟨r, hr, R⟩ := reach_f G h0 h1 (-1)
    have hC := chk_f G.fit a
    rw [chkR_ok ⟨G, h0, h1⟩] at hC
    have hev : Ev (fun k => flow_Reachable.f k g a) (r, 0, 0) := by
      refine Ev.bind (g := fun k => flow_check.f k g a) hC ?_
      refine Ev.congr (fun k => ?_) (Ev.bind (f := fun _ t => some (t, (0 : Int), (0 : Int))) hr (Ev.now _))
      rw [if_neg zz_]
    obtain ⟨k, hk⟩ := hev.rounds
    exact ⟨k, r, 0, 0, hk, hz.symm, fun _ => R⟩
  · have hev : Ev (fun k => flow_Reachable.f k g a) ([], (chkR g a).1, (chkR g a).2) := by
      refine Ev.bind (g := fun k => flow_check.f k g a) (chk_f F a) ?_
      refine Ev.congr (fun k => ?_) (Ev.now _)
      rw [if_pos (by simp; exact .inl hz)]
    obtain ⟨k, hk⟩ := hev.rounds
    exact ⟨k, [], _, _, hk, rfl, fun h => absurd h hz⟩
theorem addE_fit {g : List S62} (G : GV g) {p : Int} (h0 : 0 ≤ p) (h1 : p < (g.length : Int)) (e : S64) : Fit (addE g p e) := by
  refine ⟨by rw [addE_len]; have := G.len; omega, fun b hb => ?_⟩
  unfold addE at hb
  rcases List.mem_or_eq_of_mem_set hb with hb | hb
  · exact G.fit.few b hb
  · rw [hb]
    have := edgs_le (rd62_mem h0 h1)
    have := G.few
    show (_ ++ [e]).length ≤ _
    rw [List.length_append, List.length_singleton]
    omega
end Go.Proofs.Ytaellapacoikaaa.PB
