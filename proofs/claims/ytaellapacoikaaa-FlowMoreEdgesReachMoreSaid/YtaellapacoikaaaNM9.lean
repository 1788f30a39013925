import Derived.Test.YtaellapacoikaaaNM8
namespace Go.Proofs.Ytaellapacoikaaa.PB
open Go.RowKit Go.Proofs.YtaellapacoikaaaW.PrintWords Go.Proofs.YtaellapacoikaaaW.PrintLast Go.Proofs.YtaellapacoikaaaW.PrintMore Dom
set_option linter.unusedVariables false
set_option linter.unusedSimpArgs false
set_option maxRecDepth 100000 in
theorem crossed_k : linkhouselaw7_crossed.f 60 = some true := by kernel_rfl
theorem crossed_ev : Ev (fun k => linkhouselaw7_crossed.f k) true := Ev.of (fun k => linkhouselaw7_crossed.mono k) crossed_k
/-! ### FlowMatchesSpec -/
theorem matches_pure {g : List S62} (F : Fit g) (a : Int) : ∃ k, linkhouselaw7_FlowMatchesSpec.f k g a = some true := by
  refine Ev.rounds (g := fun k => linkhouselaw7_FlowMatchesSpec.f k g a) ?_
  have hC := chk_f F a
  by_cases hz : (chkR g a).1 = 0
  · obtain ⟨G, h0, h1⟩ := chkR_zero.1 hz
    rw [chkR_ok ⟨G, h0, h1⟩] at hC
    obtain ⟨r, hr, R⟩ := reach_f G h0 h1 (-1)
    obtain ⟨s, hs, S⟩ := reached_f G h0 h1 (-1)
    obtain rfl : r = s := R.eq S
    have hreach : Ev (fun k => flow_Reachable.f k g a) (r, 0, 0) := by
      refine Ev.bind (g := fun k => flow_check.f k g a) hC ?_
      refine Ev.congr (fun k => ?_) (Ev.bind (f := fun _ t => some (t, (0 : Int), (0 : Int))) hr (Ev.now _))
      rw [if_neg zz_]
    have hfrom := from_f F a
    rw [chkR_ok ⟨G, h0, h1⟩] at hfrom
    refine Ev.bind hreach (Ev.bind (val_f F) (Ev.bind (gf_f F) ?_))
    refine Ev.congr (fun k => by rw [if_neg (by simp)]) (Ev.bind hfrom ?_)
    refine Ev.congr (fun k => by rw [if_pos rfl, if_pos rfl]) (Ev.bind hs (Ev.bind (sameB_f r (by rw [R.len]; have := G.len; omega)) ?_))
    exact Ev.congr (fun k => by rw [if_pos rfl]) (Ev.bind (f := fun _ t => some t) crossed_ev (Ev.now true))
  · have hreach : Ev (fun k => flow_Reachable.f k g a) ([], (chkR g a).1, (chkR g a).2) := by
      refine Ev.bind (g := fun k => flow_check.f k g a) hC ?_
      refine Ev.congr (fun k => ?_) (Ev.now _)
      rw [if_pos (by simp; exact .inl hz)]
    refine Ev.bind hreach (Ev.bind (val_f F) (Ev.bind (gf_f F) ?_))
    refine Ev.congr (fun k => by rw [if_neg (by simp)]) (Ev.bind (from_f F a) ?_)
    refine Ev.congr (fun k => by rw [if_neg hz, if_pos (by simp), if_pos (by simp)]) (Ev.bind (f := fun _ t => some t) crossed_ev (Ev.now true))
end Go.Proofs.Ytaellapacoikaaa.PB
