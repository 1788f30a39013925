import Derived.Test.YtaellapacoikaaaVSAx7p
import Derived.Test.YtaellapacoikaaaVSAx7n
namespace Go.Proofs.Ytaellapacoikaaa.PA
open Go.RowKit Go.Proofs.YtaellapacoikaaaW.PrintWords Go.Proofs.YtaellapacoikaaaW.PrintLast Go.Proofs.YtaellapacoikaaaW.PrintMore
attribute [local go_sem] max2_int min2_int max_two min_two max_three min_three max_four min_four   -- for this text's walks alone
set_option linter.unusedVariables false
set_option linter.unusedSimpArgs false

attribute [local go_sem high] eqA28
set_option maxRecDepth 100000 in
theorem effects_Of.calls (k : Nat) (a0_0 : Int) (A0_1 : Option Addr) (c0_1 : Nat) (l0_1 : List Int) (r1 : Int) (r2 : Int) (r3 : Int) (r4 : Int) (r5 : Int) (r6 : Int) (r7 : Bool) (r8 : Bool) (r9 : Int) (r10 : Int) (w : World) (hr0_1 : Kd.C (Kd.int .i64) w A0_1 l0_1.length l0_1) (hc0_1 : l0_1.length ≤ c0_1) (h : effects_Of.f k a0_0 l0_1 = some (r1, r2, r3, r4, r5, r6, r7, r8, r9, r10)) :
    Calls Try.prog 11 #[.agg #[.int .i64 a0_0, .slice A0_1 l0_1.length c0_1]] w fun e w' => e = .returned (.tuple #[.agg #[.int .i64 r1, .int .i64 r2, .int .i64 r3, .int .i64 r4, .int .i64 r5, .int .i64 r6, .bool r7, .bool r8], .agg #[.int .i64 r9, .int .i64 r10]]) ∧ Below w.heap.size w w' := by
  have HR0_1 := Aside0.mk hr0_1
  have HC0_1 := Aside0.mk hc0_1
  clear hr0_1 hc0_1
  have H : ((isa_Default.f).bind fun t187 => ((encode_Check.f k t187 a0_0 l0_1).bind fun bt190 => (if (!(bt190.1 == 0) || (!(bt190.2 == 0))) = true then (some (0, 0, 0, 0, 0, 0, false, false, bt190.1, bt190.2)) else ((effects_Find.f k a0_0 l0_1).bind fun bt193 => (some (bt193.1, bt193.2.1, bt193.2.2.1, bt193.2.2.2.1, bt193.2.2.2.2.1, bt193.2.2.2.2.2.1, bt193.2.2.2.2.2.2.1, bt193.2.2.2.2.2.2.2, bt190.1, bt190.2)))))) = some (r1, r2, r3, r4, r5, r6, r7, r8, r9, r10) := h
  clear h
  replace H := Option.bind_eq_some_iff.mp H
  obtain ⟨t187, A20, H⟩ := H
  replace H : ((encode_Check.f k t187 a0_0 l0_1).bind fun bt190 => (if (!(bt190.1 == 0) || (!(bt190.2 == 0))) = true then (some (0, 0, 0, 0, 0, 0, false, false, bt190.1, bt190.2)) else ((effects_Find.f k a0_0 l0_1).bind fun bt193 => (some (bt193.1, bt193.2.1, bt193.2.2.1, bt193.2.2.2.1, bt193.2.2.2.2.1, bt193.2.2.2.2.2.1, bt193.2.2.2.2.2.2.1, bt193.2.2.2.2.2.2.2, bt190.1, bt190.2))))) = some (r1, r2, r3, r4, r5, r6, r7, r8, r9, r10) := H
  have A2 := Aside0.mk A20
  clear A20
  replace H := Option.bind_eq_some_iff.mp H
  obtain ⟨⟨t190, t191⟩, A30, H⟩ := H
  replace H : (if (!(t190 == 0) || (!(t191 == 0))) = true then (some (0, 0, 0, 0, 0, 0, false, false, t190, t191)) else ((effects_Find.f k a0_0 l0_1).bind fun bt193 => (some (bt193.1, bt193.2.1, bt193.2.2.1, bt193.2.2.2.1, bt193.2.2.2.2.1, bt193.2.2.2.2.2.1, bt193.2.2.2.2.2.2.1, bt193.2.2.2.2.2.2.2, t190, t191)))) = some (r1, r2, r3, r4, r5, r6, r7, r8, r9, r10) := H
  have A3 := Aside0.mk A30
  clear A30
  by_cases c4 : (!(t190 == 0) || (!(t191 == 0))) = true
  · exact effects_Of.calls_p k a0_0 A0_1 c0_1 l0_1 r1 r2 r3 r4 r5 r6 r7 r8 r9 r10 w _ _ _ HR0_1 HC0_1 A2 A3 c4 H
  · exact effects_Of.calls_n k a0_0 A0_1 c0_1 l0_1 r1 r2 r3 r4 r5 r6 r7 r8 r9 r10 w _ _ _ HR0_1 HC0_1 A2 A3 c4 H
end Go.Proofs.Ytaellapacoikaaa.PA
