import Derived.Test.YtaellapacoikaaaV0
import Derived.Test.YtaellapacoikaaaVSAx0
import Derived.Test.YtaellapacoikaaaVSAx2
import Derived.Test.YtaellapacoikaaaVSAx3
import Derived.Test.YtaellapacoikaaaVSAx4
import Derived.Test.YtaellapacoikaaaVSAx6
namespace Go.Proofs.Ytaellapacoikaaa.PA
open Go.RowKit Go.Proofs.YtaellapacoikaaaW.PrintWords Go.Proofs.YtaellapacoikaaaW.PrintLast Go.Proofs.YtaellapacoikaaaW.PrintMore
attribute [local go_sem] max2_int min2_int max_two min_two max_three min_three max_four min_four   -- for this text's walks alone
set_option linter.unusedVariables false
set_option linter.unusedSimpArgs false

attribute [local go_sem high] eqA28
/-! ### effects_Of: function 11 -/
set_option maxRecDepth 100000 in
def effects_Of.f (k : Nat) (a0_0 : Int) (l0_1 : List Int) : Option (Int × Int × Int × Int × Int × Int × Bool × Bool × Int × Int) := (isa_Default.f).bind fun t187 => ((encode_Check.f k t187 a0_0 l0_1).bind fun bt190 => (if (!(bt190.1 == 0) || (!(bt190.2 == 0))) = true then (some (0, 0, 0, 0, 0, 0, false, false, bt190.1, bt190.2)) else ((effects_Find.f k a0_0 l0_1).bind fun bt193 => (some (bt193.1, bt193.2.1, bt193.2.2.1, bt193.2.2.2.1, bt193.2.2.2.2.1, bt193.2.2.2.2.2.1, bt193.2.2.2.2.2.2.1, bt193.2.2.2.2.2.2.2, bt190.1, bt190.2)))))
set_option maxRecDepth 100000 in
theorem effects_Of.mono : ∀ a0 a1 k, LeO (effects_Of.f k a0 a1) (effects_Of.f (k + 1) a0 a1) := by
  intro a0 a1 k
  unfold effects_Of.f
  repeat' first
      | (with_reducible exact effects_Find.mono _ _ _)
      | (with_reducible exact encode_Check.mono _ _ _ _)
      | (with_reducible exact LeO.refl _)
      | (with_reducible exact LeO.none _)
      | (with_reducible refine LeO.ite ?_ ?_)
      | (with_reducible refine LeO.bind ?_ (fun _ => ?_))
      | exact effects_Find.mono _ _ _
      | exact encode_Check.mono _ _ _ _
      | exact LeO.none _
      | refine LeO.ite ?_ ?_
      | refine LeO.bind ?_ (fun _ => ?_)
end Go.Proofs.Ytaellapacoikaaa.PA
