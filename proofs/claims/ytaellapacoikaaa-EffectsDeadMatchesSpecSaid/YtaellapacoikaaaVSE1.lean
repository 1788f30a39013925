import Derived.Test.YtaellapacoikaaaVSAx12
namespace Go.Proofs.Ytaellapacoikaaa.PA
open Go.RowKit Go.Proofs.YtaellapacoikaaaW.PrintWords Go.Proofs.YtaellapacoikaaaW.PrintLast Go.Proofs.YtaellapacoikaaaW.PrintMore
set_option linter.unusedVariables false
set_option linter.unusedSimpArgs false
/-! ### The pure law: what is printed answers as the statement says -/
def sameE (k : Nat) (F : Int) (l : List Int) : Bool := match effects_Find.f k F l, linkhouseref7_Effect.f k F l with
  | some a, some b => a == b
  | _, _ => false
theorem sameE_spec {k : Nat} {F : Int} {l : List Int} (h : sameE k F l = true) : ∃ e, effects_Find.f k F l = some e ∧ linkhouseref7_Effect.f k F l = some e := by
  unfold sameE at h
  split at h
  · rename_i a b ha hb
    have : a = b := eq_of_beq h
    subst this
    exact ⟨_, ha, hb⟩
  · cases h
set_option maxRecDepth 100000 in
theorem added_ok : linkhouselaw7_added.f 700 = some true := by kernel_rfl
theorem all8 {n : Nat} {p : Nat → Bool} (h : (List.range n).all p = true) (a : Nat) (ha : a < n) : p a = true := List.all_eq_true.1 h a (List.mem_range.2 ha)
end Go.Proofs.Ytaellapacoikaaa.PA
