import Derived.Test.YtaellapacoikaaaVSE2
import Derived.Test.YtaellapacoikaaaVSAx14
namespace Go.Proofs.Ytaellapacoikaaa.PA
open Go.RowKit Go.Proofs.YtaellapacoikaaaW.PrintWords Go.Proofs.YtaellapacoikaaaW.PrintLast Go.Proofs.YtaellapacoikaaaW.PrintMore
set_option linter.unusedVariables false
set_option linter.unusedSimpArgs false
/-! ### The pure law of Dead -/
set_option maxRecDepth 100000 in
theorem added_ok2 : linkhouselaw7_added.f 700 = some true := by kernel_rfl
/-- how execution goes on, told twice -/
def okFl (m : Nat) : Bool := match isa_Flow.f 701 (m : Int), linkhouseref7_Flow.f 700 (m : Int) with
  | some (a, b, c), some t => a == t && b == 0 && c == 0
  | _, _ => false
set_option maxRecDepth 100000 in
theorem okFl_all : (List.range 59).all okFl = true := by kernel_rfl
theorem flow_pair (m : Nat) (hm : m < 59) : ∃ t, isa_Flow.f 701 (m : Int) = some (t, 0, 0) ∧ linkhouseref7_Flow.f 700 (m : Int) = some t := by
  have h := all8 okFl_all m hm
  unfold okFl at h
  split at h
  · rename_i a b c t h1 h2
    simp only [Bool.and_eq_true, beq_iff_eq] at h
    obtain ⟨⟨rfl, rfl⟩, rfl⟩ := h
    exact ⟨_, h1, h2⟩
  · cases h
set_option maxRecDepth 100000 in
theorem nop_find : effects_Find.f 700 1 [] = some (0, 0, 0, 0, 0, 0, false, false) := by kernel_rfl
set_option maxRecDepth 100000 in
theorem nop_flow : isa_Flow.f 701 1 = some (1, 0, 0) := by kernel_rfl
theorem and_zero (x : Int) : Go.bits .and .i64 0 x = 0 := by
  have h : Go.bits .and .i64 0 x = IntKind.wrap .i64 (((0#64 &&& BitVec.ofInt 64 x : BitVec 64).toNat : Nat) : Int) := rfl
  rw [h, BitVec.zero_and]
  rfl
set_option maxRecDepth 100000 in
theorem dead_valid (F : Int) (l : List Int) (b0 b1 b2 b3 : Int) (e : Int × Int × Int × Int × Int × Int × Bool × Bool) (hF : 0 ≤ F ∧ F < 59) (hl : F = 1 → l = [])
    (h5 : effects_Find.f 700 F l = some e) (h6 : linkhouseref7_Effect.f 700 F l = some e) (k : Nat) :
    ∃ d, effects_simple.f 701 F l = some d ∧ linkhouseref7_Dead.f 700 F l b0 b1 b2 b3 = some (d && (Go.bits .and .i64 e.2.1 b1 == 0 && (Go.bits .and .i64 e.2.2.2.1 b2 == 0 && (Go.bits .and .i64 e.2.2.2.2.2.1 b3 == 0)))) := by
  obtain ⟨m, rfl⟩ := Int.eq_ofNat_of_zero_le hF.1
  obtain ⟨t, h7, h8⟩ := flow_pair m (by omega)
  have h5' := effects_Find.mono _ _ _ _ h5
  by_cases h1 : (m : Int) = 1
  · obtain rfl : m = 1 := by omega
    obtain rfl := hl rfl
    have he := h5.symm.trans nop_find
    injection he with he
    subst he
    have h7' := h7.symm.trans nop_flow
    refine ⟨true, ?_, ?_⟩
    · unfold effects_simple.f
      rw [h5', h7]
      injection h7' with h7'
      injection h7' with h7' _
      subst h7'
      simp
    · unfold linkhouseref7_Dead.f
      rw [h6]
      simp [and_zero]
  · unfold effects_simple.f linkhouseref7_Dead.f linkhouseref7_In.f
    rw [h5', h6]
    simp only [Option.bind_some, if_neg h1]
    rw [h7, h8]
    simp only [Option.bind_some]
    by_cases c1 : (6 : Int) ≤ m
    · rw [if_pos c1]
      simp only [Option.bind_some, decide_eq_true_eq, ge_iff_le]
      by_cases c2 : (m : Int) ≤ 53
      · rw [if_pos c2]
        by_cases c3 : (m : Int) = 13
        · rw [if_pos c3, if_pos c3]
          refine ⟨false, ?_, by simp⟩
          repeat' split
          all_goals rfl
        · rw [if_neg c3, if_neg c3]
          by_cases c4 : e.2.2.2.2.2.2.1 = true
          · rw [if_pos c4, if_pos c4]
            exact ⟨false, by split <;> rfl, by simp⟩
          · rw [if_neg c4, if_neg c4]
            by_cases c5 : e.2.2.2.2.2.2.2 = true
            · rw [if_pos c5, if_pos c5]
              exact ⟨false, by split <;> rfl, by simp⟩
            · rw [if_neg c5, if_neg c5]
              by_cases c6 : t = 1
              · rw [if_pos c6, if_pos c6]
                refine ⟨true, by simp [c2], ?_⟩
                by_cases c7 : Go.bits .and .i64 e.2.1 b1 = 0
                · rw [if_pos c7]
                  by_cases c8 : Go.bits .and .i64 e.2.2.2.1 b2 = 0
                  · rw [if_pos c8]; simp [c7, c8]
                  · rw [if_neg c8]; simp [c8]
                · rw [if_neg c7]; simp [c7]
              · rw [if_neg c6, if_neg c6]
                exact ⟨false, rfl, by simp⟩
      · rw [if_neg c2]
        refine ⟨false, ?_, by simp⟩
        simp [c1, c2]
    · rw [if_neg c1]
      simp only [Option.bind_some, Bool.false_eq_true, if_false, ge_iff_le, if_neg c1]
      refine ⟨false, ?_, by simp⟩
      simp
set_option maxRecDepth 100000 in
theorem in_range (F : Int) (l : List Int) (r : Int × Int) (h : linkhouseref7_InsFault.f 700 F l = some r) (h0 : r.1 = 0) : (0 ≤ F ∧ F < 59) ∧ (F = 1 → l = []) := by
  unfold linkhouseref7_InsFault.f linkhouseref7_In.f at h
  by_cases h1 : 0 ≤ F
  · rw [if_pos h1] at h
    by_cases h2 : F ≤ 58
    · refine ⟨⟨h1, by omega⟩, fun h3 => ?_⟩
      subst h3
      have hk : linkhouseref7_Kinds.f 700 1 = some ⟨#[]⟩ := by kernel_rfl
      rw [hk] at h
      simp only [Option.bind_some, h2, decide_true, if_true] at h
      by_cases h4 : (l.length : Int) = ((⟨#[]⟩ : ByteArray).size : Int)
      · cases l with
        | nil => rfl
        | cons a l => simp [ByteArray.size] at h4; omega
      · rw [if_neg h4] at h
        simp only [linkhouseref7_At.f, Option.bind_some] at h
        injection h with h
        subst h
        simp at h0
    · rw [show decide (F ≤ 58) = false from decide_eq_false h2] at h
      simp only [Option.bind_some, Bool.false_eq_true, if_false, linkhouseref7_At.f] at h
      injection h with h
      subst h
      simp at h0
  · rw [if_neg h1] at h
    simp only [Option.bind_some, Bool.false_eq_true, if_false, linkhouseref7_At.f] at h
    injection h with h
    subst h
    simp at h0
set_option maxRecDepth 100000 in
theorem dead_law (F : Int) (l : List Int) (b0 b1 b2 b3 : Int) : linkhouselaw7_EffectsDeadMatchesSpec.f 702 F l b0 b1 b2 b3 = some true := by
  obtain ⟨r, h1, h2, h3⟩ := fault_pair F l
  have h1' := encode_Check.mono _ _ _ _ _ (encode_Check.mono _ _ _ _ _ h1)
  have h2' := linkhouseref7_InsFault.mono _ _ _ _ (linkhouseref7_InsFault.mono _ _ _ _ h2)
  unfold linkhouselaw7_EffectsDeadMatchesSpec.f effects_Dead.f effects_Of.f
  rw [show isa_Default.f = some defaultForms from rfl, h2']
  simp only [Option.bind_some, h1']
  by_cases h0 : r.1 = 0
  · obtain ⟨h4, e, h5, h6⟩ := h3 h0
    obtain ⟨hF, hl⟩ := in_range F l r h2 h0
    have h5' := effects_Find.mono _ _ _ _ (effects_Find.mono _ _ _ _ h5)
    obtain ⟨d, h7, h8⟩ := dead_valid F l b0 b1 b2 b3 e hF hl h5 h6 0
    obtain ⟨r1, r2⟩ := r
    dsimp only at h0 h4
    subst h0 h4
    obtain ⟨e1, e2, e3, e4, e5, e6, e7, e8⟩ := e
    simp only [h5', Option.bind_some, linkhouseref7_In.f]
    dsimp only at h8
    by_cases c1 : b1 < 0
    · simp [c1, show ¬ (0 : Int) ≤ b1 from by omega, effects_Dead.j0, linkhouselaw7_EffectsDeadMatchesSpec.j0, linkhouselaw7_EffectsDeadMatchesSpec.j1, linkhouseref7_At.f, added_ok]
    by_cases c2 : b1 > 255
    · simp [c1, c2, show (0 : Int) ≤ b1 from by omega, show ¬ b1 ≤ 255 from by omega, effects_Dead.j0, linkhouselaw7_EffectsDeadMatchesSpec.j0, linkhouselaw7_EffectsDeadMatchesSpec.j1, linkhouseref7_At.f, added_ok]
    by_cases c3 : b2 < 0
    · simp [c1, c2, c3, show (0 : Int) ≤ b1 from by omega, show b1 ≤ 255 from by omega, show ¬ (0 : Int) ≤ b2 from by omega, effects_Dead.j0, linkhouselaw7_EffectsDeadMatchesSpec.j0, linkhouselaw7_EffectsDeadMatchesSpec.j1, linkhouseref7_At.f, added_ok]
    by_cases c4 : b2 > 15
    · simp [c1, c2, c3, c4, show (0 : Int) ≤ b1 from by omega, show b1 ≤ 255 from by omega, show (0 : Int) ≤ b2 from by omega, show ¬ b2 ≤ 15 from by omega, effects_Dead.j0, linkhouselaw7_EffectsDeadMatchesSpec.j0, linkhouselaw7_EffectsDeadMatchesSpec.j1, linkhouseref7_At.f, added_ok]
    by_cases c5 : b3 < 0
    · simp [c1, c2, c3, c4, c5, show (0 : Int) ≤ b1 from by omega, show b1 ≤ 255 from by omega, show (0 : Int) ≤ b2 from by omega, show b2 ≤ 15 from by omega, show ¬ (0 : Int) ≤ b3 from by omega, effects_Dead.j0, linkhouselaw7_EffectsDeadMatchesSpec.j0, linkhouselaw7_EffectsDeadMatchesSpec.j1, linkhouseref7_At.f, added_ok]
    by_cases c6 : b3 > 15
    · simp [c1, c2, c3, c4, c5, c6, show (0 : Int) ≤ b1 from by omega, show b1 ≤ 255 from by omega, show (0 : Int) ≤ b2 from by omega, show b2 ≤ 15 from by omega, show (0 : Int) ≤ b3 from by omega, show ¬ b3 ≤ 15 from by omega, effects_Dead.j0, linkhouselaw7_EffectsDeadMatchesSpec.j0, linkhouselaw7_EffectsDeadMatchesSpec.j1, linkhouseref7_At.f, added_ok]
    simp only [c1, c2, c3, c4, c5, c6, show (0 : Int) ≤ b1 from by omega, show b1 ≤ 255 from by omega, show (0 : Int) ≤ b2 from by omega, show b2 ≤ 15 from by omega, show (0 : Int) ≤ b3 from by omega, show b3 ≤ 15 from by omega, effects_Dead.j0, linkhouselaw7_EffectsDeadMatchesSpec.j0, linkhouselaw7_EffectsDeadMatchesSpec.j1, h7, h8, added_ok, if_true, if_false, Option.bind_some, decide_true, decide_false, beq_self_eq_true, Bool.not_true, Bool.or_false, Bool.and_self, Bool.false_eq_true, Bool.or_self]
    cases d <;> by_cases d1 : Go.bits .and .i64 e2 b1 = 0 <;> by_cases d2 : Go.bits .and .i64 e4 b2 = 0 <;> by_cases d3 : Go.bits .and .i64 e6 b3 = 0 <;> simp [d1, d2, d3]
  · simp [h0, effects_Dead.j0, linkhouselaw7_EffectsDeadMatchesSpec.j0, linkhouselaw7_EffectsDeadMatchesSpec.j1, added_ok]
end Go.Proofs.Ytaellapacoikaaa.PA
