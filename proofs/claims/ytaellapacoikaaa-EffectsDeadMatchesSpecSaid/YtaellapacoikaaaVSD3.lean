/- EffectsDeadMatchesSpec: for every instruction and every set of what is live behind it (whatever numbers they hold), Dead reports what the document specifies, or the fault that it specifies. -/
import Derived.Test.YtaellapacoikaaaRows
import Derived.Test.YtaellapacoikaaaVSD2
import Derived.WalkKit
import Derived.ProofKit
import Derived.OpenShut
import Derived.ShutString
import Derived.ChangeOld
import Derived.Below
import Derived.SizedLaws
import Derived.Lib.SmallJoins
namespace Go.Proofs.Ytaellapacoikaaa.effectsDeadMatchesSpec
open Go.ChangeShapes Go.WideShapes Go.ChangeAt Go.RowKit Go.Joins
open Go.ChangeMaps (open_string shut_string)
open Go.Proofs.YtaellapacoikaaaW.PrintWords
set_option linter.unusedVariables false
theorem own : ownKnob Try.prog.godebug = none := by kernel_rfl
theorem laidOut : laidOutB Try.prog = true := by kernel_rfl
theorem open_row {H : Type} {enc : TypeId × Value → H} {W : World} {fuel : Nat} {u : Value} {x : DataW H × List MemPlace} (h : DataW.trod enc Try.prog W 0 (fun _ => true) true fuel 22 [u] = some x) :
    ∃ (A : Option Addr) (c : Nat) (z : List Int), u = .slice A z.length c ∧ z.length ≤ c ∧ Kd.C (Kd.int .i64) W A z.length z := by
  rcases open_ints Try.underlying22 Try.underlying3 (by kernel_rfl) h with ⟨hcs, _⟩ | ⟨a, l, c, zs, hcs, _, hl, hm, hz, _, hcell, hwz⟩
  · simp at hcs
    exact ⟨none, 0, [], hcs, Nat.le_refl _, Kd.C_of_reads (d := (0 : Int)) (h1 := fun _ => rfl) ⟨rfl, by simp, fun h => absurd h (by simp)⟩⟩
  · simp at hcs hz
    have hlen : (zs.take l).length = l := by rw [List.length_take]; omega
    refine ⟨some a, c, zs.take l, by rw [hlen]; exact hcs, by rw [hlen]; exact hl, Kd.C_of_reads (d := (0 : Int)) (h1 := fun _ => rfl) ⟨rfl, by rw [hlen]; unfold maxLen at hm; omega, fun _ => ⟨a, rfl, fun j hj => ?_⟩⟩⟩
    rw [hlen] at hj
    have e : (zs.take l).getD j 0 = zs.getD j 0 := by
      rw [List.getD_eq_getElem?_getD, List.getElem?_take, if_pos hj, List.getD_eq_getElem?_getD]
    rw [e]
    exact hcell j (by omega)
set_option maxRecDepth 100000 in
theorem lifted (os : Os) (started : os.Started) (H : Type) (enc : TypeId × Value → H) :
    ReturnsInHanded {} Try.checked os 4 .any (Rows.effectsDeadMatchesSpecSpec.pre6 enc Try.prog Try.f4 Rows.effectsDeadMatchesSpecRow.domain false) (Rows.effectsDeadMatchesSpecSpec.post enc Try.prog Try.f4 false true false false) := by
  refine returnsInHanded_of_change_sized (C := Try.checked) own started (by kernel_rfl) Try.func4
    (ChangeSpec.witness6 (enc := enc) (C := Try.checked) false ⟨#[], #[.agg #[.int .i64 0, .slice none 0 0], .agg #[.int .i64 0, .int .i64 0, .int .i64 0, .int .i64 0]], []⟩ 8 (by kernel_rfl) (by kernel_rfl) (by kernel_rfl) (by kernel_rfl)) ?_
  intro W base args ds gs before hval0 hW hcnd hsz0 _
  have hval : ∀ (j : Nat) t v, Try.f4.params[j]? = some t → args[j]? = some v → Value.okWide Try.prog W .any base t v := hval0
  have hW' := hW
  obtain ⟨p, q, hA0, hV, rfl, hfz, hnd⟩ := hW
  have hA : DataW.TrodAll enc Try.prog W 0 (fun _ => true) true Try.f4.params.toList args.toList ds p := hA0
  rw [Try.params4] at hA hval
  obtain ⟨v0, vs0, d0, ds0, p0, q0, hargs, rfl, rfl, h0, r0⟩ := trodAll_cons hA
  obtain ⟨v1, vs1, d1, ds1, p1, q1, rfl, rfl, rfl, h1, r1⟩ := trodAll_cons r0
  obtain ⟨rfl, rfl, rfl⟩ := trodAll_nil r1
  obtain rfl : args = #[v0, v1] := by cases args; simp_all
  obtain ⟨rfl, rfl⟩ := trodVars_none hV
  have k0 := h0
  have lt0 : ∀ x ∈ p0, x.block < W.heap.size := by obtain ⟨m, hm⟩ := k0; exact DataW.trod_lt m _ _ _ hm
  have k1 := h1
  have lt1 : ∀ x ∈ p1, x.block < W.heap.size := by obtain ⟨m, hm⟩ := k1; exact DataW.trod_lt m _ _ _ hm
  obtain ⟨u0, u1, y0, y1, n, rfl, _, _, g0, g1⟩ := open_agg2 Try.underlying24 (by kernel_rfl) (by kernel_rfl) (hval 0 24 v0 rfl rfl) h0
  obtain ⟨a, ha, _, wa⟩ := DataW.trod_int (k := .i64) Try.underlying3 g0
  obtain rfl : u0 = .int .i64 a := by simpa using ha
  obtain ⟨A, c, z, rfl, hc, hz⟩ := open_row g1
  obtain ⟨t0, t1, t2, t3, z0, z1, z2, z3, n2, rfl, _, _, e0, e1, e2, e3⟩ := open_agg4 Try.underlying36 (by kernel_rfl) (by kernel_rfl) (hval 1 36 v1 rfl rfl) h1
  obtain ⟨b0, hb0, _, _⟩ := DataW.trod_int (k := .i64) Try.underlying3 e0
  obtain rfl : t0 = .int .i64 b0 := by simpa using hb0
  obtain ⟨b1, hb1, _, _⟩ := DataW.trod_int (k := .i64) Try.underlying3 e1
  obtain rfl : t1 = .int .i64 b1 := by simpa using hb1
  obtain ⟨b2, hb2, _, _⟩ := DataW.trod_int (k := .i64) Try.underlying3 e2
  obtain rfl : t2 = .int .i64 b2 := by simpa using hb2
  obtain ⟨b3, hb3, _, _⟩ := DataW.trod_int (k := .i64) Try.underlying3 e3
  obtain rfl : t3 = .int .i64 b3 := by simpa using hb3
  clear hA0 hval0 hsz0
  refine (PA.linkhouselaw7_EffectsDeadMatchesSpec.calls 702 a A c z b0 b1 b2 b3 true W hz hc (PA.dead_law a z b0 b1 b2 b3)).mono fun e W' ⟨he, bel⟩ => ?_
  subst he
  exact ⟨_, rfl, _, _, _, [], _, [], hW', trodAll_mk1 (shut_bool Try.underlying4 _), (trodAll_cons_mk (Below.trod laidOut (by kernel_rfl) (of_decide_eq_true (by kernel_rfl)) k0 bel lt0) (trodAll_cons_mk (Below.trod laidOut (by kernel_rfl) (of_decide_eq_true (by kernel_rfl)) k1 bel lt1) trodAll_mk0)), rfl, bel.frame _, fun h => by cases h⟩
theorem over : Rows.effectsDeadMatchesSpecRow.holds Try.pinned (OpenSpec.ofChange Rows.effectsDeadMatchesSpecSpec) :=
  OpenClaim.holds_of_wide 4 Try.f4 rfl rfl rfl rfl rfl rfl rfl ⟨rfl, rfl, rfl, rfl, rfl⟩ rfl rfl rfl rfl rfl (by kernel_rfl) Try.func4 (by kernel_rfl)
    (of_decide_eq_true (by kernel_rfl)) (by unfold Func.isWrapper; first | (rw [if_pos (by decide +kernel)]; kernel_rfl) | (rw [if_neg (by decide +kernel)]; exact ⟨rfl, rfl⟩))
    (fun os started H enc _ => lifted os started H enc)
theorem proved : Rows.EffectsDeadMatchesSpecSaid := over
end Go.Proofs.Ytaellapacoikaaa.effectsDeadMatchesSpec
