import Derived.Test.YtaellapacoikaaaNB10
namespace Go.Proofs.Ytaellapacoikaaa.PB
open Go.RowKit Go.Proofs.YtaellapacoikaaaW.PrintWords Go.Proofs.YtaellapacoikaaaW.PrintLast Go.Proofs.YtaellapacoikaaaW.PrintMore
/-! ### slices.Contains over ints -/
theorem index_l0 (l : List Int) (a : Int) (hn : l.length ≤ 1000) : ∀ m i, i + m = l.length → ∃ r, slices_Index_int_int.l0 (m + 1) l a (l.length : Int) (i : Int) = some r ∧ (r ≥ 0 ↔ a ∈ l.drop i)
 | 0, i, h => by
  refine ⟨-1, ?_, ?_⟩
  ·
   rw [slices_Index_int_int.l0, if_neg (by omega)]
  ·
   rw [List.drop_eq_nil_of_le (by omega)]; simp
 | m + 1, i, h => by
  have hlt : i < l.length := by omega
  have hx : rd l (i : Int) = l[i] := by
   unfold rd
   rw [Int.toNat_natCast, List.getD_eq_getElem?_getD, List.getElem?_eq_getElem hlt]; rfl
  rw [slices_Index_int_int.l0, if_pos (by omega), if_pos (by omega), if_pos (by omega), hx]
  by_cases he : a = l[i]
  ·
   rw [if_pos he, List.drop_eq_getElem_cons hlt]
   exact ⟨_, rfl, fun _ => by rw [he]; exact List.mem_cons_self .., fun _ => by omega⟩
  ·
   rw [if_neg he]
   obtain ⟨r, h1, h2⟩ := index_l0 l a hn m (i + 1) (by omega)
   refine ⟨r, ?_, ?_⟩
   ·
    rw [show wrap64 ((i : Int) + 1) = ((i + 1 : Nat) : Int) from by unfold wrap64; omega]
    exact h1
   ·
    rw [h2, List.drop_eq_getElem_cons hlt, List.mem_cons]
    exact ⟨Or.inr, fun h => h.resolve_left he⟩
theorem contains_f (l : List Int) (a : Int) (hn : l.length ≤ 1000) : slices_Contains_int_int.f (l.length + 1) l a = some (decide (a ∈ l)) := by
 obtain ⟨r, h1, h2⟩ := index_l0 l a hn l.length 0 (by omega)
 rw [List.drop_zero] at h2
 unfold slices_Contains_int_int.f slices_Index_int_int.f
 rw [show (0 : Int) = ((0 : Nat) : Int) from rfl, h1]
 simp only [Option.bind_some, Option.some.injEq, decide_eq_decide]
 exact h2
end Go.Proofs.Ytaellapacoikaaa.PB
