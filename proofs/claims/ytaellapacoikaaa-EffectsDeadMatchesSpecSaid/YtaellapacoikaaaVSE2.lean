import Derived.Test.YtaellapacoikaaaVSE1q0
import Derived.Test.YtaellapacoikaaaVSE1q1
import Derived.Test.YtaellapacoikaaaVSE1q2
import Derived.Test.YtaellapacoikaaaVSE1q3
import Derived.Test.YtaellapacoikaaaVSAx13
namespace Go.Proofs.Ytaellapacoikaaa.PA
open Go.RowKit Go.Proofs.YtaellapacoikaaaW.PrintWords Go.Proofs.YtaellapacoikaaaW.PrintLast Go.Proofs.YtaellapacoikaaaW.PrintMore
set_option linter.unusedVariables false
set_option linter.unusedSimpArgs false
theorem sameF52  (a : Nat) (ha : a < 8) (b : Nat) (hb : b < 8) (c : Nat) (hc : c < 8) : sameE 700 52 [(a : Int), (b : Int), (c : Int)] = true := by
  have h : ∀ a : Nat, a < 8 → ((List.range 8).all fun (b : Nat) => (List.range 8).all fun (c : Nat) => sameE 700 52 [(a : Int), (b : Int), (c : Int)]) = true := by
    intro a ha
    match a, ha with
    | 0, _ => exact sameF52_0
    | 1, _ => exact sameF52_1
    | 2, _ => exact sameF52_2
    | 3, _ => exact sameF52_3
    | 4, _ => exact sameF52_4
    | 5, _ => exact sameF52_5
    | 6, _ => exact sameF52_6
    | 7, _ => exact sameF52_7
  exact all8 (all8 (h a ha) b hb) c hc
/-- what the table holds of a form, against the reference's row -/
def okF (m : Nat) : Bool := match linkhouseref7_Kinds.f 700 (m : Int) with
  | some s => s.size == (ksD LK m).length && (List.range (ksD LK m).length).all fun j => isa_Range.f (rd (ksD LK m) j) == linkhouseref7_KindRange.f (bt s j)
  | none => false
def ksL : List (List Int) := [[], [], [], [3], [], [], [1, 1], [1, 4], [1, 3], [1, 1], [1, 3], [1, 1], [1, 1], [1, 1], [1, 1], [1, 1], [1, 1], [1, 1], [1, 1], [1, 1], [1, 3], [1, 1, 3], [1, 1, 3], [1, 1, 3], [1, 1, 3], [1], [1], [5], [6], [5], [6], [5], [6], [5], [6], [5], [6], [1], [4], [4], [6], [1], [], [1, 6], [2, 1], [2, 1], [2, 2], [2, 2], [1, 2], [2, 1], [1, 1], [1, 1], [1, 1, 1], [1], [1], [1], [1], [1], [4]]
set_option maxRecDepth 100000 in
theorem ksL_eq : (List.range 59).map (ksD LK) = ksL := by kernel_rfl
set_option maxRecDepth 100000 in
theorem okF_all : (List.range 59).all okF = true := by kernel_rfl
set_option maxRecDepth 100000 in
theorem ks_at (m : Nat) (h : m < 59) : ksD LK m = ksL.getD m [] := by
  rw [← ksL_eq, List.getD_eq_getElem?_getD, List.getElem?_map, List.getElem?_range h, Option.map_some, Option.getD_some]
set_option maxRecDepth 100000 in
theorem rd_default (m : Nat) (h : m < 59) : (rd_T84 defaultForms (m : Int)).f2 = ksD LK m := by
  unfold rd_T84 defaultForms
  rw [List.getD_eq_getElem?_getD, List.getElem?_map, Int.toNat_natCast, List.getElem?_zipIdx]
  have : LD[m]? = some LD[m] := List.getElem?_eq_getElem (by rw [LD_length]; exact h)
  rw [this]
  simp
theorem range_some (c : Int) : ∃ lo hi, isa_Range.f c = some (lo, hi) := by
  unfold isa_Range.f
  repeat' split
  all_goals exact ⟨_, _, rfl⟩
theorem w64 (i : Nat) (h : i < 1000) : wrap64 ((i : Int) + 1) = ((i + 1 : Nat) : Int) := by unfold wrap64; omega
theorem agree (ks : List Int) (s : ByteArray) (l : List Int) (F : Int) (hs : s.size = ks.length) (hl : l.length = ks.length) (hn : ks.length < 100)
    (hk : ∀ j < ks.length, isa_Range.f (rd ks j) = linkhouseref7_KindRange.f (bt s j)) : ∀ (m i : Nat), i + m = ks.length → ∀ k, m < k →
    ∃ r, encode_Check.l0 k ks (ks.length : Int) i F l = some r ∧ linkhouseref7_InsFault.l0 k s i F l = some r ∧
      (r.1 = 0 → r.2 = 0 ∧ ∀ j, i ≤ j → j < ks.length → ∀ lo hi, isa_Range.f (rd ks j) = some (lo, hi) → lo ≤ rd l j ∧ rd l j ≤ hi) := by
  intro m
  induction m with
  | zero =>
    intro i hi k hk'
    obtain ⟨k, rfl⟩ : ∃ k', k = k' + 1 := ⟨k - 1, by omega⟩
    refine ⟨(0, 0), ?_, ?_, fun _ => ⟨rfl, fun j h1 h2 => absurd h2 (by omega)⟩⟩
    · unfold encode_Check.l0; rw [if_neg (by omega)]
    · unfold linkhouseref7_InsFault.l0; rw [if_neg (by omega)]
  | succ m ih =>
    intro i hi k hk'
    obtain ⟨k, rfl⟩ : ∃ k', k = k' + 1 := ⟨k - 1, by omega⟩
    obtain ⟨lo, hi', hr⟩ := range_some (rd ks i)
    have hr2 := hk i (by omega)
    rw [hr] at hr2
    obtain ⟨r, h1, h2, h3⟩ := ih (i + 1) (by omega) k (by omega)
    by_cases hin : lo ≤ rd l i ∧ rd l i ≤ hi'
    · refine ⟨r, ?_, ?_, fun h0 => ⟨(h3 h0).1, fun j hj1 hj2 lo' hi'' hr' => ?_⟩⟩
      · unfold encode_Check.l0
        rw [if_pos (by omega), if_pos (by omega), if_pos (by omega), if_pos (by omega), w64 i (by omega)]
        simp only [encode_inRange.f, hr, Option.bind_some, ge_iff_le, hin.1, hin.2, if_true, decide_true]
        exact h1
      · unfold linkhouseref7_InsFault.l0
        rw [if_pos (by omega), if_pos (by omega), ← hr2, Option.bind_some, if_pos (by omega), w64 i (by omega)]
        simp only [linkhouseref7_In.f, Option.bind_some, hin.1, hin.2, if_true, decide_true]
        exact h2
      · by_cases hji : j = i
        · subst hji
          rw [hr] at hr'
          cases hr'
          exact hin
        · exact (h3 h0).2 j (by omega) hj2 lo' hi'' hr'
    · refine ⟨(3, (i : Int)), ?_, ?_, fun h0 => absurd h0 (by simp)⟩
      · unfold encode_Check.l0
        rw [if_pos (by omega), if_pos (by omega), if_pos (by omega), if_pos (by omega)]
        simp only [encode_inRange.f, hr, Option.bind_some, ge_iff_le]
        by_cases h5 : lo ≤ rd l i
        · have h6 : ¬ rd l i ≤ hi' := fun h => hin ⟨h5, h⟩
          simp [h5, h6]
        · simp [h5]
      · unfold linkhouseref7_InsFault.l0
        rw [if_pos (by omega), if_pos (by omega), ← hr2, Option.bind_some, if_pos (by omega)]
        simp only [linkhouseref7_In.f, Option.bind_some]
        by_cases h5 : lo ≤ rd l i
        · have h6 : ¬ rd l i ≤ hi' := fun h => hin ⟨h5, h⟩
          simp [h5, h6, linkhouseref7_At.f]
        · simp [h5, linkhouseref7_At.f]
theorem nat_of {x lo hi : Int} {c : Int} {n : Nat} (hr : isa_Range.f c = some (0, hi)) (hx : ∀ lo' hi', isa_Range.f c = some (lo', hi') → lo' ≤ x ∧ x ≤ hi') (hn : hi < n) : ∃ a : Nat, a < n ∧ x = (a : Int) := by
  obtain ⟨h1, h2⟩ := hx 0 hi hr
  exact ⟨x.toNat, by omega, by omega⟩
theorem list0 {l : List Int} (h : l.length = 0) : l = [] := by cases l with | nil => rfl | cons a l => simp at h
theorem list1 {l : List Int} (h : l.length = 1) : ∃ a, l = [a] := by match l, h with | [a], _ => exact ⟨a, rfl⟩
theorem list2 {l : List Int} (h : l.length = 2) : ∃ a b, l = [a, b] := by match l, h with | [a, b], _ => exact ⟨a, b, rfl⟩
theorem list3 {l : List Int} (h : l.length = 3) : ∃ a b c, l = [a, b, c] := by match l, h with | [a, b, c], _ => exact ⟨a, b, c, rfl⟩
theorem val0 (l : List Int) (hl : l.length = 0) (hv : ∀ j : Nat, j < 0 → ∀ lo hi, isa_Range.f (rd ([] : List Int) j) = some (lo, hi) → lo ≤ rd l j ∧ rd l j ≤ hi) : sameE 700 0 l = true := by
  obtain rfl := list0 hl
  exact sameF0  
theorem val1 (l : List Int) (hl : l.length = 0) (hv : ∀ j : Nat, j < 0 → ∀ lo hi, isa_Range.f (rd ([] : List Int) j) = some (lo, hi) → lo ≤ rd l j ∧ rd l j ≤ hi) : sameE 700 1 l = true := by
  obtain rfl := list0 hl
  exact sameF1  
theorem val2 (l : List Int) (hl : l.length = 0) (hv : ∀ j : Nat, j < 0 → ∀ lo hi, isa_Range.f (rd ([] : List Int) j) = some (lo, hi) → lo ≤ rd l j ∧ rd l j ≤ hi) : sameE 700 2 l = true := by
  obtain rfl := list0 hl
  exact sameF2  
theorem val3 (l : List Int) (hl : l.length = 1) (hv : ∀ j : Nat, j < 1 → ∀ lo hi, isa_Range.f (rd ([3] : List Int) j) = some (lo, hi) → lo ≤ rd l j ∧ rd l j ≤ hi) : sameE 700 3 l = true := by
  obtain ⟨a, rfl⟩ := list1 hl
  exact sameF3 a 
theorem val4 (l : List Int) (hl : l.length = 0) (hv : ∀ j : Nat, j < 0 → ∀ lo hi, isa_Range.f (rd ([] : List Int) j) = some (lo, hi) → lo ≤ rd l j ∧ rd l j ≤ hi) : sameE 700 4 l = true := by
  obtain rfl := list0 hl
  exact sameF4  
theorem val5 (l : List Int) (hl : l.length = 0) (hv : ∀ j : Nat, j < 0 → ∀ lo hi, isa_Range.f (rd ([] : List Int) j) = some (lo, hi) → lo ≤ rd l j ∧ rd l j ≤ hi) : sameE 700 5 l = true := by
  obtain rfl := list0 hl
  exact sameF5  
theorem val6 (l : List Int) (hl : l.length = 2) (hv : ∀ j : Nat, j < 2 → ∀ lo hi, isa_Range.f (rd ([1, 1] : List Int) j) = some (lo, hi) → lo ≤ rd l j ∧ rd l j ≤ hi) : sameE 700 6 l = true := by
  obtain ⟨a, b, rfl⟩ := list2 hl
  obtain ⟨a', ha, rfl⟩ := nat_of (x := a) (lo := 0) (c := 1) (hi := 7) (n := 8) rfl (hv 0 (by decide)) (by decide)
  obtain ⟨b', hb, rfl⟩ := nat_of (x := b) (lo := 0) (c := 1) (hi := 7) (n := 8) rfl (hv 1 (by decide)) (by decide)
  exact sameF6  a' ha b' hb
theorem val7 (l : List Int) (hl : l.length = 2) (hv : ∀ j : Nat, j < 2 → ∀ lo hi, isa_Range.f (rd ([1, 4] : List Int) j) = some (lo, hi) → lo ≤ rd l j ∧ rd l j ≤ hi) : sameE 700 7 l = true := by
  obtain ⟨a, b, rfl⟩ := list2 hl
  obtain ⟨a', ha, rfl⟩ := nat_of (x := a) (lo := 0) (c := 1) (hi := 7) (n := 8) rfl (hv 0 (by decide)) (by decide)
  exact sameF7 b a' ha
theorem val8 (l : List Int) (hl : l.length = 2) (hv : ∀ j : Nat, j < 2 → ∀ lo hi, isa_Range.f (rd ([1, 3] : List Int) j) = some (lo, hi) → lo ≤ rd l j ∧ rd l j ≤ hi) : sameE 700 8 l = true := by
  obtain ⟨a, b, rfl⟩ := list2 hl
  obtain ⟨a', ha, rfl⟩ := nat_of (x := a) (lo := 0) (c := 1) (hi := 7) (n := 8) rfl (hv 0 (by decide)) (by decide)
  exact sameF8 b a' ha
theorem val9 (l : List Int) (hl : l.length = 2) (hv : ∀ j : Nat, j < 2 → ∀ lo hi, isa_Range.f (rd ([1, 1] : List Int) j) = some (lo, hi) → lo ≤ rd l j ∧ rd l j ≤ hi) : sameE 700 9 l = true := by
  obtain ⟨a, b, rfl⟩ := list2 hl
  obtain ⟨a', ha, rfl⟩ := nat_of (x := a) (lo := 0) (c := 1) (hi := 7) (n := 8) rfl (hv 0 (by decide)) (by decide)
  obtain ⟨b', hb, rfl⟩ := nat_of (x := b) (lo := 0) (c := 1) (hi := 7) (n := 8) rfl (hv 1 (by decide)) (by decide)
  exact sameF9  a' ha b' hb
theorem val10 (l : List Int) (hl : l.length = 2) (hv : ∀ j : Nat, j < 2 → ∀ lo hi, isa_Range.f (rd ([1, 3] : List Int) j) = some (lo, hi) → lo ≤ rd l j ∧ rd l j ≤ hi) : sameE 700 10 l = true := by
  obtain ⟨a, b, rfl⟩ := list2 hl
  obtain ⟨a', ha, rfl⟩ := nat_of (x := a) (lo := 0) (c := 1) (hi := 7) (n := 8) rfl (hv 0 (by decide)) (by decide)
  exact sameF10 b a' ha
theorem val11 (l : List Int) (hl : l.length = 2) (hv : ∀ j : Nat, j < 2 → ∀ lo hi, isa_Range.f (rd ([1, 1] : List Int) j) = some (lo, hi) → lo ≤ rd l j ∧ rd l j ≤ hi) : sameE 700 11 l = true := by
  obtain ⟨a, b, rfl⟩ := list2 hl
  obtain ⟨a', ha, rfl⟩ := nat_of (x := a) (lo := 0) (c := 1) (hi := 7) (n := 8) rfl (hv 0 (by decide)) (by decide)
  obtain ⟨b', hb, rfl⟩ := nat_of (x := b) (lo := 0) (c := 1) (hi := 7) (n := 8) rfl (hv 1 (by decide)) (by decide)
  exact sameF11  a' ha b' hb
theorem val12 (l : List Int) (hl : l.length = 2) (hv : ∀ j : Nat, j < 2 → ∀ lo hi, isa_Range.f (rd ([1, 1] : List Int) j) = some (lo, hi) → lo ≤ rd l j ∧ rd l j ≤ hi) : sameE 700 12 l = true := by
  obtain ⟨a, b, rfl⟩ := list2 hl
  obtain ⟨a', ha, rfl⟩ := nat_of (x := a) (lo := 0) (c := 1) (hi := 7) (n := 8) rfl (hv 0 (by decide)) (by decide)
  obtain ⟨b', hb, rfl⟩ := nat_of (x := b) (lo := 0) (c := 1) (hi := 7) (n := 8) rfl (hv 1 (by decide)) (by decide)
  exact sameF12  a' ha b' hb
theorem val13 (l : List Int) (hl : l.length = 2) (hv : ∀ j : Nat, j < 2 → ∀ lo hi, isa_Range.f (rd ([1, 1] : List Int) j) = some (lo, hi) → lo ≤ rd l j ∧ rd l j ≤ hi) : sameE 700 13 l = true := by
  obtain ⟨a, b, rfl⟩ := list2 hl
  obtain ⟨a', ha, rfl⟩ := nat_of (x := a) (lo := 0) (c := 1) (hi := 7) (n := 8) rfl (hv 0 (by decide)) (by decide)
  obtain ⟨b', hb, rfl⟩ := nat_of (x := b) (lo := 0) (c := 1) (hi := 7) (n := 8) rfl (hv 1 (by decide)) (by decide)
  exact sameF13  a' ha b' hb
theorem val14 (l : List Int) (hl : l.length = 2) (hv : ∀ j : Nat, j < 2 → ∀ lo hi, isa_Range.f (rd ([1, 1] : List Int) j) = some (lo, hi) → lo ≤ rd l j ∧ rd l j ≤ hi) : sameE 700 14 l = true := by
  obtain ⟨a, b, rfl⟩ := list2 hl
  obtain ⟨a', ha, rfl⟩ := nat_of (x := a) (lo := 0) (c := 1) (hi := 7) (n := 8) rfl (hv 0 (by decide)) (by decide)
  obtain ⟨b', hb, rfl⟩ := nat_of (x := b) (lo := 0) (c := 1) (hi := 7) (n := 8) rfl (hv 1 (by decide)) (by decide)
  exact sameF14  a' ha b' hb
theorem val15 (l : List Int) (hl : l.length = 2) (hv : ∀ j : Nat, j < 2 → ∀ lo hi, isa_Range.f (rd ([1, 1] : List Int) j) = some (lo, hi) → lo ≤ rd l j ∧ rd l j ≤ hi) : sameE 700 15 l = true := by
  obtain ⟨a, b, rfl⟩ := list2 hl
  obtain ⟨a', ha, rfl⟩ := nat_of (x := a) (lo := 0) (c := 1) (hi := 7) (n := 8) rfl (hv 0 (by decide)) (by decide)
  obtain ⟨b', hb, rfl⟩ := nat_of (x := b) (lo := 0) (c := 1) (hi := 7) (n := 8) rfl (hv 1 (by decide)) (by decide)
  exact sameF15  a' ha b' hb
theorem val16 (l : List Int) (hl : l.length = 2) (hv : ∀ j : Nat, j < 2 → ∀ lo hi, isa_Range.f (rd ([1, 1] : List Int) j) = some (lo, hi) → lo ≤ rd l j ∧ rd l j ≤ hi) : sameE 700 16 l = true := by
  obtain ⟨a, b, rfl⟩ := list2 hl
  obtain ⟨a', ha, rfl⟩ := nat_of (x := a) (lo := 0) (c := 1) (hi := 7) (n := 8) rfl (hv 0 (by decide)) (by decide)
  obtain ⟨b', hb, rfl⟩ := nat_of (x := b) (lo := 0) (c := 1) (hi := 7) (n := 8) rfl (hv 1 (by decide)) (by decide)
  exact sameF16  a' ha b' hb
theorem val17 (l : List Int) (hl : l.length = 2) (hv : ∀ j : Nat, j < 2 → ∀ lo hi, isa_Range.f (rd ([1, 1] : List Int) j) = some (lo, hi) → lo ≤ rd l j ∧ rd l j ≤ hi) : sameE 700 17 l = true := by
  obtain ⟨a, b, rfl⟩ := list2 hl
  obtain ⟨a', ha, rfl⟩ := nat_of (x := a) (lo := 0) (c := 1) (hi := 7) (n := 8) rfl (hv 0 (by decide)) (by decide)
  obtain ⟨b', hb, rfl⟩ := nat_of (x := b) (lo := 0) (c := 1) (hi := 7) (n := 8) rfl (hv 1 (by decide)) (by decide)
  exact sameF17  a' ha b' hb
theorem val18 (l : List Int) (hl : l.length = 2) (hv : ∀ j : Nat, j < 2 → ∀ lo hi, isa_Range.f (rd ([1, 1] : List Int) j) = some (lo, hi) → lo ≤ rd l j ∧ rd l j ≤ hi) : sameE 700 18 l = true := by
  obtain ⟨a, b, rfl⟩ := list2 hl
  obtain ⟨a', ha, rfl⟩ := nat_of (x := a) (lo := 0) (c := 1) (hi := 7) (n := 8) rfl (hv 0 (by decide)) (by decide)
  obtain ⟨b', hb, rfl⟩ := nat_of (x := b) (lo := 0) (c := 1) (hi := 7) (n := 8) rfl (hv 1 (by decide)) (by decide)
  exact sameF18  a' ha b' hb
theorem val19 (l : List Int) (hl : l.length = 2) (hv : ∀ j : Nat, j < 2 → ∀ lo hi, isa_Range.f (rd ([1, 1] : List Int) j) = some (lo, hi) → lo ≤ rd l j ∧ rd l j ≤ hi) : sameE 700 19 l = true := by
  obtain ⟨a, b, rfl⟩ := list2 hl
  obtain ⟨a', ha, rfl⟩ := nat_of (x := a) (lo := 0) (c := 1) (hi := 7) (n := 8) rfl (hv 0 (by decide)) (by decide)
  obtain ⟨b', hb, rfl⟩ := nat_of (x := b) (lo := 0) (c := 1) (hi := 7) (n := 8) rfl (hv 1 (by decide)) (by decide)
  exact sameF19  a' ha b' hb
theorem val20 (l : List Int) (hl : l.length = 2) (hv : ∀ j : Nat, j < 2 → ∀ lo hi, isa_Range.f (rd ([1, 3] : List Int) j) = some (lo, hi) → lo ≤ rd l j ∧ rd l j ≤ hi) : sameE 700 20 l = true := by
  obtain ⟨a, b, rfl⟩ := list2 hl
  obtain ⟨a', ha, rfl⟩ := nat_of (x := a) (lo := 0) (c := 1) (hi := 7) (n := 8) rfl (hv 0 (by decide)) (by decide)
  exact sameF20 b a' ha
theorem val21 (l : List Int) (hl : l.length = 3) (hv : ∀ j : Nat, j < 3 → ∀ lo hi, isa_Range.f (rd ([1, 1, 3] : List Int) j) = some (lo, hi) → lo ≤ rd l j ∧ rd l j ≤ hi) : sameE 700 21 l = true := by
  obtain ⟨a, b, c, rfl⟩ := list3 hl
  obtain ⟨a', ha, rfl⟩ := nat_of (x := a) (lo := 0) (c := 1) (hi := 7) (n := 8) rfl (hv 0 (by decide)) (by decide)
  obtain ⟨b', hb, rfl⟩ := nat_of (x := b) (lo := 0) (c := 1) (hi := 7) (n := 8) rfl (hv 1 (by decide)) (by decide)
  exact sameF21 c a' ha b' hb
theorem val22 (l : List Int) (hl : l.length = 3) (hv : ∀ j : Nat, j < 3 → ∀ lo hi, isa_Range.f (rd ([1, 1, 3] : List Int) j) = some (lo, hi) → lo ≤ rd l j ∧ rd l j ≤ hi) : sameE 700 22 l = true := by
  obtain ⟨a, b, c, rfl⟩ := list3 hl
  obtain ⟨a', ha, rfl⟩ := nat_of (x := a) (lo := 0) (c := 1) (hi := 7) (n := 8) rfl (hv 0 (by decide)) (by decide)
  obtain ⟨b', hb, rfl⟩ := nat_of (x := b) (lo := 0) (c := 1) (hi := 7) (n := 8) rfl (hv 1 (by decide)) (by decide)
  exact sameF22 c a' ha b' hb
theorem val23 (l : List Int) (hl : l.length = 3) (hv : ∀ j : Nat, j < 3 → ∀ lo hi, isa_Range.f (rd ([1, 1, 3] : List Int) j) = some (lo, hi) → lo ≤ rd l j ∧ rd l j ≤ hi) : sameE 700 23 l = true := by
  obtain ⟨a, b, c, rfl⟩ := list3 hl
  obtain ⟨a', ha, rfl⟩ := nat_of (x := a) (lo := 0) (c := 1) (hi := 7) (n := 8) rfl (hv 0 (by decide)) (by decide)
  obtain ⟨b', hb, rfl⟩ := nat_of (x := b) (lo := 0) (c := 1) (hi := 7) (n := 8) rfl (hv 1 (by decide)) (by decide)
  exact sameF23 c a' ha b' hb
theorem val24 (l : List Int) (hl : l.length = 3) (hv : ∀ j : Nat, j < 3 → ∀ lo hi, isa_Range.f (rd ([1, 1, 3] : List Int) j) = some (lo, hi) → lo ≤ rd l j ∧ rd l j ≤ hi) : sameE 700 24 l = true := by
  obtain ⟨a, b, c, rfl⟩ := list3 hl
  obtain ⟨a', ha, rfl⟩ := nat_of (x := a) (lo := 0) (c := 1) (hi := 7) (n := 8) rfl (hv 0 (by decide)) (by decide)
  obtain ⟨b', hb, rfl⟩ := nat_of (x := b) (lo := 0) (c := 1) (hi := 7) (n := 8) rfl (hv 1 (by decide)) (by decide)
  exact sameF24 c a' ha b' hb
theorem val25 (l : List Int) (hl : l.length = 1) (hv : ∀ j : Nat, j < 1 → ∀ lo hi, isa_Range.f (rd ([1] : List Int) j) = some (lo, hi) → lo ≤ rd l j ∧ rd l j ≤ hi) : sameE 700 25 l = true := by
  obtain ⟨a, rfl⟩ := list1 hl
  obtain ⟨a', ha, rfl⟩ := nat_of (x := a) (lo := 0) (c := 1) (hi := 7) (n := 8) rfl (hv 0 (by decide)) (by decide)
  exact sameF25  a' ha
theorem val26 (l : List Int) (hl : l.length = 1) (hv : ∀ j : Nat, j < 1 → ∀ lo hi, isa_Range.f (rd ([1] : List Int) j) = some (lo, hi) → lo ≤ rd l j ∧ rd l j ≤ hi) : sameE 700 26 l = true := by
  obtain ⟨a, rfl⟩ := list1 hl
  obtain ⟨a', ha, rfl⟩ := nat_of (x := a) (lo := 0) (c := 1) (hi := 7) (n := 8) rfl (hv 0 (by decide)) (by decide)
  exact sameF26  a' ha
theorem val27 (l : List Int) (hl : l.length = 1) (hv : ∀ j : Nat, j < 1 → ∀ lo hi, isa_Range.f (rd ([5] : List Int) j) = some (lo, hi) → lo ≤ rd l j ∧ rd l j ≤ hi) : sameE 700 27 l = true := by
  obtain ⟨a, rfl⟩ := list1 hl
  exact sameF27 a 
theorem val28 (l : List Int) (hl : l.length = 1) (hv : ∀ j : Nat, j < 1 → ∀ lo hi, isa_Range.f (rd ([6] : List Int) j) = some (lo, hi) → lo ≤ rd l j ∧ rd l j ≤ hi) : sameE 700 28 l = true := by
  obtain ⟨a, rfl⟩ := list1 hl
  exact sameF28 a 
theorem val29 (l : List Int) (hl : l.length = 1) (hv : ∀ j : Nat, j < 1 → ∀ lo hi, isa_Range.f (rd ([5] : List Int) j) = some (lo, hi) → lo ≤ rd l j ∧ rd l j ≤ hi) : sameE 700 29 l = true := by
  obtain ⟨a, rfl⟩ := list1 hl
  exact sameF29 a 
theorem val30 (l : List Int) (hl : l.length = 1) (hv : ∀ j : Nat, j < 1 → ∀ lo hi, isa_Range.f (rd ([6] : List Int) j) = some (lo, hi) → lo ≤ rd l j ∧ rd l j ≤ hi) : sameE 700 30 l = true := by
  obtain ⟨a, rfl⟩ := list1 hl
  exact sameF30 a 
theorem val31 (l : List Int) (hl : l.length = 1) (hv : ∀ j : Nat, j < 1 → ∀ lo hi, isa_Range.f (rd ([5] : List Int) j) = some (lo, hi) → lo ≤ rd l j ∧ rd l j ≤ hi) : sameE 700 31 l = true := by
  obtain ⟨a, rfl⟩ := list1 hl
  exact sameF31 a 
theorem val32 (l : List Int) (hl : l.length = 1) (hv : ∀ j : Nat, j < 1 → ∀ lo hi, isa_Range.f (rd ([6] : List Int) j) = some (lo, hi) → lo ≤ rd l j ∧ rd l j ≤ hi) : sameE 700 32 l = true := by
  obtain ⟨a, rfl⟩ := list1 hl
  exact sameF32 a 
theorem val33 (l : List Int) (hl : l.length = 1) (hv : ∀ j : Nat, j < 1 → ∀ lo hi, isa_Range.f (rd ([5] : List Int) j) = some (lo, hi) → lo ≤ rd l j ∧ rd l j ≤ hi) : sameE 700 33 l = true := by
  obtain ⟨a, rfl⟩ := list1 hl
  exact sameF33 a 
theorem val34 (l : List Int) (hl : l.length = 1) (hv : ∀ j : Nat, j < 1 → ∀ lo hi, isa_Range.f (rd ([6] : List Int) j) = some (lo, hi) → lo ≤ rd l j ∧ rd l j ≤ hi) : sameE 700 34 l = true := by
  obtain ⟨a, rfl⟩ := list1 hl
  exact sameF34 a 
theorem val35 (l : List Int) (hl : l.length = 1) (hv : ∀ j : Nat, j < 1 → ∀ lo hi, isa_Range.f (rd ([5] : List Int) j) = some (lo, hi) → lo ≤ rd l j ∧ rd l j ≤ hi) : sameE 700 35 l = true := by
  obtain ⟨a, rfl⟩ := list1 hl
  exact sameF35 a 
theorem val36 (l : List Int) (hl : l.length = 1) (hv : ∀ j : Nat, j < 1 → ∀ lo hi, isa_Range.f (rd ([6] : List Int) j) = some (lo, hi) → lo ≤ rd l j ∧ rd l j ≤ hi) : sameE 700 36 l = true := by
  obtain ⟨a, rfl⟩ := list1 hl
  exact sameF36 a 
theorem val37 (l : List Int) (hl : l.length = 1) (hv : ∀ j : Nat, j < 1 → ∀ lo hi, isa_Range.f (rd ([1] : List Int) j) = some (lo, hi) → lo ≤ rd l j ∧ rd l j ≤ hi) : sameE 700 37 l = true := by
  obtain ⟨a, rfl⟩ := list1 hl
  obtain ⟨a', ha, rfl⟩ := nat_of (x := a) (lo := 0) (c := 1) (hi := 7) (n := 8) rfl (hv 0 (by decide)) (by decide)
  exact sameF37  a' ha
theorem val38 (l : List Int) (hl : l.length = 1) (hv : ∀ j : Nat, j < 1 → ∀ lo hi, isa_Range.f (rd ([4] : List Int) j) = some (lo, hi) → lo ≤ rd l j ∧ rd l j ≤ hi) : sameE 700 38 l = true := by
  obtain ⟨a, rfl⟩ := list1 hl
  exact sameF38 a 
theorem val39 (l : List Int) (hl : l.length = 1) (hv : ∀ j : Nat, j < 1 → ∀ lo hi, isa_Range.f (rd ([4] : List Int) j) = some (lo, hi) → lo ≤ rd l j ∧ rd l j ≤ hi) : sameE 700 39 l = true := by
  obtain ⟨a, rfl⟩ := list1 hl
  exact sameF39 a 
theorem val40 (l : List Int) (hl : l.length = 1) (hv : ∀ j : Nat, j < 1 → ∀ lo hi, isa_Range.f (rd ([6] : List Int) j) = some (lo, hi) → lo ≤ rd l j ∧ rd l j ≤ hi) : sameE 700 40 l = true := by
  obtain ⟨a, rfl⟩ := list1 hl
  exact sameF40 a 
theorem val41 (l : List Int) (hl : l.length = 1) (hv : ∀ j : Nat, j < 1 → ∀ lo hi, isa_Range.f (rd ([1] : List Int) j) = some (lo, hi) → lo ≤ rd l j ∧ rd l j ≤ hi) : sameE 700 41 l = true := by
  obtain ⟨a, rfl⟩ := list1 hl
  obtain ⟨a', ha, rfl⟩ := nat_of (x := a) (lo := 0) (c := 1) (hi := 7) (n := 8) rfl (hv 0 (by decide)) (by decide)
  exact sameF41  a' ha
theorem val42 (l : List Int) (hl : l.length = 0) (hv : ∀ j : Nat, j < 0 → ∀ lo hi, isa_Range.f (rd ([] : List Int) j) = some (lo, hi) → lo ≤ rd l j ∧ rd l j ≤ hi) : sameE 700 42 l = true := by
  obtain rfl := list0 hl
  exact sameF42  
theorem val43 (l : List Int) (hl : l.length = 2) (hv : ∀ j : Nat, j < 2 → ∀ lo hi, isa_Range.f (rd ([1, 6] : List Int) j) = some (lo, hi) → lo ≤ rd l j ∧ rd l j ≤ hi) : sameE 700 43 l = true := by
  obtain ⟨a, b, rfl⟩ := list2 hl
  obtain ⟨a', ha, rfl⟩ := nat_of (x := a) (lo := 0) (c := 1) (hi := 7) (n := 8) rfl (hv 0 (by decide)) (by decide)
  exact sameF43 b a' ha
theorem val44 (l : List Int) (hl : l.length = 2) (hv : ∀ j : Nat, j < 2 → ∀ lo hi, isa_Range.f (rd ([2, 1] : List Int) j) = some (lo, hi) → lo ≤ rd l j ∧ rd l j ≤ hi) : sameE 700 44 l = true := by
  obtain ⟨a, b, rfl⟩ := list2 hl
  obtain ⟨a', ha, rfl⟩ := nat_of (x := a) (lo := 0) (c := 2) (hi := 3) (n := 4) rfl (hv 0 (by decide)) (by decide)
  obtain ⟨b', hb, rfl⟩ := nat_of (x := b) (lo := 0) (c := 1) (hi := 7) (n := 8) rfl (hv 1 (by decide)) (by decide)
  exact sameF44  a' ha b' hb
theorem val45 (l : List Int) (hl : l.length = 2) (hv : ∀ j : Nat, j < 2 → ∀ lo hi, isa_Range.f (rd ([2, 1] : List Int) j) = some (lo, hi) → lo ≤ rd l j ∧ rd l j ≤ hi) : sameE 700 45 l = true := by
  obtain ⟨a, b, rfl⟩ := list2 hl
  obtain ⟨a', ha, rfl⟩ := nat_of (x := a) (lo := 0) (c := 2) (hi := 3) (n := 4) rfl (hv 0 (by decide)) (by decide)
  obtain ⟨b', hb, rfl⟩ := nat_of (x := b) (lo := 0) (c := 1) (hi := 7) (n := 8) rfl (hv 1 (by decide)) (by decide)
  exact sameF45  a' ha b' hb
theorem val46 (l : List Int) (hl : l.length = 2) (hv : ∀ j : Nat, j < 2 → ∀ lo hi, isa_Range.f (rd ([2, 2] : List Int) j) = some (lo, hi) → lo ≤ rd l j ∧ rd l j ≤ hi) : sameE 700 46 l = true := by
  obtain ⟨a, b, rfl⟩ := list2 hl
  obtain ⟨a', ha, rfl⟩ := nat_of (x := a) (lo := 0) (c := 2) (hi := 3) (n := 4) rfl (hv 0 (by decide)) (by decide)
  obtain ⟨b', hb, rfl⟩ := nat_of (x := b) (lo := 0) (c := 2) (hi := 3) (n := 4) rfl (hv 1 (by decide)) (by decide)
  exact sameF46  a' ha b' hb
theorem val47 (l : List Int) (hl : l.length = 2) (hv : ∀ j : Nat, j < 2 → ∀ lo hi, isa_Range.f (rd ([2, 2] : List Int) j) = some (lo, hi) → lo ≤ rd l j ∧ rd l j ≤ hi) : sameE 700 47 l = true := by
  obtain ⟨a, b, rfl⟩ := list2 hl
  obtain ⟨a', ha, rfl⟩ := nat_of (x := a) (lo := 0) (c := 2) (hi := 3) (n := 4) rfl (hv 0 (by decide)) (by decide)
  obtain ⟨b', hb, rfl⟩ := nat_of (x := b) (lo := 0) (c := 2) (hi := 3) (n := 4) rfl (hv 1 (by decide)) (by decide)
  exact sameF47  a' ha b' hb
theorem val48 (l : List Int) (hl : l.length = 2) (hv : ∀ j : Nat, j < 2 → ∀ lo hi, isa_Range.f (rd ([1, 2] : List Int) j) = some (lo, hi) → lo ≤ rd l j ∧ rd l j ≤ hi) : sameE 700 48 l = true := by
  obtain ⟨a, b, rfl⟩ := list2 hl
  obtain ⟨a', ha, rfl⟩ := nat_of (x := a) (lo := 0) (c := 1) (hi := 7) (n := 8) rfl (hv 0 (by decide)) (by decide)
  obtain ⟨b', hb, rfl⟩ := nat_of (x := b) (lo := 0) (c := 2) (hi := 3) (n := 4) rfl (hv 1 (by decide)) (by decide)
  exact sameF48  a' ha b' hb
theorem val49 (l : List Int) (hl : l.length = 2) (hv : ∀ j : Nat, j < 2 → ∀ lo hi, isa_Range.f (rd ([2, 1] : List Int) j) = some (lo, hi) → lo ≤ rd l j ∧ rd l j ≤ hi) : sameE 700 49 l = true := by
  obtain ⟨a, b, rfl⟩ := list2 hl
  obtain ⟨a', ha, rfl⟩ := nat_of (x := a) (lo := 0) (c := 2) (hi := 3) (n := 4) rfl (hv 0 (by decide)) (by decide)
  obtain ⟨b', hb, rfl⟩ := nat_of (x := b) (lo := 0) (c := 1) (hi := 7) (n := 8) rfl (hv 1 (by decide)) (by decide)
  exact sameF49  a' ha b' hb
theorem val50 (l : List Int) (hl : l.length = 2) (hv : ∀ j : Nat, j < 2 → ∀ lo hi, isa_Range.f (rd ([1, 1] : List Int) j) = some (lo, hi) → lo ≤ rd l j ∧ rd l j ≤ hi) : sameE 700 50 l = true := by
  obtain ⟨a, b, rfl⟩ := list2 hl
  obtain ⟨a', ha, rfl⟩ := nat_of (x := a) (lo := 0) (c := 1) (hi := 7) (n := 8) rfl (hv 0 (by decide)) (by decide)
  obtain ⟨b', hb, rfl⟩ := nat_of (x := b) (lo := 0) (c := 1) (hi := 7) (n := 8) rfl (hv 1 (by decide)) (by decide)
  exact sameF50  a' ha b' hb
theorem val51 (l : List Int) (hl : l.length = 2) (hv : ∀ j : Nat, j < 2 → ∀ lo hi, isa_Range.f (rd ([1, 1] : List Int) j) = some (lo, hi) → lo ≤ rd l j ∧ rd l j ≤ hi) : sameE 700 51 l = true := by
  obtain ⟨a, b, rfl⟩ := list2 hl
  obtain ⟨a', ha, rfl⟩ := nat_of (x := a) (lo := 0) (c := 1) (hi := 7) (n := 8) rfl (hv 0 (by decide)) (by decide)
  obtain ⟨b', hb, rfl⟩ := nat_of (x := b) (lo := 0) (c := 1) (hi := 7) (n := 8) rfl (hv 1 (by decide)) (by decide)
  exact sameF51  a' ha b' hb
theorem val52 (l : List Int) (hl : l.length = 3) (hv : ∀ j : Nat, j < 3 → ∀ lo hi, isa_Range.f (rd ([1, 1, 1] : List Int) j) = some (lo, hi) → lo ≤ rd l j ∧ rd l j ≤ hi) : sameE 700 52 l = true := by
  obtain ⟨a, b, c, rfl⟩ := list3 hl
  obtain ⟨a', ha, rfl⟩ := nat_of (x := a) (lo := 0) (c := 1) (hi := 7) (n := 8) rfl (hv 0 (by decide)) (by decide)
  obtain ⟨b', hb, rfl⟩ := nat_of (x := b) (lo := 0) (c := 1) (hi := 7) (n := 8) rfl (hv 1 (by decide)) (by decide)
  obtain ⟨c', hc, rfl⟩ := nat_of (x := c) (lo := 0) (c := 1) (hi := 7) (n := 8) rfl (hv 2 (by decide)) (by decide)
  exact sameF52  a' ha b' hb c' hc
theorem val53 (l : List Int) (hl : l.length = 1) (hv : ∀ j : Nat, j < 1 → ∀ lo hi, isa_Range.f (rd ([1] : List Int) j) = some (lo, hi) → lo ≤ rd l j ∧ rd l j ≤ hi) : sameE 700 53 l = true := by
  obtain ⟨a, rfl⟩ := list1 hl
  obtain ⟨a', ha, rfl⟩ := nat_of (x := a) (lo := 0) (c := 1) (hi := 7) (n := 8) rfl (hv 0 (by decide)) (by decide)
  exact sameF53  a' ha
theorem val54 (l : List Int) (hl : l.length = 1) (hv : ∀ j : Nat, j < 1 → ∀ lo hi, isa_Range.f (rd ([1] : List Int) j) = some (lo, hi) → lo ≤ rd l j ∧ rd l j ≤ hi) : sameE 700 54 l = true := by
  obtain ⟨a, rfl⟩ := list1 hl
  obtain ⟨a', ha, rfl⟩ := nat_of (x := a) (lo := 0) (c := 1) (hi := 7) (n := 8) rfl (hv 0 (by decide)) (by decide)
  exact sameF54  a' ha
theorem val55 (l : List Int) (hl : l.length = 1) (hv : ∀ j : Nat, j < 1 → ∀ lo hi, isa_Range.f (rd ([1] : List Int) j) = some (lo, hi) → lo ≤ rd l j ∧ rd l j ≤ hi) : sameE 700 55 l = true := by
  obtain ⟨a, rfl⟩ := list1 hl
  obtain ⟨a', ha, rfl⟩ := nat_of (x := a) (lo := 0) (c := 1) (hi := 7) (n := 8) rfl (hv 0 (by decide)) (by decide)
  exact sameF55  a' ha
theorem val56 (l : List Int) (hl : l.length = 1) (hv : ∀ j : Nat, j < 1 → ∀ lo hi, isa_Range.f (rd ([1] : List Int) j) = some (lo, hi) → lo ≤ rd l j ∧ rd l j ≤ hi) : sameE 700 56 l = true := by
  obtain ⟨a, rfl⟩ := list1 hl
  obtain ⟨a', ha, rfl⟩ := nat_of (x := a) (lo := 0) (c := 1) (hi := 7) (n := 8) rfl (hv 0 (by decide)) (by decide)
  exact sameF56  a' ha
theorem val57 (l : List Int) (hl : l.length = 1) (hv : ∀ j : Nat, j < 1 → ∀ lo hi, isa_Range.f (rd ([1] : List Int) j) = some (lo, hi) → lo ≤ rd l j ∧ rd l j ≤ hi) : sameE 700 57 l = true := by
  obtain ⟨a, rfl⟩ := list1 hl
  obtain ⟨a', ha, rfl⟩ := nat_of (x := a) (lo := 0) (c := 1) (hi := 7) (n := 8) rfl (hv 0 (by decide)) (by decide)
  exact sameF57  a' ha
theorem val58 (l : List Int) (hl : l.length = 1) (hv : ∀ j : Nat, j < 1 → ∀ lo hi, isa_Range.f (rd ([4] : List Int) j) = some (lo, hi) → lo ≤ rd l j ∧ rd l j ≤ hi) : sameE 700 58 l = true := by
  obtain ⟨a, rfl⟩ := list1 hl
  exact sameF58 a 
theorem same_valid (m : Nat) (hm : m < 59) (l : List Int) (hl : l.length = (ksD LK m).length) (hv : ∀ j, j < (ksD LK m).length → ∀ lo hi, isa_Range.f (rd (ksD LK m) j) = some (lo, hi) → lo ≤ rd l j ∧ rd l j ≤ hi) : sameE 700 (m : Int) l = true := by
  rw [ks_at m hm] at hl hv
  match m, hm with
  | 0, _ => exact val0 l hl hv
  | 1, _ => exact val1 l hl hv
  | 2, _ => exact val2 l hl hv
  | 3, _ => exact val3 l hl hv
  | 4, _ => exact val4 l hl hv
  | 5, _ => exact val5 l hl hv
  | 6, _ => exact val6 l hl hv
  | 7, _ => exact val7 l hl hv
  | 8, _ => exact val8 l hl hv
  | 9, _ => exact val9 l hl hv
  | 10, _ => exact val10 l hl hv
  | 11, _ => exact val11 l hl hv
  | 12, _ => exact val12 l hl hv
  | 13, _ => exact val13 l hl hv
  | 14, _ => exact val14 l hl hv
  | 15, _ => exact val15 l hl hv
  | 16, _ => exact val16 l hl hv
  | 17, _ => exact val17 l hl hv
  | 18, _ => exact val18 l hl hv
  | 19, _ => exact val19 l hl hv
  | 20, _ => exact val20 l hl hv
  | 21, _ => exact val21 l hl hv
  | 22, _ => exact val22 l hl hv
  | 23, _ => exact val23 l hl hv
  | 24, _ => exact val24 l hl hv
  | 25, _ => exact val25 l hl hv
  | 26, _ => exact val26 l hl hv
  | 27, _ => exact val27 l hl hv
  | 28, _ => exact val28 l hl hv
  | 29, _ => exact val29 l hl hv
  | 30, _ => exact val30 l hl hv
  | 31, _ => exact val31 l hl hv
  | 32, _ => exact val32 l hl hv
  | 33, _ => exact val33 l hl hv
  | 34, _ => exact val34 l hl hv
  | 35, _ => exact val35 l hl hv
  | 36, _ => exact val36 l hl hv
  | 37, _ => exact val37 l hl hv
  | 38, _ => exact val38 l hl hv
  | 39, _ => exact val39 l hl hv
  | 40, _ => exact val40 l hl hv
  | 41, _ => exact val41 l hl hv
  | 42, _ => exact val42 l hl hv
  | 43, _ => exact val43 l hl hv
  | 44, _ => exact val44 l hl hv
  | 45, _ => exact val45 l hl hv
  | 46, _ => exact val46 l hl hv
  | 47, _ => exact val47 l hl hv
  | 48, _ => exact val48 l hl hv
  | 49, _ => exact val49 l hl hv
  | 50, _ => exact val50 l hl hv
  | 51, _ => exact val51 l hl hv
  | 52, _ => exact val52 l hl hv
  | 53, _ => exact val53 l hl hv
  | 54, _ => exact val54 l hl hv
  | 55, _ => exact val55 l hl hv
  | 56, _ => exact val56 l hl hv
  | 57, _ => exact val57 l hl hv
  | 58, _ => exact val58 l hl hv
  | m + 59, h => exact absurd h (by omega)
/-- the two faults of an instruction are one, and where there is none the effects agree -/
theorem fault_pair (F : Int) (l : List Int) : ∃ r, encode_Check.f 700 defaultForms F l = some r ∧ linkhouseref7_InsFault.f 700 F l = some r ∧
    (r.1 = 0 → r.2 = 0 ∧ ∃ e, effects_Find.f 700 F l = some e ∧ linkhouseref7_Effect.f 700 F l = some e) := by
  by_cases hF : 0 ≤ F ∧ F < 59
  · obtain ⟨m, rfl⟩ := Int.eq_ofNat_of_zero_le hF.1
    have hm : m < 59 := by omega
    have hok := all8 okF_all m hm
    unfold okF at hok
    split at hok
    case h_2 => cases hok
    rename_i s hs
    simp only [Bool.and_eq_true, beq_iff_eq] at hok
    have hk : ∀ j < (ksD LK m).length, isa_Range.f (rd (ksD LK m) j) = linkhouseref7_KindRange.f (bt s j) := fun j hj => eq_of_beq (all8 hok.2 j hj)
    have hn : (ksD LK m).length < 100 := by
      have := congrArg List.length (ks_at m hm)
      have h3 : ∀ x ∈ ksL, x.length < 100 := by decide
      rw [this, List.getD_eq_getElem?_getD]
      cases hq : ksL[m]? with
      | none => simp
      | some x => exact h3 x (List.mem_of_getElem? hq)
    have e1 : encode_Check.f 700 defaultForms (m : Int) l = if (l.length : Int) = ((ksD LK m).length : Int) then encode_Check.l0 699 (ksD LK m) ((ksD LK m).length : Int) 0 m l else some (9, -3) := by
      unfold encode_Check.f
      rw [if_neg (by omega), defaultForms_length, show decide ((m : Int) ≥ ((59 : Nat) : Int)) = false from decide_eq_false (by omega)]
      simp only [encode_Check.j0, Bool.false_eq_true, if_false]
      rw [if_pos (by omega), if_pos (by rw [defaultForms_length]; omega), rd_default m hm]
    have e2 : linkhouseref7_InsFault.f 700 (m : Int) l = if (l.length : Int) = (s.size : Int) then linkhouseref7_InsFault.l0 700 s 0 m l else some (9, -3) := by
      unfold linkhouseref7_InsFault.f linkhouseref7_In.f
      rw [if_pos (by omega), show decide ((m : Int) ≤ 58) = true from decide_eq_true (by omega), hs]
      simp only [Option.bind_some, if_true, linkhouseref7_At.f]
    rw [e1, e2, hok.1]
    by_cases hl : l.length = (ksD LK m).length
    · rw [if_pos (by omega), if_pos (by omega)]
      obtain ⟨r, h1, h2, h3⟩ := agree (ksD LK m) s l m hok.1 hl hn hk (ksD LK m).length 0 (by omega) 699 (by omega)
      obtain ⟨r', h1', h2', -⟩ := agree (ksD LK m) s l m hok.1 hl hn hk (ksD LK m).length 0 (by omega) 700 (by omega)
      have hrr : r = r' := by
        have := encode_Check.mono_l 699 |>.2 (ksD LK m) ((ksD LK m).length : Int) ((0 : Nat) : Int) (m : Int) l
        have h4 := this r h1
        rw [h1'] at h4
        exact (Option.some.inj h4).symm
      subst hrr
      refine ⟨r, h1, h2', fun h0 => ⟨(h3 h0).1, sameE_spec (same_valid m hm l hl fun j hj lo hi hr => (h3 h0).2 j (Nat.zero_le _) hj lo hi hr)⟩⟩
    · rw [if_neg (by omega), if_neg (by omega)]
      exact ⟨_, rfl, rfl, fun h0 => absurd h0 (by simp)⟩
  · refine ⟨(3, -2), ?_, ?_, fun h0 => absurd h0 (by simp)⟩
    · unfold encode_Check.f
      by_cases h1 : F < 0
      · rw [if_pos h1]; unfold encode_Check.j0; rfl
      · rw [if_neg h1, defaultForms_length, show decide (F ≥ ((59 : Nat) : Int)) = true from decide_eq_true (by omega)]; unfold encode_Check.j0; rfl
    · unfold linkhouseref7_InsFault.f linkhouseref7_In.f
      by_cases h1 : 0 ≤ F
      · rw [if_pos h1, show decide (F ≤ 58) = false from decide_eq_false (by omega)]; rfl
      · rw [if_neg h1]; rfl
theorem effects_law (F : Int) (l : List Int) : linkhouselaw7_EffectsMatchSpec.f 700 F l = some true := by
  obtain ⟨r, h1, h2, h3⟩ := fault_pair F l
  unfold linkhouselaw7_EffectsMatchSpec.f effects_Of.f
  rw [show isa_Default.f = some defaultForms from rfl, h2]
  simp only [Option.bind_some, h1]
  by_cases h0 : r.1 = 0
  · obtain ⟨h4, e, h5, h6⟩ := h3 h0
    simp [h0, h4, h5, h6, added_ok]
  · simp [h0, added_ok]
end Go.Proofs.Ytaellapacoikaaa.PA
