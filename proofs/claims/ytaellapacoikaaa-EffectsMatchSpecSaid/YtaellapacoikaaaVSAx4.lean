import Derived.Test.YtaellapacoikaaaV0
import Derived.Test.YtaellapacoikaaaVSAx0
import Derived.Test.YtaellapacoikaaaVSAx3
import Derived.RangeFuncBox
import Derived.RangeFuncLeaves
import Derived.RangeFuncCalls
import Derived.Shelf.Abstract
import Derived.WalkKit
import Derived.OwnWalkIn
import Derived.TacticsInMore
import Derived.LoopNIn
import Derived.LoopIn
import Derived.Maps.AppendAt
import Derived.Lib.Hide
import Derived.OrdersIn
import Derived.RangeFuncNested
import Derived.Deep.DeepMust
import Derived.RangeFuncWrites
import Derived.Lib.SlBytesConst
import Derived.Stop.RegionWithIn
namespace Go.Proofs.Ytaellapacoikaaa.PA
open Go.RowKit Go.Proofs.YtaellapacoikaaaW.PrintWords Go.Proofs.YtaellapacoikaaaW.PrintLast Go.Proofs.YtaellapacoikaaaW.PrintMore
attribute [local go_sem] max2_int min2_int max_two min_two max_three min_three max_four min_four   -- for this text's walks alone
set_option linter.unusedVariables false
set_option linter.unusedSimpArgs false

/-! ### isa_Default: function 34 -/
-- HAND Derived.RangeFuncBox Derived.RangeFuncLeaves Derived.RangeFuncCalls Derived.Shelf.Abstract Derived.WalkKit Derived.OwnWalkIn Derived.TacticsInMore Derived.LoopNIn Derived.LoopIn Derived.Maps.AppendAt Derived.Lib.Hide Derived.OrdersIn Derived.RangeFuncNested Derived.Deep.DeepMust Derived.RangeFuncWrites Derived.Lib.SlBytesConst Derived.Stop.RegionWithIn
open Go.Shelf
attribute [local go_sem] Oper.semAt_some
/-- what has come when k bytes have been read; where the part that is being read begins -/
def prt (s : ByteArray) : Nat → List (Int × ByteArray) × Nat
  | 0 => ([], 0)
  | k + 1 => if bt s k = 32 then ((prt s k).1 ++ [(((prt s k).1.length : Int), s.extract (prt s k).2 k)], k + 1) else prt s k
theorem prt_yes (s : ByteArray) (k : Nat) (h : bt s k = 32) : prt s (k + 1) = ((prt s k).1 ++ [(((prt s k).1.length : Int), s.extract (prt s k).2 k)], k + 1) := if_pos h
theorem prt_no (s : ByteArray) (k : Nat) (h : ¬ bt s k = 32) : prt s (k + 1) = prt s k := if_neg h
theorem prt_le (s : ByteArray) (k : Nat) : (prt s k).2 ≤ k ∧ (prt s k).1.length ≤ k := by
  induction k with
  | zero => simp [prt]
  | succ k ih =>
    by_cases h : bt s k = 32
    · rw [prt_yes s k h]; simp; omega
    · rw [prt_no s k h]; omega

theorem isa_fields.in_ (n : Nat) (s : ByteArray) (w : World) :
    CallsIn Fence.wide n Try.prog 52 #[.string s] w fun e w' => e = .returned (.func (.func 63) #[] #[.pointer (some ⟨w.heap.size, 0, none⟩)]) ∧ w' = w.alloc (.cells #[.string s] 9) := by
  refine callsIn_of_wp Try.func52 rfl trivial ?_ rfl
  simp only [Try.ntmps52, List.size_toArray, List.length_cons, List.length_nil, Nat.reduceAdd, Nat.reduceSub, Array.replicate_succ, Array.replicate_zero, List.push_toArray, List.append_toArray, List.nil_append, List.cons_append]
  gi_wp2
  go_ret
  exact ⟨rfl, rfl⟩

set_option maxRecDepth 100000 in
set_option maxHeartbeats 2000000 in
theorem isa_fields1.in_ (n : Nat) (hn : 1 ≤ n) (l Bs : Nat) (s : ByteArray) (hs : s.size ≤ 1000) (P : Int × ByteArray → Prop) (hP : ∀ k : Nat, k < s.size → bt s k = 32 → P (((prt s k).1.length : Int), s.extract (prt s k).2 k))
    (J Jx : List {x : Int × ByteArray // P x} → World → Prop)
    (hY : ∀ pre x W, J pre W → pre.length < s.size → YieldAt Fence.wide (n - 1) Try.prog l #[.int .i64 x.1.1, .string x.1.2] W fun e W' =>
      (e = .returned (.bool true) ∧ J (pre ++ [x]) W' ∧ W'.heap[Bs]? = W.heap[Bs]?) ∨ (e = .returned (.bool false) ∧ Jx (pre ++ [x]) W'))
    (W : World) (hBs : Boxed W Bs 9 (.string s)) (h0 : J [] W) :
    CallsIn Fence.wide n Try.prog 63 #[.func (.yield l) #[] #[], .pointer (some ⟨Bs, 0, none⟩)] W fun e W' => (∃ v, e = .returned v) ∧
      ((∃ ys, ys.map Subtype.val = (prt s s.size).1 ∧ J ys W') ∨ (∃ pre, True ∧ Jx pre W')) := by
  refine callsIn_of_wp Try.func63 rfl trivial ?_ rfl
  simp only [Try.ntmps63, List.size_toArray, List.length_cons, List.length_nil, Nat.reduceAdd, Nat.reduceSub, Array.replicate_succ, Array.replicate_zero, List.push_toArray, List.append_toArray, List.nil_append, List.cons_append]
  have hBc := hBs.cell
  gi_wp2
  gi_loopw [3, 4, 8] (fun a b c wr => ∃ (k : Nat) (pre : List {x : Int × ByteArray // P x}), k ≤ s.size ∧ a = .int .i64 ((prt s k).1.length : Int) ∧ b = .int .i64 ((prt s k).2 : Int) ∧ c = .int .i64 (k : Int) ∧ Aside0 (pre.map Subtype.val = (prt s k).1) ∧ J pre wr ∧ Boxed wr Bs 9 (.string s))
    (fun _ _ c _ => s.size - (intOf c).toNat)
  case atStart => exact ⟨0, [], Nat.zero_le _, rfl, rfl, rfl, ⟨rfl⟩, h0, hBs⟩
  case round =>
    obtain ⟨k, pre, hk, rfl, rfl, rfl, hpre, hJs, hnx⟩ := hrel
    have hcs : wr.cell? ⟨Bs, 0, none⟩ = some (.string s) := hnx.cell
    obtain ⟨hp2, hp1⟩ := prt_le s k
    have hpl : pre.length ≤ k := by
      have := congrArg List.length hpre.out
      rw [List.length_map] at this
      omega
    by_cases hlt : k < s.size
    · by_cases h32 : bt s k = 32
      · obtain ⟨X, hX⟩ : ∃ X : {x : Int × ByteArray // P x}, X.1 = (((prt s k).1.length : Int), s.extract (prt s k).2 k) := ⟨⟨_, hP k hlt h32⟩, rfl⟩
        obtain ⟨fn, tmps, assign, body, hy, hR⟩ := hY pre X wr hJs (by omega)
        rw [hX] at hy
        dsimp only at hy
        have HX := Lib.hid hX
        clear hX
        have hy1 := prt_yes s k h32
        have Hy1 := Lib.hid hy1
        have hbt : s[k].toNat = 32 := by
          have := bt_at s k (by omega); simp at this; omega
        have hbb : ((s[k].toNat : Int) == 32) = true := by rw [hbt]; rfl
        clear hy1 h32
        gi_wp2
        refine hR.mono ?_
        rintro e W3 (⟨rfl, hJ3, hk3⟩ | ⟨rfl, hJx3⟩)
        · gi_wp2
          go_roundw
          case rel => exact ⟨k + 1, pre ++ [X], by omega, by rw [Hy1.out]; simp, by rw [Hy1.out]; simp, by simp, ⟨by rw [Hy1.out, List.map_append, hpre.out, List.map_singleton, HX.out]⟩, hJ3, hk3.trans hnx⟩
          case measure => simp [intOf]; omega
        · gi_wp2
          refine bodyPost_ret (results_none rfl _ _ _) rfl ?_
          exact ⟨⟨_, rfl⟩, .inr ⟨_, trivial, hJx3⟩⟩
      · have hy1 := prt_no s k h32
        have Hy1 := Lib.hid hy1
        have hbt : ¬ s[k].toNat = 32 := by
          intro h; have := bt_at s k (by omega); simp at this; apply h32; omega
        have hbb : ((s[k].toNat : Int) == 32) = false := by rw [beq_eq_false_iff_ne]; omega
        clear hy1 h32
        gi_wp2
        go_roundw
        case rel => exact ⟨k + 1, pre, by omega, by rw [Hy1.out], by rw [Hy1.out], by simp, ⟨by rw [Hy1.out]; exact hpre.out⟩, hJs, hnx⟩
        case measure => simp [intOf]; omega
    · obtain rfl : k = s.size := by omega
      gi_wp2
      go_end0
      exact ⟨⟨_, rfl⟩, .inl ⟨_, hpre.out, hJs⟩⟩

theorem isa_fields.stops (n : Nat) (hn : 1 ≤ n) (Bs : Nat) (s : ByteArray) (hs : s.size ≤ 1000) (P : Int × ByteArray → Prop) (hP : ∀ k : Nat, k < s.size → bt s k = 32 → P (((prt s k).1.length : Int), s.extract (prt s k).2 k)) (w : World) (hc : Boxed w Bs 9 (.string s)) :
    SeqStopsK Fence.wide n Try.prog 63 #[.pointer (some ⟨Bs, 0, none⟩)] (fun x : {x : Int × ByteArray // P x} => #[.int .i64 x.1.1, .string x.1.2]) (fun W W' => W'.heap[Bs]? = W.heap[Bs]?) (fun ys => ys.map Subtype.val = (prt s s.size).1) (fun _ => True) s.size w := fun l J Jx W hW _ _ hY h0 =>
  isa_fields1.in_ n hn l Bs s hs P hP J Jx hY W ((hW.block Bs hc.lt).trans hc) h0

/-! the rows of the table, as they lie in memory -/
def rowD (x : Int × ByteArray) (u : Value) : List Value := [.string x.2, .int .i64 (Int.tmod (wrap64 (wrap64 (37 * x.1) + 11)) 256), u]
def cellsD : Nat → List (Int × ByteArray) → (Nat → Value) → List Value
  | _, [], _ => []
  | i, x :: L, us => rowD x (us i) ++ cellsD (i + 1) L us
theorem cellsD_length : ∀ i L us, (cellsD i L us).length = 3 * L.length
  | _, [], _ => rfl
  | i, x :: L, us => by simp only [cellsD, List.length_append, List.length_cons, cellsD_length (i + 1) L us]; simp [rowD]; omega
theorem cellsD_snoc : ∀ i L x us, cellsD i (L ++ [x]) us = cellsD i L us ++ rowD x (us (i + L.length))
  | i, [], x, us => by simp [cellsD]
  | i, y :: L, x, us => by
    simp only [List.cons_append, cellsD, cellsD_snoc (i + 1) L x us, List.append_assoc, List.length_cons]
    rw [show i + 1 + L.length = i + (L.length + 1) from by omega]
def updD (us : Nat → Value) (k : Nat) (v : Value) : Nat → Value := fun j => if j = k then v else us j
theorem cellsD_far : ∀ i L us k v, k < i → cellsD i L (updD us k v) = cellsD i L us
  | _, [], _, _, _, _ => rfl
  | i, x :: L, us, k, v, h => by simp only [cellsD, cellsD_far (i + 1) L us k v (by omega)]; rw [show updD us k v i = us i from if_neg (by omega)]
theorem cellsD_set : ∀ i L us k v, k < L.length → (cellsD i L us).set (3 * k + 2) v = cellsD i L (updD us (i + k) v)
  | _, [], _, _, _, h => by simp at h
  | i, x :: L, us, 0, v, _ => by
    simp only [cellsD, rowD, Nat.mul_zero, Nat.zero_add, Nat.add_zero, cellsD_far (i + 1) L us i v (by omega)]
    rw [show updD us i v i = v from if_pos rfl]; rfl
  | i, x :: L, us, k + 1, v, h => by
    simp only [cellsD]
    rw [List.set_append_right _ _ (by simp [rowD]; omega), show 3 * (k + 1) + 2 - (rowD x (us i)).length = 3 * k + 2 from by simp [rowD]; omega,
      cellsD_set (i + 1) L us k v (by simp at h; omega), show i + 1 + k = i + (k + 1) from by omega, show updD us (i + (k + 1)) v i = us i from if_neg (by omega)]
theorem cellsD_get : ∀ i L us k, k < L.length → (cellsD i L us)[3 * k + 2]? = some (us (i + k))
  | _, [], _, _, h => by simp at h
  | i, x :: L, us, 0, _ => by simp [cellsD, rowD]
  | i, x :: L, us, k + 1, h => by
    simp only [cellsD]
    rw [List.getElem?_append_right (by simp [rowD]; omega), show 3 * (k + 1) + 2 - (rowD x (us i)).length = 3 * k + 2 from by simp [rowD]; omega,
      cellsD_get (i + 1) L us k (by simp at h; omega), show i + 1 + k = i + (k + 1) from by omega]
theorem cellsD_take : ∀ i L us k x, L[k]? = some x → ((cellsD i L us).drop (k * 3)).take 3 = rowD x (us (i + k))
  | _, [], _, _, _, h => by simp at h
  | i, y :: L, us, 0, x, h => by
    obtain rfl : y = x := by simpa using h
    simp [cellsD, rowD]
  | i, y :: L, us, k + 1, x, h => by
    simp only [cellsD]
    rw [List.drop_append, List.drop_eq_nil_of_le (by simp [rowD]; omega), List.nil_append, show (k + 1) * 3 - (rowD y (us i)).length = k * 3 from by simp [rowD]; omega,
      cellsD_take (i + 1) L us k x (by simpa using h), show i + 1 + k = i + (k + 1) from by omega]
theorem cellsD_congr : ∀ i L us us', (∀ j, i ≤ j → us j = us' j) → cellsD i L us = cellsD i L us'
  | _, [], _, _, _ => rfl
  | i, x :: L, us, us', h => by simp only [cellsD, h i (Nat.le_refl _)]; rw [cellsD_congr (i + 1) L us us' (fun j hj => h j (by omega))]
theorem rowD_one (x : Int × ByteArray) (u : Value) (h : u.oneCell' = true) : ∀ c ∈ rowD x u, c.oneCell' = true := by
  intro c hc
  simp only [rowD, List.mem_cons, List.not_mem_nil, or_false] at hc
  rcases hc with rfl | rfl | rfl
  · rfl
  · rfl
  · exact h
theorem cell_three_new (w : World) (x y z : Value) (t : TypeId) : ∀ j u, [x, y, z][j]? = some u → (w.alloc (.cells #[x, y, z] t)).cell? ((⟨w.heap.size, 0, none⟩ : Addr).add j) = some u := by
  intro j u hj
  match j, hj with
  | 0, hj => simp at hj; subst hj; rw [add_plain]; exact (blk_cell (blk_new w (.cells #[_, _, _] t (0, 0))) 0).trans rfl
  | 1, hj => simp at hj; subst hj; rw [add_plain]; exact (blk_cell (blk_new w (.cells #[_, _, _] t (0, 0))) 1).trans rfl
  | 2, hj => simp at hj; subst hj; rw [add_plain]; exact (blk_cell (blk_new w (.cells #[_, _, _] t (0, 0))) 2).trans rfl
  | j + 3, hj => simp at hj
theorem own_still {W W' : World} {row : Option Nat} {base : Nat} {e : TypeId} {size n : Nat} {v : Value} {xs : List Value} (h : W.ownsRow base e size v n xs) (hg : W.grownBy W' row) (hr : ∀ r, row = some r → ∃ o : Obj, W.heap[r]? = some o ∧ o.isCells = false) : W'.ownsRow base e size v n xs := by
  refine h.kept hg ?_
  cases hb : v.ownBlock with
  | none => exact .inl rfl
  | some g =>
    refine .inr fun he => ?_
    obtain ⟨o, ho, hc⟩ := hr g he.symm
    obtain ⟨cells, hh⟩ := own_typed h g hb
    rw [hh] at ho; cases ho; cases hc
theorem boxed_still {W W' : World} {row : Option Nat} {B : Nat} {t : TypeId} {v : Value} (h : Boxed W B t v) (hg : W.grownBy W' row) (hr : ∀ r, row = some r → ∃ o : Obj, W.heap[r]? = some o ∧ o.isCells = false) : Boxed W' B t v :=
  h.kept hg (fun he => by obtain ⟨o, ho, hc⟩ := hr B he.symm; rw [show W.heap[B]? = _ from h] at ho; cases ho; cases hc)
/-! A region that draws its order, in a round: walked as outside a fence ('start_' and its steps), where it ends in order -/
def Only (Q : Exit → Act → World → Prop) : Exit → Act → World → Prop := fun e a w => e = .normal ∧ Q .normal a w
def noDefers (ops : Array Oper) : Bool := ops.all fun o => match o.op with | .defer _ => false | _ => true
theorem noDefers_spec {ops : Array Oper} (h : noDefers ops = true) {i : Nat} {o : Oper} (ho : ops[i]? = some o) : ∀ c, o.op ≠ .defer c := by
  intro c hc
  have := Array.all_eq_true_iff_forall_mem.1 h o (Array.mem_of_getElem? ho)
  simp [hc] at this
theorem wpOpIn_of {l n : Nat} {P : Program} {ops : Array Oper} {Q : Exit → Act → World → Prop} (hnd : noDefers ops = true) {i : Nat} {K : Act → World → Prop} {a : Act} {w : World}
    (h : wpOp P ops (Only Q) i K a w) : wpOpIn (Fence.wide.inRound l) n P ops Q i K a w := by
  unfold wpOp at h
  unfold wpOpIn
  cases ho : ops[i]? with
  | none => simp only [ho] at h ⊢; exact h
  | some o =>
    simp only [ho] at h ⊢
    split
    · rename_i hw
      simp only [hw, if_true] at h
      rcases h with h | ⟨_, a', w', h', _⟩
      · refine ⟨fun _ _ => trivial, ?_⟩
        rw [Oper.semAt_plain _ _ _ (noDefers_spec hnd ho)]
        unfold Oper.wp at h
        generalize (execOp a.eval o).run P w = r at *
        cases r with
        | ok x w' =>
          cases x <;> simp only [Oper.upon, Oper.uponIn] at h ⊢
          case value u => exact h
          case skip => exact h
          case defer d => exact h
          case enter f args =>
            refine ⟨fun hd => by simp [Fence.wide] at hd, CallsIn.inRound l (callsIn_wide.2 (h.mono fun e w'' he => ?_))⟩
            cases e with
            | returned u => exact he
            | panicked c => exact absurd he.1 (by simp)
            | outgrown => obtain ⟨a', w', h', _⟩ := he; cases h'
          case row row args =>
            refine ⟨fun hd => by simp [Fence.wide] at hd, fun c cs _ => ?_⟩
            obtain ⟨v, w', r, s⟩ := h c cs
            exact ⟨v, w', r, stepsIn_wide.2 s⟩
        | halt x w' =>
          cases x <;> simp only [Oper.upon, Oper.uponIn] at h ⊢
          case panic u => exact absurd h.1 (by simp)
      · cases h'
    · rename_i hw
      simp only [hw] at h
      exact ⟨fun _ _ => trivial, h⟩
theorem wpAnyIn_of {l n : Nat} {P : Program} {md : Region.Mode} {ops : Array Oper} {Q : Exit → Act → World → Prop} (hnd : noDefers ops = true) : ∀ (fuel : Nat) (listed : Array Bool) (a : Act) (w : World),
    wpAny P md ops (Only Q) fuel listed a w → wpAnyIn (Fence.wide.inRound l) n P md ops Q fuel listed a w
  | 0, _, _, _, h => ⟨h.1, h.2.2⟩
  | fuel + 1, _, _, _, h => ⟨fun h0 => (h.1 h0).2, fun i hi => wpOpIn_of hnd (wpOp_mono (fun a' w' h' => wpAnyIn_of hnd fuel _ a' w' h') (h.2 i hi))⟩
theorem only_panic {Q : Exit → Act → World → Prop} {c : List PanicEntry} {a : Act} {w : World} {X : Prop} (h : Only Q (.panic c) a w) : X := absurd h.1 (by simp)
theorem startIn_ {l₀ m : Nat} {P : Program} {ops : Array Oper} {Q : Exit → Act → World → Prop} {S : World → Prop} {ds : List Nat} {id n : Nat} {a : Act} {w : World} (hnd : noDefers ops = true) (l : Array Bool) (hm : P.follows .mixedOrders = true) (hn : ops.size = n) (hl : Array.replicate n false = l) (hS : S w.drew)
    (h : S w.drew → wpAnyLast P .any ops (Only Q) S ds n l a w.drew) : (Code.region id ops true).wpIn (Fence.wide.inRound l₀) m P Q a w := by
  subst hn
  subst hl
  exact wpIn_region_any hm (wpAnyIn_of hnd _ _ _ _ (wpAny_of_last _ _ _ _ (h hS)))
set_option maxRecDepth 100000 in
def nmD : ByteArray := ⟨#[104, 97, 108, 116, 32, 110, 111, 112, 32, 98, 114, 101, 97, 107, 32, 115, 121, 115, 32, 101, 114, 101, 116, 32, 102, 101, 110, 99, 101, 32, 109, 111, 118, 101, 32, 115, 101, 116, 32, 115, 101, 116, 98, 32, 97, 100, 100, 32, 97, 100, 100, 98, 32, 115, 117, 98, 32, 109, 117, 108, 32, 100, 105, 118, 32, 97, 110, 100, 32, 111, 114, 32, 120, 111, 114, 32, 115, 104, 108, 32, 115, 104, 114, 32, 99, 109, 112, 32, 99, 109, 112, 98, 32, 108, 111, 97, 100, 32, 115, 116, 111, 114, 101, 32, 108, 111, 97, 100, 98, 32, 115, 116, 111, 114, 101, 98, 32, 112, 117, 115, 104, 32, 112, 111, 112, 32, 106, 117, 109, 112, 32, 106, 117, 109, 112, 32, 106, 101, 113, 32, 106, 101, 113, 32, 106, 110, 101, 32, 106, 110, 101, 32, 106, 108, 116, 32, 106, 108, 116, 32, 106, 108, 111, 32, 106, 108, 111, 32, 106, 117, 109, 112, 114, 32, 106, 117, 109, 112, 109, 32, 106, 117, 109, 112, 97, 32, 99, 97, 108, 108, 32, 99, 97, 108, 108, 114, 32, 114, 101, 116, 32, 108, 101, 97, 32, 118, 108, 111, 97, 100, 32, 118, 115, 116, 111, 114, 101, 32, 118, 97, 100, 100, 32, 118, 109, 117, 108, 32, 118, 115, 117, 109, 32, 118, 115, 101, 116, 32, 115, 119, 97, 112, 32, 102, 101, 116, 99, 104, 32, 99, 97, 115, 32, 116, 112, 32, 116, 114, 97, 112, 118, 32, 99, 97, 117, 115, 101, 32, 119, 104, 101, 114, 101, 32, 115, 107, 105, 112, 32, 99, 111, 117, 110, 116, 32]⟩
set_option maxRecDepth 100000 in
def kdD : ByteArray := ⟨#[45, 32, 45, 32, 45, 32, 98, 32, 45, 32, 45, 32, 114, 114, 32, 114, 119, 32, 114, 98, 32, 114, 114, 32, 114, 98, 32, 114, 114, 32, 114, 114, 32, 114, 114, 32, 114, 114, 32, 114, 114, 32, 114, 114, 32, 114, 114, 32, 114, 114, 32, 114, 114, 32, 114, 98, 32, 114, 114, 98, 32, 114, 114, 98, 32, 114, 114, 98, 32, 114, 114, 98, 32, 114, 32, 114, 32, 115, 32, 110, 32, 115, 32, 110, 32, 115, 32, 110, 32, 115, 32, 110, 32, 115, 32, 110, 32, 114, 32, 119, 32, 119, 32, 110, 32, 114, 32, 45, 32, 114, 110, 32, 118, 114, 32, 118, 114, 32, 118, 118, 32, 118, 118, 32, 114, 118, 32, 118, 114, 32, 114, 114, 32, 114, 114, 32, 114, 114, 114, 32, 114, 32, 114, 32, 114, 32, 114, 32, 114, 32, 119, 32]⟩
set_option maxRecDepth 100000 in
theorem nmD_size : nmD.size = 285 := rfl
set_option maxRecDepth 100000 in
theorem kdD_size : kdD.size = 152 := rfl
theorem infoD84 : (Try.prog.info? 84).map (fun i => (i.zero, i.size, i.bytes)) = some (some (.agg #[.string ⟨#[]⟩, .int .i64 0, .slice none 0 0]), 3, 48) := by kernel_rfl


/-! the second loop: the kinds of the operands -/
def LD : List (Int × ByteArray) := (prt nmD nmD.size).1
set_option maxRecDepth 100000 in
theorem LD_length : LD.length = 59 := by decide +kernel
/-- the place of a letter among "-rvbwsn" -/
def kOf (c : Int) : Int := if c = 45 then 0 else if c = 114 then 1 else if c = 118 then 2 else if c = 98 then 3 else if c = 119 then 4 else if c = 115 then 5 else if c = 110 then 6 else -1
theorem kOf_f (c : Int) : slices_Index_byte_byte.f 9 [45, 114, 118, 98, 119, 115, 110] c = some (kOf c) := by
  unfold slices_Index_byte_byte.f kOf
  by_cases h1 : c = 45
  · subst h1; decide +kernel
  by_cases h2 : c = 114
  · subst h2; decide +kernel
  by_cases h3 : c = 118
  · subst h3; decide +kernel
  by_cases h4 : c = 98
  · subst h4; decide +kernel
  by_cases h5 : c = 119
  · subst h5; decide +kernel
  by_cases h6 : c = 115
  · subst h6; decide +kernel
  by_cases h7 : c = 110
  · subst h7; decide +kernel
  rw [if_neg h1, if_neg h2, if_neg h3, if_neg h4, if_neg h5, if_neg h6, if_neg h7]
  simp [slices_Index_byte_byte.l0, rd, wrap64, h1, h2, h3, h4, h5, h6, h7]
/-- the kinds of the first i bytes -/
def kB (s : ByteArray) : Nat → List Int
  | 0 => []
  | i + 1 => if 0 < kOf (bt s i) then kB s i ++ [kOf (bt s i)] else kB s i
theorem kB_yes (s : ByteArray) (i : Nat) (h : 0 < kOf (bt s i)) : kB s (i + 1) = kB s i ++ [kOf (bt s i)] := if_pos h
theorem kB_no (s : ByteArray) (i : Nat) (h : ¬ 0 < kOf (bt s i)) : kB s (i + 1) = kB s i := if_neg h
theorem kB_le (s : ByteArray) (i : Nat) : (kB s i).length ≤ i := by
  induction i with
  | zero => simp [kB]
  | succ i ih =>
    by_cases h : 0 < kOf (bt s i)
    · rw [kB_yes s i h]; simp; omega
    · rw [kB_no s i h]; omega
/-- what element k holds when its first i bytes are read -/
def ksAt (ks : Nat → List Int) (k : Nat) (s : ByteArray) (i : Nat) : Nat → List Int := fun j => if j = k then ks j ++ kB s i else ks j
def ksD (pre : List (Int × ByteArray)) : Nat → List Int := pre.foldl (fun ks x => ksAt ks x.1.toNat x.2 x.2.size) (fun _ => [])
theorem ksD_snoc (pre : List (Int × ByteArray)) (x : Int × ByteArray) : ksD (pre ++ [x]) = ksAt (ksD pre) x.1.toNat x.2 x.2.size := by simp [ksD]
structure TabD (n₀ g cap : Nat) (ks : Nat → List Int) (us : Nat → Value) (W : World) : Prop where
  row : W.ownsRow n₀ 84 3 (.slice (some ⟨g, 0, none⟩) 59 cap) 59 (cellsD 0 LD us)
  inn : ∀ j, W.ownsRow n₀ 3 1 (us j) (ks j).length ((ks j).map (Value.int .i64))
  apt : ∀ i j b, (us i).ownBlock = some b → (us j).ownBlock = some b → i = j
theorem TabD.kept {n₀ g cap : Nat} {ks : Nat → List Int} {us : Nat → Value} {W W' : World} (h : TabD n₀ g cap ks us W) {r : Option Nat} (hg : W.grownBy W' r) (hr : ∀ b, r = some b → b ≠ g ∧ ∀ j, (us j).ownBlock ≠ some b) : TabD n₀ g cap ks us W' := by
  refine ⟨h.row.kept hg ?_, fun j => (h.inn j).kept hg ?_, h.apt⟩
  · refine .inr fun e => ?_
    exact (hr g e.symm).1 rfl
  · cases hb : (us j).ownBlock with
    | none => exact .inl rfl
    | some b => exact .inr fun e => (hr b e.symm).2 j hb
theorem TabD.alloc {n₀ g cap : Nat} {ks : Nat → List Int} {us : Nat → Value} {W : World} (h : TabD n₀ g cap ks us W) (o : Obj) : TabD n₀ g cap ks us (W.alloc o) := h.kept (World.grownBy_alloc W o none) (fun _ e => by cases e)
theorem TabD.drew {n₀ g cap : Nat} {ks : Nat → List Int} {us : Nat → Value} {W : World} (h : TabD n₀ g cap ks us W) (m : Nat) : TabD n₀ g cap ks us (W.drewN m) := h.kept (grown_of_below (pw_below_drewN (Below.refl _ _) m) none) (fun _ e => by cases e)
theorem TabD.still {n₀ g cap : Nat} {ks : Nat → List Int} {us : Nat → Value} {W W' : World} {row : Option Nat} (h : TabD n₀ g cap ks us W) (hg : W.grownBy W' row) (hr : ∀ r, row = some r → ∃ o : Obj, W.heap[r]? = some o ∧ o.isCells = false) : TabD n₀ g cap ks us W' :=
  ⟨own_still h.row hg hr, fun j => own_still (h.inn j) hg hr, h.apt⟩
theorem TabD.cell {n₀ g cap : Nat} {ks : Nat → List Int} {us : Nat → Value} {W : World} (h : TabD n₀ g cap ks us W) (k : Nat) (hk : k < 59) : W.cell? ⟨g, k * 3 + 2, none⟩ = some (us k) := by
  rw [h.row.cellAt (k * 3 + 2) (by omega), Nat.mul_comm k 3, cellsD_get 0 LD us k (by rw [LD_length]; exact hk), Nat.zero_add]
theorem TabD.frozen {n₀ g cap : Nat} {ks : Nat → List Int} {us : Nat → Value} {W : World} (h : TabD n₀ g cap ks us W) (j : Nat) : W.frozen? ⟨g, j, none⟩ = false := h.row.frozenAt j
theorem TabD.ne {n₀ g cap : Nat} {ks : Nat → List Int} {us : Nat → Value} {W : World} (h : TabD n₀ g cap ks us W) (j : Nat) : (us j).ownBlock ≠ some g := by
  intro e
  obtain ⟨c1, h1⟩ := own_typed (h.inn j) g e
  obtain ⟨c2, h2⟩ := own_typed h.row g rfl
  rw [h1] at h2; cases h2
/-- the append's two words, and the store -/
theorem TabD.step {n₀ g cap : Nat} {ks : Nat → List Int} {us : Nat → Value} {W w1 : World} (h : TabD n₀ g cap ks us W) (k : Nat) (hk : k < 59) (x : Int) (v' : Value)
    (hown : w1.ownsRow n₀ 3 1 v' ((ks k).length + 1) ((ks k).map (Value.int .i64) ++ [.int .i64 x])) (hg : W.grownBy w1 (us k).ownBlock) (hat : v'.ownBlock = (us k).ownBlock ∨ v'.ownBlock = some W.heap.size) :
    w1.cell? ⟨g, k * 3 + 2, none⟩ = some (us k) ∧ w1.frozen? ⟨g, k * 3 + 2, none⟩ = false ∧ TabD n₀ g cap (fun j => if j = k then ks j ++ [x] else ks j) (updD us k v') (w1.setCell ⟨g, k * 3 + 2, none⟩ v') := by
  have hrow : w1.ownsRow n₀ 84 3 (.slice (some ⟨g, 0, none⟩) 59 cap) 59 (cellsD 0 LD us) := h.row.kept hg (.inr fun e => h.ne k e.symm)
  have hst := hrow.stored (k * 3 + 2) v'
  rw [Nat.mul_comm k 3, cellsD_set 0 LD us k v' (by rw [LD_length]; exact hk), Nat.zero_add] at hst
  have hcell : w1.cell? ⟨g, k * 3 + 2, none⟩ = some (us k) := by
    rw [hrow.cellAt (k * 3 + 2) (by omega), Nat.mul_comm k 3, cellsD_get 0 LD us k (by rw [LD_length]; exact hk), Nat.zero_add]
  have hvg : v'.ownBlock ≠ some g := by
    intro e
    obtain ⟨c1, h1⟩ := own_typed hown g e
    obtain ⟨c2, h2⟩ := own_typed hrow g rfl
    rw [h1] at h2; cases h2
  have hvj : ∀ j b, j ≠ k → (us j).ownBlock = some b → v'.ownBlock ≠ some b := by
    intro j b hj hb e
    rcases hat with h' | h'
    · exact hj (h.apt j k b hb (by rw [← h']; exact e))
    · rw [h'] at e; cases e
      have := own_lt (h.inn j) _ hb
      omega
  refine ⟨hcell, hrow.frozenAt _, ?_⟩
  rw [Nat.mul_comm k 3]
  refine ⟨hst.1, fun j => ?_, fun i j b hi hj => ?_⟩
  · by_cases e : j = k
    · subst e
      rw [show updD us j v' j = v' from if_pos rfl, if_pos rfl, List.length_append, List.map_append]
      exact hown.kept hst.2 (by cases hb : v'.ownBlock with | none => exact .inl rfl | some b => exact .inr fun e => hvg (hb.trans e))
    · rw [show updD us k v' j = us j from if_neg e, if_neg e]
      refine ((h.inn j).kept hg ?_).kept hst.2 ?_
      · cases hb : (us j).ownBlock with
        | none => exact .inl rfl
        | some b => exact .inr fun e' => e (h.apt j k b hb e'.symm)
      · cases hb : (us j).ownBlock with
        | none => exact .inl rfl
        | some b => exact .inr fun e' => h.ne j (hb.trans e')
  · by_cases ei : i = k <;> by_cases ej : j = k
    · rw [ei, ej]
    · rw [show updD us k v' j = us j from if_neg ej] at hj
      subst ei
      rw [show updD us i v' i = v' from if_pos rfl] at hi
      exact absurd hi (hvj j b ej hj)
    · rw [show updD us k v' i = us i from if_neg ei] at hi
      subst ej
      rw [show updD us j v' j = v' from if_pos rfl] at hj
      exact absurd hj (hvj i b ei hi)
    · rw [show updD us k v' i = us i from if_neg ei] at hi
      rw [show updD us k v' j = us j from if_neg ej] at hj
      exact h.apt i j b hi hj
theorem infoD3 : (Try.prog.info? 3).map (fun i => (i.zero, i.size, i.bytes)) = some (some (.int .i64 0), 1, 8) := by kernel_rfl
theorem ksAt_yes (ks : Nat → List Int) (k : Nat) (s : ByteArray) (i : Nat) (h : 0 < kOf (bt s i)) : ksAt ks k s (i + 1) = fun j => if j = k then ksAt ks k s i j ++ [kOf (bt s i)] else ksAt ks k s i j := by
  funext j
  unfold ksAt
  by_cases e : j = k
  · rw [if_pos e, if_pos e, if_pos e, kB_yes s i h, List.append_assoc]
  · rw [if_neg e, if_neg e, if_neg e]
theorem ksAt_no (ks : Nat → List Int) (k : Nat) (s : ByteArray) (i : Nat) (h : ¬ 0 < kOf (bt s i)) : ksAt ks k s (i + 1) = ksAt ks k s i := by
  funext j
  unfold ksAt
  rw [kB_no s i h]
theorem ksAt_zero (ks : Nat → List Int) (k : Nat) (s : ByteArray) : ksAt ks k s 0 = ks := by
  funext j
  unfold ksAt
  split <;> simp [kB]
structure StD (w0 : World) (Bt Bs D1 B g cap : Nat) (ks : Nat → List Int) (us : Nat → Value) (W2 W : World) : Prop where
  tab : TabD w0.heap.size g cap ks us W
  box : Boxed W Bt 72 (.slice (some ⟨g, 0, none⟩) 59 cap)
  str : Boxed W Bs 9 (.string kdD)
  dfr : W.heap[D1]? = some (.deferred (some []))
  bel : Below w0.heap.size w0 W
  kf : KeepsFrom B W2 W
theorem StD.alloc {w0 : World} {Bt Bs D1 B g cap : Nat} {ks : Nat → List Int} {us : Nat → Value} {W2 W : World} (h : StD w0 Bt Bs D1 B g cap ks us W2 W) (o : Obj) : StD w0 Bt Bs D1 B g cap ks us W2 (W.alloc o) :=
  ⟨h.tab.alloc o, h.box.alloc o, h.str.alloc o, (Below.heap_alloc _ _ _ (Array.getElem?_eq_some_iff.1 h.dfr).1).trans h.dfr, h.bel.alloc h.bel.size o, h.kf.trans ((KeepsOthers.alloc W o).from B)⟩
theorem StD.drewN {w0 : World} {Bt Bs D1 B g cap : Nat} {ks : Nat → List Int} {us : Nat → Value} {W2 W : World} (h : StD w0 Bt Bs D1 B g cap ks us W2 W) (m : Nat) : StD w0 Bt Bs D1 B g cap ks us W2 (W.drewN m) :=
  ⟨h.tab.drew m, h.box, h.str, h.dfr, pw_below_drewN h.bel m, h.kf.trans ⟨Nat.le_refl _, fun _ _ _ hk _ => hk⟩⟩
theorem StD.step {w0 : World} {Bt Bs D1 B g cap : Nat} {ks : Nat → List Int} {us : Nat → Value} {W2 W w1 : World} (h : StD w0 Bt Bs D1 B g cap ks us W2 W) (hBt : w0.heap.size ≤ Bt) (k : Nat) (hk : k < 59) (x : Int) (v' : Value)
    (hown : w1.ownsRow w0.heap.size 3 1 v' ((ks k).length + 1) ((ks k).map (Value.int .i64) ++ [.int .i64 x])) (hg : W.grownBy w1 (us k).ownBlock) (hat : v'.ownBlock = (us k).ownBlock ∨ v'.ownBlock = some W.heap.size) :
    w1.cell? ⟨g, k * 3 + 2, none⟩ = some (us k) ∧ w1.frozen? ⟨g, k * 3 + 2, none⟩ = false ∧ StD w0 Bt Bs D1 B g cap (fun j => if j = k then ks j ++ [x] else ks j) (updD us k v') W2 (w1.setCell ⟨g, k * 3 + 2, none⟩ v') := by
  obtain ⟨a1, a2, a3⟩ := h.tab.step k hk x v' hown hg hat
  have hst : ∀ (b : Nat) (o : Obj), W.heap[b]? = some o → some b ≠ (us k).ownBlock → b ≠ g → (w1.setCell ⟨g, k * 3 + 2, none⟩ v').heap[b]? = some o := fun b o hb h1 h2 =>
    (Below.heap_setCell w1 ⟨g, k * 3 + 2, none⟩ v' b h2).trans ((hg.block b (Array.getElem?_eq_some_iff.1 hb).1 h1).trans hb)
  have hgb : ∀ b, (us k).ownBlock = some b → w0.heap.size ≤ b := fun b hb => own_base (h.tab.inn k) b hb
  have hgg : w0.heap.size ≤ g := own_base h.tab.row g rfl
  refine ⟨a1, a2, a3, hst _ _ h.box (h.box.not_row (by decide) (h.tab.inn k)) ?_, hst _ _ h.str (h.str.not_row (by decide) (h.tab.inn k)) ?_, hst _ _ h.dfr ?_ ?_, (h.bel.grown hg h.bel.size hgb).setCell (p := ⟨g, k * 3 + 2, none⟩) hgg v', ?_⟩
  · intro e; have := h.box.not_row (by decide) h.tab.row; exact this (by rw [e]; rfl)
  · intro e; have := h.str.not_row (by decide) h.tab.row; exact this (by rw [e]; rfl)
  · intro e
    obtain ⟨c, hc⟩ := own_typed (h.tab.inn k) D1 e.symm
    rw [h.dfr] at hc; cases hc
  · intro e
    obtain ⟨c, hc⟩ := own_typed h.tab.row g rfl
    rw [← e, h.dfr] at hc; cases hc
  · refine h.kf.trans ((KeepsOthers.from (KeepsOthers.of_grownBy hg fun j o ej hj => ?_) B).trans ((KeepsOthers.setCell _ _ _).from B))
    obtain ⟨c, hc⟩ := own_typed (h.tab.inn k) j ej
    rw [hc] at hj; cases hj; rfl
theorem idx53 (l m : Nat) (W : World) (c : Int) : CallsIn (Fence.wide.inRound l) m Try.prog 53 #[.slice (some ⟨W.heap.size, 0, none⟩) 7 7, .int .u8 c] (W.alloc (.cells #[.int .u8 45, .int .u8 114, .int .u8 118, .int .u8 98, .int .u8 119, .int .u8 115, .int .u8 110] 5 (7, 8))) fun e w' => e = .returned (.int .i64 (kOf c)) ∧ ∃ nd, w' = (W.alloc (.cells #[.int .u8 45, .int .u8 114, .int .u8 118, .int .u8 98, .int .u8 119, .int .u8 115, .int .u8 110] 5 (7, 8))).drewN nd := by
  refine CallsIn.inRound l (callsIn_wide.2 ((slices_Index_byte_byte.calls 9 (some ⟨W.heap.size, 0, none⟩) 7 [45, 114, 118, 98, 119, 115, 110] c (kOf c) _ (Kd.C_of_reads (d := (0 : Int)) (h1 := fun _ => rfl) ⟨rfl, by simp, fun _ => ⟨_, rfl, fun j hj => ?_⟩⟩) (Nat.le_refl _) (kOf_f c)).mono ?_))
  · rw [add_plain]
    match j, hj with
    | 0, _ => exact (World.cell?_alloc_mark _ _ _ _ _).trans rfl
    | 1, _ => exact (World.cell?_alloc_mark _ _ _ _ _).trans rfl
    | 2, _ => exact (World.cell?_alloc_mark _ _ _ _ _).trans rfl
    | 3, _ => exact (World.cell?_alloc_mark _ _ _ _ _).trans rfl
    | 4, _ => exact (World.cell?_alloc_mark _ _ _ _ _).trans rfl
    | 5, _ => exact (World.cell?_alloc_mark _ _ _ _ _).trans rfl
    | 6, _ => exact (World.cell?_alloc_mark _ _ _ _ _).trans rfl
    | j + 7, h => exact absurd h (by simp)
  · rintro e w' ⟨rfl, ⟨nd, rfl⟩⟩
    exact ⟨rfl, nd, rfl⟩
def PD (x : Int × ByteArray) : Prop := 0 ≤ x.1 ∧ x.1 < 59 ∧ x.2.size ≤ 10
set_option maxRecDepth 100000 in
theorem PD_all : ∀ k : Nat, k < kdD.size → bt kdD k = 32 → PD (((prt kdD k).1.length : Int), kdD.extract (prt kdD k).2 k) := by
  unfold PD
  decide +kernel
def LK : List (Int × ByteArray) := (prt kdD kdD.size).1
theorem ksD_len (pre : List {x : Int × ByteArray // PD x}) : ∀ (ks : Nat → List Int) (j : Nat), ((((pre.map Subtype.val).foldl (fun ks x => ksAt ks x.1.toNat x.2 x.2.size) ks) j).length : Nat) ≤ (ks j).length + 10 * pre.length := by
  induction pre with
  | nil => intro ks j; simp
  | cons x pre ih =>
    intro ks j
    rw [List.map_cons, List.foldl_cons]
    refine Nat.le_trans (ih _ j) ?_
    have h1 := kB_le x.1.2 x.1.2.size
    have h2 := x.2.2.2
    unfold ksAt
    split
    · rw [List.length_append, List.length_cons]; omega
    · rw [List.length_cons]; omega
theorem ksAt_len (pre : List {x : Int × ByteArray // PD x}) (k : Nat) (s : ByteArray) (i j : Nat) : (ksAt (ksD (pre.map Subtype.val)) k s i j).length ≤ 10 * pre.length + i := by
  have h := ksD_len pre (fun _ => []) j
  have h1 := kB_le s i
  unfold ksAt ksD
  split
  · rw [List.length_append]; simp at h; omega
  · simp at h; omega
def appHid (v x : Value) : Sem Value := Builtin.append_ #[22, 22] 22 #[v, x]
theorem appHid_eq (v x : Value) : Builtin.append_ #[22, 22] 22 #[v, x] = appHid v x := rfl
theorem wpListIn_append_at {F : Fence} {n : Nat} {P : Program} (w : World) {ops : Array Oper} {rest : List Oper} {o : Oper} {a : Act} {Q : Exit → Act → World → Prop}
    (hg : o.guard = none) (s x : Operand) (t : TypeId) (hop : o.op = Op.call { callee := Callee.builtin Builtin.append, args := #[s, x], argTypes := #[t, t] })
    (base : Nat) (e : TypeId) (i : TypeInfo) (z : Value) (size bytes : Nat) (h1 : P.underlying t = some (.slice e)) (h2 : P.info? e = some i) (h3 : i.zero = some z) (h4 : i.size = size) (h5 : i.bytes = bytes) (h6 : z.cells.size = size) (h7 : 0 < size)
    (v : Value) (k : Nat) (xs : List Value) (hs : a.eval s = v) (hown : w.ownsRow base e size v k xs) (ad : Addr) (m c : Nat) (news : List Value) (hx : a.eval x = .slice (some ad) m c) (hn : news.length = m * size)
    (hc : ∀ j u, news[j]? = some u → w.cell? (ad.add j) = some u) (h1c : ∀ u ∈ news, u.oneCell' = true) (b1 : k + m ≤ maxLen) (b2 : (k + m) * bytes ≤ 140737488355328) (b3 : base ≤ w.heap.size)
    (hK : ∀ v' w', w'.ownsRow base e size v' (k + m) (xs ++ news) → w.grownBy w' v.ownBlock → (v'.ownBlock = v.ownBlock ∨ v'.ownBlock = some w.heap.size) → wpListIn F n P ops Q rest (a.put o.dst v') w') :
    wpListIn F n P ops Q (o :: rest) a w := by
  refine wpListIn_plain hg fun K hK' => ?_
  obtain ⟨v', w', hrun, r1, r2, _, r3⟩ := run_append_own_at (P := P) w base t o.type e i z size bytes h1 h2 h3 h4 h5 h6 h7 v k xs hown ad m c news hn hc h1c b1 b2 b3
  unfold Oper.wpIn
  refine ⟨?_, ?_⟩
  · simp [Oper.about, hop, resolve, Target.leads, Sem.run_pure]
  · rw [Oper.semAt_plain F _ _ (by rw [hop]; intro c hc'; cases hc')]
    simp [execOp, hop, resolve, invoke, builtin, hs, hx, hrun, Result.andThen]
    exact hK' _ _ (hK v' w' r1 r2 r3)

attribute [local go_sem 10000] appHid_eq
attribute [local go_sem ↓] appHid_eq
set_option maxRecDepth 100000 in
set_option maxHeartbeats 2000000 in
theorem isa_Default.in_ (w : World) : CallsIn Fence.wide 5 Try.prog 34 #[] w fun e W' => ∃ g cap us, e = .returned (.slice (some ⟨g, 0, none⟩) 59 cap) ∧ TabD w.heap.size g cap (ksD LK) us W' ∧ Below w.heap.size w W' := by
  obtain ⟨i0, hi, hz0, hz1, hz2⟩ := info_parts infoD84
  refine callsIn_of_wp_marks Try.func34 rfl trivial ?_ rfl
  simp only [Try.ntmps34, List.size_toArray, List.length_cons, List.length_nil, Nat.reduceAdd, Nat.reduceSub, Array.replicate_succ, Array.replicate_zero, List.push_toArray, List.append_toArray, List.nil_append, List.cons_append]
  gi_wp2_with (refine ⟨trivial, ?_⟩; gi_at_call 52; refine (isa_fields.in_ _ nmD _).mono ?_; rintro e w' ⟨rfl, rfl⟩)
  have bT := Boxed.new w 72 (.slice none 0 0)
  have bS := Boxed.new (w.alloc (.cells #[.slice none 0 0] 72)) 9 (.string nmD)
  rw [World.size_alloc] at bS
  have hB0 : Below w.heap.size w ((w.alloc (.cells #[.slice none 0 0] 72)).alloc (.cells #[.string nmD] 9)) := ((Below.refl _ w).alloc (Nat.le_refl _) _).alloc (by simp) _
  refine wpIn_rangeFunc_ownG rfl (by omega) (gf := 63) (lb := #[.pointer (some ⟨w.heap.size + 1, 0, none⟩)]) rfl trivial (enters_of Try.func63 (by kernel_rfl) rfl)
    (isa_fields.stops 4 (by omega) (w.heap.size + 1) nmD (by rw [nmD_size]; omega) (fun _ => True) (fun _ _ _ => trivial) _ bS) (fun h1 h2 => h2.trans h1) (fun W l o o' hl ho hno _ => World.putObj_heap_other (by simp at hl; omega)) (Below.refl _ _) (fun _ => rfl)
    (fun pre W => (Boxed W (w.heap.size + 1) 9 (.string nmD) ∧ ∃ v, Boxed W w.heap.size 72 v ∧ W.ownsRow w.heap.size 84 3 v pre.length (cellsD 0 (pre.map Subtype.val) fun _ => .slice none 0 0)) ∧ Below w.heap.size w W)
    (fun _ _ _ => False)
    (OwnFrom.and (Own.from (fun s A B row hs hg hr => ⟨boxed_still hs.1 hg hr, by obtain ⟨v, h1, h2⟩ := hs.2; exact ⟨v, boxed_still h1 hg hr, own_still h2 hg hr⟩⟩) _) (ownFrom_below (Nat.le_refl _) (by simp; omega)))
    (fun _ _ _ _ _ hs _ _ => hs)
    ⟨⟨bS, _, bT.alloc _, World.ownsRow_nil _ _ _ _⟩, hB0⟩
    (fun x => { tmps := #[.slice none 0 0, .pointer (some ⟨w.heap.size, 0, none⟩), .int .i64 x.1.1, .string x.1.2, undef, undef, undef, undef, .func (.func 63) #[] #[.pointer (some ⟨w.heap.size + 1, 0, none⟩)], .int .i64 x.1.1, .string x.1.2, undef, undef, undef, undef, undef, undef, undef, undef, undef, undef, undef, undef, undef, undef, undef, undef, undef, undef, undef, undef, undef, undef, undef, undef, undef, undef, undef, undef, undef, undef, undef, undef, undef, undef, undef, undef, undef, undef, undef], defers := [] }) ?assign ?body ?done ?stop
  case assign =>
    intro l x W K hK
    gi_wp2
    exact hK
  case body =>
    rintro l pre x W ⟨⟨hS, v, hv, hrow⟩, hB⟩ hlt
    have hc := hv.cell
    rw [nmD_size] at hlt
    gi_wp2_with (gi_at_builtin; refine wpListIn_append_own _ rfl (.tmp 11) (.tmp 18) 72 rfl w.heap.size 84 i0 (.agg #[.string ⟨#[]⟩, .int .i64 0, .slice none 0 0]) 3 48 Try.underlying72 hi hz0 hz1 hz2 ?c6 ?c7 v pre.length (cellsD 0 (pre.map Subtype.val) fun _ => .slice none 0 0) ?c8 (hrow.alloc _) ⟨W.heap.size, 0, none⟩ 1 1 (rowD x.1 (.slice none 0 0)) ?c9 ?c10 ?c1 ?c2 ?c3 ?c4 ?c5 ?_; (case c6 => rfl); (case c7 => decide); (case c8 => rfl); (case c9 => rfl); (case c10 => rfl); (case c1 => exact cell_three_new _ _ _ _ _); (case c2 => exact rowD_one _ _ rfl); (case c3 => unfold maxLen; omega); (case c4 => omega); (case c5 => (have := hB.size; simp; omega)); intro v' w1 hown' hgrow _; obtain ⟨g', cap', rfl⟩ := ownsRow_succ hown'; have hS1 := (hS.alloc _).kept hgrow (hS.not_row (by decide) hrow); obtain ⟨hv1, hv2, hr2, hk2, hb2⟩ := hv.appended (by decide) hrow hB.size (Nat.le_refl _) hown' hgrow; have hc1 := hv1.cell; have hf1 := hv1.frozen)
    have hS2 := hS1.other (B' := w.heap.size) (by omega) (.slice (some ⟨g', 0, none⟩) (pre.length + 1) cap')
    refine ⟨hk2.from _, hS2.trans hS.symm, ⟨hS2, _, hv2, ?_⟩, hB.trans hb2⟩
    rw [List.map_append, List.map_singleton, cellsD_snoc, List.length_append]; exact hr2
  case done =>
    rintro D1 ys W hD1 hys ⟨⟨hS, v, hv, hrow⟩, hB⟩ hK1
    have hlen : ys.length = 59 := by rw [← LD_length, LD, ← hys, List.length_map]
    rw [hys, hlen] at hrow
    obtain ⟨g, cap, rfl⟩ := ownsRow_succ hrow
    have hc := hv.cell
    have T0 : TabD w.heap.size g cap (ksD []) (fun _ => .slice none 0 0) W := ⟨hrow, fun j => World.ownsRow_nil _ _ _ _, fun i j b h => by simp [Value.ownBlock] at h⟩
    have hDlt : D1 < W.heap.size := (Array.getElem?_eq_some_iff.1 hK1).1
    gi_wp2_with (refine ⟨trivial, ?_⟩; gi_at_call 52; refine (isa_fields.in_ _ kdD _).mono ?_; rintro e w' ⟨rfl, rfl⟩)
    have bS2 := Boxed.new W 9 (.string kdD)
    refine wpIn_rangeFunc_ownG rfl (by omega) (gf := 63) (lb := #[.pointer (some ⟨W.heap.size, 0, none⟩)]) rfl trivial (enters_of Try.func63 (by kernel_rfl) rfl)
      (isa_fields.stops 4 (by omega) W.heap.size kdD (by rw [kdD_size]; omega) PD PD_all _ bS2) (fun h1 h2 => h2.trans h1) (fun W2 l o o' hl ho hno _ => World.putObj_heap_other (by simp at hl; omega)) (Below.refl _ _) (fun _ => rfl)
      (fun pre W2 => (Boxed W2 W.heap.size 9 (.string kdD) ∧ Boxed W2 w.heap.size 72 (.slice (some ⟨g, 0, none⟩) 59 cap) ∧ ∃ us, TabD w.heap.size g cap (ksD (pre.map Subtype.val)) us W2) ∧ W2.heap[D1]? = some (.deferred (some [])) ∧ Below w.heap.size w W2)
      (fun _ _ _ => False)
      (OwnFrom.and (Own.from (fun s A B row hs hg hr => ⟨boxed_still hs.1 hg hr, boxed_still hs.2.1 hg hr, by obtain ⟨us, h1⟩ := hs.2.2; exact ⟨us, h1.still hg hr⟩⟩) _) (OwnFrom.and (fun s A B row hs hg hr => (hg.block D1 (Array.getElem?_eq_some_iff.1 hs).1 (fun e => by have := (hr D1 e.symm).1; simp at this; omega)).trans hs) (ownFrom_below (Nat.le_refl _) (by have := hB.size; simp; omega))))
      (fun _ _ _ _ _ hs _ _ => hs)
      ⟨⟨bS2, hv.alloc _, _, T0.alloc _⟩, (Below.heap_alloc _ _ _ hDlt).trans hK1, hB.alloc hB.size _⟩
      (fun x => { tmps := #[.slice none 0 0, .pointer (some ⟨w.heap.size, 0, none⟩), undef, undef, .int .i64 x.1.1, .string x.1.2, undef, undef, .func (.func 63) #[] #[.pointer (some ⟨w.heap.size + 1, 0, none⟩)], undef, undef, undef, undef, undef, undef, undef, undef, undef, undef, undef, .func (.func 63) #[] #[.pointer (some ⟨W.heap.size, 0, none⟩)], .int .i64 x.1.1, .string x.1.2, undef, undef, undef, undef, undef, undef, undef, undef, undef, undef, undef, undef, undef, undef, undef, undef, undef, undef, undef, undef, undef, undef, undef, undef, undef, undef, undef], defers := [] }) ?assign2 ?body2 ?done2 ?stop2
    case assign2 =>
      intro l x W K hK
      gi_wp2
      exact hK
    case body2 =>
      rintro l pre ⟨⟨x1, s⟩, hx0, hx59, hxs⟩ W2 ⟨⟨hS2, hv2, us, T2⟩, hD2, hB2⟩ hlt
      obtain ⟨k, rfl⟩ := Int.eq_ofNat_of_zero_le hx0
      dsimp only at hx59 hxs
      have S0 : StD w w.heap.size W.heap.size D1 (W.alloc (.cells #[.string kdD] 9)).heap.size g cap (ksAt (ksD (pre.map Subtype.val)) k s 0) us W2 W2 := ⟨by rw [ksAt_zero]; exact T2, hv2, hS2, hD2, hB2, KeepsFrom.refl _ _⟩
      have hk59 : k < 59 := by omega
      have hcv := fun (w : World) (C : Array Value) (n c : Nat) => Lib.run_convert_bytes_const (P := Try.prog) w 88 5 C n c Try.underlying88 Try.underlying5
      gi_wp2
      gi_loopw [25] (fun c wr => ∃ (i : Nat) (us : Nat → Value), i ≤ s.size ∧ c = .int .i64 (i : Int) ∧ Aside0 (StD w w.heap.size W.heap.size D1 (W.alloc (.cells #[.string kdD] 9)).heap.size g cap (ksAt (ksD (pre.map Subtype.val)) k s i) us W2 wr)) (fun c _ => s.size - (intOf c).toNat)
      case atStart => exact ⟨0, us, Nat.zero_le _, rfl, ⟨S0⟩⟩
      case round =>
        clear S0 T2 us
        obtain ⟨i, us, hi, rfl, ST⟩ := hrel
        by_cases hlt2 : i < s.size
        · have hbt : bt s i = (s[i].toNat : Int) := by
            have := bt_at s (i : Int) (by omega); simp at this; omega
          have hsa := ST.out.bel.size
          obtain ⟨i3, hi3, hy0, hy1, hy2⟩ := info_parts infoD3
          have hkl := kB_le s i
          by_cases hpos : 0 < kOf (bt s i)
          · have hdec : decide (0 < kOf (s[i].toNat : Int)) = true := by rw [← hbt]; exact decide_eq_true hpos
            have HK := Lib.hid (ksAt_yes (ksD (pre.map Subtype.val)) k s i hpos)
            have HBT := Lib.hid hbt
            clear hbt hpos
            have hlen3 := Lib.hid (ksAt_len pre k s i k)
            gi_wp2_with (refine ⟨trivial, ?_⟩; gi_at_call 53; refine (idx53 l _ wr _).mono ?_; rintro e W3 ⟨rfl, nd, hW3⟩; have S3 : Aside0 (StD w w.heap.size W.heap.size D1 (W.alloc (.cells #[.string kdD] 9)).heap.size g cap (ksAt (ksD (pre.map Subtype.val)) k s i) us W2 W3) := ⟨by rw [hW3]; exact (ST.out.alloc _).drewN nd⟩; clear hW3 ST; have hc3 := S3.out.box.cell; have hk3 := S3.out.tab.cell k hk59)
            rw [kdD_size] at hlt
            have S5 : Aside0 (StD w w.heap.size W.heap.size D1 (W.alloc (Obj.cells #[Value.string kdD] 9)).heap.size g cap (ksAt (ksD (List.map Subtype.val pre)) k s i) us W2 (W3.drew.alloc (.cells #[.int .i64 (kOf (s[i].toNat : Int))] 3))) := ⟨(S3.out.drewN 1).alloc _⟩
            obtain ⟨v', w1, hrun, hown', hgrow, _, hat⟩ := run_append_own_at (P := Try.prog) (W3.drew.alloc (.cells #[.int .i64 (kOf (s[i].toNat : Int))] 3)) w.heap.size 22 22 3 i3 (.int .i64 0) 1 8 Try.underlying22 hi3 hy0 hy1 hy2 rfl (by decide) (us k) (ksAt (ksD (pre.map Subtype.val)) k s i k).length ((ksAt (ksD (pre.map Subtype.val)) k s i k).map (Value.int .i64)) (S5.out.tab.inn k) ⟨W3.heap.size, 0, none⟩ 1 1 [.int .i64 (kOf (s[i].toNat : Int))] rfl (cell_one_new W3.drew _ _) (by intro c hc; simp at hc; subst hc; rfl) (by have := hlen3.out; unfold maxLen; omega) (by have := hlen3.out; omega) (by have := S3.out.bel.size; simp only [World.size_alloc, World.drew]; omega)
            have hB5 := (S5.out.box.kept hgrow (S5.out.box.not_row (by decide) (S5.out.tab.inn k))).cell
            obtain ⟨g', cap', rfl⟩ := ownsRow_succ hown'
            obtain ⟨hcell1, hfr1, S4'⟩ := S5.out.step (Nat.le_refl _) k hk59 (kOf (s[i].toNat : Int)) _ hown' hgrow hat
            have S4 : Aside0 _ := ⟨S4'⟩
            have hc5 : World.cell? (W3.drew.alloc (.cells #[.int .i64 (kOf (s[i].toNat : Int))] 3)) _ = _ := S5.out.box.cell
            have hk5 : World.cell? (W3.drew.alloc (.cells #[.int .i64 (kOf (s[i].toNat : Int))] 3)) _ = _ := S5.out.tab.cell k hk59
            clear S4' hown' hgrow hat S5 S3
            refine startIn_ (by kernel_rfl) (n := 13) (S := fun w' => w'.cell? ⟨w.heap.size, 0, none⟩ = some (.slice (some ⟨g, 0, none⟩) 59 cap) ∧ w'.cell? ⟨g, k * 3 + 2, none⟩ = some (us k)) (ds := [12]) #[false, false, false, false, false, false, false, false, false, false, false, false, false] (by kernel_rfl) rfl rfl ⟨hc3, hk3⟩ (fun hHeld => ?_)
            refine pure_ (i := 1) (N := some 37) (v := ?_) (a' := ?_) #[false, true, false, false, false, false, false, false, false, false, false, false, false] rfl rfl (by kernel_rfl) (fun _ _ _ h => only_panic h) (Or.inl ⟨by rfl, ?_⟩) ?_ ?_
            rotate_left
            · intro w'
              go_simp
              with_reducible rfl
            rotate_left
            · simp only [Act.put, List.setIfInBounds_toArray, List.set_cons_zero, List.set_cons_succ, i64_w, i32_w]
              rfl
            refine pure_ (i := 3) (N := some 39) (v := ?_) (a' := ?_) #[false, true, false, true, false, false, false, false, false, false, false, false, false] rfl rfl (by kernel_rfl) (fun _ _ _ h => only_panic h) (Or.inl ⟨by rfl, ?_⟩) ?_ ?_
            rotate_left
            · intro w'
              go_simp
              with_reducible rfl
            rotate_left
            · simp only [Act.put, List.setIfInBounds_toArray, List.set_cons_zero, List.set_cons_succ, i64_w, i32_w]
              rfl
            refine pure_ (i := 7) (N := some 43) (v := ?_) (a' := ?_) #[false, true, false, true, false, false, false, true, false, false, false, false, false] rfl rfl (by kernel_rfl) (fun _ _ _ h => only_panic h) (Or.inl ⟨by rfl, ?_⟩) ?_ ?_
            rotate_left
            · intro w'
              go_simp
              with_reducible rfl
            rotate_left
            · simp only [Act.put, List.setIfInBounds_toArray, List.set_cons_zero, List.set_cons_succ, i64_w, i32_w]
              rfl
            refine take_ (i := 0) (N := some 36) (v := ?_) (a' := ?_) #[true, true, false, true, false, false, false, true, false, false, false, false, false] rfl rfl (by kernel_rfl) (fun _ _ _ h => only_panic h) (Or.inl ⟨by rfl, ?_⟩) hHeld ?_ ?_
            rotate_left
            · rintro w' ⟨s0, s1⟩
              go_simp
              with_reducible rfl
            rotate_left
            · simp only [Act.put, List.setIfInBounds_toArray, List.set_cons_zero, List.set_cons_succ, i64_w, i32_w]
              rfl
            refine take_ (i := 2) (N := some 38) (v := ?_) (a' := ?_) #[true, true, true, true, false, false, false, true, false, false, false, false, false] rfl rfl (by kernel_rfl) (fun _ _ _ h => only_panic h) (Or.inl ⟨by rfl, ?_⟩) hHeld ?_ ?_
            rotate_left
            · rintro w' ⟨s0, s1⟩
              go_simp
              with_reducible rfl
            rotate_left
            · simp only [Act.put, List.setIfInBounds_toArray, List.set_cons_zero, List.set_cons_succ, i64_w, i32_w]
              rfl
            refine pure_ (i := 4) (N := some 40) (v := ?_) (a' := ?_) #[true, true, true, true, true, false, false, true, false, false, false, false, false] rfl rfl (by kernel_rfl) (fun _ _ _ h => only_panic h) (Or.inl ⟨by rfl, ?_⟩) ?_ ?_
            rotate_left
            · intro w'
              go_simp
              with_reducible rfl
            rotate_left
            · simp only [Act.put, List.setIfInBounds_toArray, List.set_cons_zero, List.set_cons_succ, i64_w, i32_w]
              rfl
            refine pure_ (i := 5) (N := some 41) (v := ?_) (a' := ?_) #[true, true, true, true, true, true, false, true, false, false, false, false, false] rfl rfl (by kernel_rfl) (fun _ _ _ h => only_panic h) (Or.inl ⟨by rfl, ?_⟩) ?_ ?_
            rotate_left
            · intro w'
              go_simp
              with_reducible rfl
            rotate_left
            · simp only [Act.put, List.setIfInBounds_toArray, List.set_cons_zero, List.set_cons_succ, i64_w, i32_w]
              rfl
            refine take_ (i := 6) (N := some 42) (v := ?_) (a' := ?_) #[true, true, true, true, true, true, true, true, false, false, false, false, false] rfl rfl (by kernel_rfl) (fun _ _ _ h => only_panic h) (Or.inl ⟨by rfl, ?_⟩) hHeld ?_ ?_
            rotate_left
            · rintro w' ⟨s0, s1⟩
              go_simp
              with_reducible rfl
            rotate_left
            · simp only [Act.put, List.setIfInBounds_toArray, List.set_cons_zero, List.set_cons_succ, i64_w, i32_w]
              rfl
            refine one_ (i := 8) (N := some 44) #[true, true, true, true, true, true, true, true, true, false, false, false, false] rfl rfl (by kernel_rfl) (by decide) (fun K hK => ?_)
            refine value_ (w1 := ?_) (v := ?_) (by rfl) rfl ?_ ?_
            rotate_left 2
            · go_simp
              constructor
              · rfl
              · rfl
            refine hK.out _ _ ⟨hc5, hk5⟩ (fun hHeld => ?_)
            clear hK K
            refine norm_ (a' := ?_) ?_ ?_
            rotate_left
            · show Act.put _ (some 44) _ = _
              simp only [Act.put, List.setIfInBounds_toArray, List.set_cons_zero, List.set_cons_succ, i64_w, i32_w]
              rfl
            refine one_ (i := 9) (N := some 45) #[true, true, true, true, true, true, true, true, true, true, false, false, false] rfl rfl (by kernel_rfl) (by decide) (fun K hK => ?_)
            refine value_ (w1 := w1) (v := .slice (some ⟨g', 0, none⟩) ((ksAt (ksD (pre.map Subtype.val)) k s i k).length + 1) cap') (by rfl) rfl ?_ ?_
            · simp [execOp, resolve, invoke, builtin, Act.eval, Result.andThen]
              rw [show (W3.alloc (.cells #[.int .i64 (kOf (s[i].toNat : Int))] 3)).drew = (W3.drew.alloc (.cells #[.int .i64 (kOf (s[i].toNat : Int))] 3)) from rfl, hrun]
            refine hK.out _ _ ⟨hB5, hcell1⟩ (fun hHeld => ?_)
            clear hK K
            refine norm_ (a' := ?_) ?_ ?_
            rotate_left
            · show Act.put _ (some 45) _ = _
              simp only [Act.put, List.setIfInBounds_toArray, List.set_cons_zero, List.set_cons_succ, i64_w, i32_w]
              rfl
            refine pure_ (i := 10) (N := some 46) (v := ?_) (a' := ?_) #[true, true, true, true, true, true, true, true, true, true, true, false, false] rfl rfl (by kernel_rfl) (fun _ _ _ h => only_panic h) (Or.inl ⟨by rfl, ?_⟩) ?_ ?_
            rotate_left
            · intro w'
              go_simp
              with_reducible rfl
            rotate_left
            · simp only [Act.put, List.setIfInBounds_toArray, List.set_cons_zero, List.set_cons_succ, i64_w, i32_w]
              rfl
            refine pure_ (i := 11) (N := some 47) (v := ?_) (a' := ?_) #[true, true, true, true, true, true, true, true, true, true, true, true, false] rfl rfl (by kernel_rfl) (fun _ _ _ h => only_panic h) (Or.inl ⟨by rfl, ?_⟩) ?_ ?_
            rotate_left
            · intro w'
              go_simp
              with_reducible rfl
            rotate_left
            · simp only [Act.put, List.setIfInBounds_toArray, List.set_cons_zero, List.set_cons_succ, i64_w, i32_w]
              rfl
            refine last_ (i := 12) (N := none) #[true, true, true, true, true, true, true, true, true, true, true, true, true] rfl rfl (by kernel_rfl) (by decide) (fun K hK => ?_)
            refine skip_ (w1 := ?_) (by rfl) rfl ?_ ?_
            rotate_left
            · go_simp
              rfl
            refine hK.out _ _ ?_
            clear hK K
            refine done_ (by kernel_rfl) ⟨rfl, ?_⟩
            gi_wp2
            go_roundw
            case rel => exact ⟨i + 1, updD us k _, by omega, by simp, ⟨by rw [HK.out, HBT.out]; exact S4.out⟩⟩
            case measure => simp [intOf]; omega
          · have hdec : decide (0 < kOf (s[i].toNat : Int)) = false := by rw [← hbt]; exact decide_eq_false hpos
            have HK := Lib.hid (ksAt_no (ksD (pre.map Subtype.val)) k s i hpos)
            clear hbt hpos
            gi_wp2_with (refine ⟨trivial, ?_⟩; gi_at_call 53; refine (idx53 l _ wr _).mono ?_; rintro e W3 ⟨rfl, nd, hW3⟩; have S3 : Aside0 (StD w w.heap.size W.heap.size D1 (W.alloc (.cells #[.string kdD] 9)).heap.size g cap (ksAt (ksD (pre.map Subtype.val)) k s i) us W2 W3) := ⟨by rw [hW3]; exact (ST.out.alloc _).drewN nd⟩; clear hW3 ST; have hc3 := S3.out.box.cell; have hk3 := S3.out.tab.cell k hk59)
            go_roundw
            case rel => exact ⟨i + 1, us, by omega, by simp, ⟨by rw [HK.out]; exact S3.out⟩⟩
            case measure => simp [intOf]; omega
        · obtain rfl : i = s.size := by omega
          gi_wp2
          have hST := ST.out
          refine ⟨hST.kf, hST.str.trans hS2.symm, ⟨hST.str, hST.box, us, ?_⟩, hST.dfr, hST.bel⟩
          rw [List.map_append, List.map_singleton, ksD_snoc]
          exact hST.tab
    case done2 =>
      rintro D2 ys2 W2 hD2 hys2 ⟨⟨hS2, hv2, us, T2⟩, hK2, hB2⟩ hK
      have hc2 := hv2.cell
      have hne : D1 ≠ D2 := by simp at hD2; omega
      gi_wp2
      refine ⟨by simp, .inl ⟨_, _, rfl, run_takeDeferred hK, ?_⟩⟩
      refine ⟨by simp, .inl ⟨_, _, rfl, run_takeDeferred ((World.putObj_heap_other hne).trans hK2), ?_⟩⟩
      refine ⟨_, results_tmp rfl _ _ _, ?_⟩
      refine ⟨g, cap, us, rfl, ?_, ?_⟩
      · rw [← show ys2.map Subtype.val = LK from hys2]
        refine (T2.still (grownBy_putObj' W2 D2 _) (fun r e => by cases e; exact ⟨_, hK, rfl⟩)).still (grownBy_putObj' _ D1 _) (fun r e => by cases e; exact ⟨_, (World.putObj_heap_other hne).trans hK2, rfl⟩)
      · exact (hB2.trans (belowK_b (Nat.le_refl _) W2 D2 _ _ (by have := hB.size; simp at hD2; omega) hK rfl rfl)).trans (belowK_b (Nat.le_refl _) _ D1 _ _ (by simp at hD1; omega) ((World.putObj_heap_other hne).trans hK2) rfl rfl)
    case stop2 =>
      rintro D c pre W _ _ h _
      exact h.elim
  case stop =>
    rintro D c pre W _ _ h _
    exact h.elim
def defaultForms : List S84 := LD.zipIdx.map fun p => ⟨p.1.2, Int.tmod (wrap64 (wrap64 (37 * p.1.1) + 11)) 256, ksD LK p.2⟩
theorem defaultForms_length : defaultForms.length = 59 := by rw [defaultForms, List.length_map, List.length_zipIdx, LD_length]
set_option maxRecDepth 100000 in
theorem TabD.forms {n₀ g cap : Nat} {us : Nat → Value} {W : World} (h : TabD n₀ g cap (ksD LK) us W) : Kd.S k84 84 W n₀ (fun _ => True) (.slice (some ⟨g, 0, none⟩) 59 cap) defaultForms := by
  obtain ⟨f, hr⟩ := Kd.reps_tag (d := k84) (w := W) (base := n₀) (ok := fun k => True ∧ some k ≠ Value.ownBlock (.slice (some ⟨g, 0, none⟩) 59 cap)) (xs := defaultForms) (inner := cellsD 0 LD us) (fun j b => (us j).ownBlock = some b) h.apt
    (fun j k hk => ⟨trivial, fun e => h.ne j (hk.trans e)⟩) (by rw [cellsD_length, defaultForms_length, LD_length, show k84.sz = 3 from rfl]) (fun j x hx => by
      obtain ⟨p, hp, rfl⟩ : ∃ p, LD.zipIdx[j]? = some p ∧ (⟨p.1.2, Int.tmod (wrap64 (wrap64 (37 * p.1.1) + 11)) 256, ksD LK p.2⟩ : S84) = x := by
        rw [defaultForms, List.getElem?_map] at hx
        exact Option.map_eq_some_iff.1 hx
      rw [List.getElem?_zipIdx] at hp
      obtain ⟨y, hy, rfl⟩ := Option.map_eq_some_iff.1 hp
      have h1 := cellsD_take 0 LD us j y hy
      rw [show (k84.sz) = 3 from rfl, h1]
      exact k84_mkM W n₀ _ ⟨y.2, Int.tmod (wrap64 (wrap64 (37 * y.1) + 11)) 256, ksD LK (0 + j)⟩ (v2 := us (0 + j)) (Kd.R_of_own (xs := ksD LK (0 + j)) (h.inn (0 + j)) (fun k hk => by rw [Nat.zero_add] at hk; exact hk)))
  refine ⟨f, fun _ _ => trivial, cellsD 0 LD us, ?_, hr⟩
  rw [List.length_zipIdx, defaultForms_length]
  exact h.row
set_option maxRecDepth 100000 in
def isa_Default.f : Option (List S84) := some defaultForms
theorem isa_Default.calls (r : List S84) (w : World) (h : isa_Default.f = some r) : Calls Try.prog 34 #[] w fun e w' => ∃ v0_ : Value, e = .returned v0_ ∧ Kd.S k84 84 w' w.heap.size (fun _ => True) v0_ r ∧ Below w.heap.size w w' := by
  obtain rfl : defaultForms = r := Option.some.inj h
  refine callsIn_wide.1 ((isa_Default.in_ w).mono ?_)
  rintro e w' ⟨g, cap, us, rfl, hT, hB⟩
  exact ⟨_, rfl, hT.forms, hB⟩

end Go.Proofs.Ytaellapacoikaaa.PA
