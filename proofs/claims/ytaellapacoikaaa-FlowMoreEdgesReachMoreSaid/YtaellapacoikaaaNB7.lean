import Derived.Test.YtaellapacoikaaaNB6
namespace Go.Proofs.Ytaellapacoikaaa.PB
open Go.RowKit Go.Proofs.YtaellapacoikaaaW.PrintWords Go.Proofs.YtaellapacoikaaaW.PrintLast Go.Proofs.YtaellapacoikaaaW.PrintMore Go.Shelf
set_option linter.unusedVariables false
set_option linter.unusedSimpArgs false
/-! ### the variables of flow.dominators in memory -/
/-- what does not change while a row (in the block gx) is written: the graph, the root, the list -/
structure Fix (w : World) (A : Option Addr) (c : Nat) (g : List S62) (root : Int) (go co : Nat) (order : List Int) (gx : Nat) (W : World) : Prop where
 bg : W.heap[w.heap.size]? = some (.cells #[.slice A g.length c] 42 (0, 0))
 bf : W.heap[w.heap.size + 1]? = some (.cells #[.int .i64 root] 3 (0, 0))
 ord : Kd.R (Kd.int .i64) 3 W w.heap.size (fun k => k ≠ gx) (.slice (some ⟨go, 0, none⟩) order.length co) order
 ne : w.heap.size + 1 ≠ gx
 bel : Below w.heap.size w W
theorem Fix.below {w : World} {A : Option Addr} {c : Nat} {g : List S62} {root : Int} {go co : Nat} {order : List Int} {gx : Nat} {W W1 : World} (h : Fix w A c g root go co order gx W) (hb : Below W.heap.size W W1) : Fix w A c g root go co order gx W1 :=
 ⟨blk_below h.bg hb, blk_below h.bf hb, Kd.R_below h.ord hb, h.ne, below_step h.bel hb⟩
/-- a store into the block gx, of whole numbers -/
theorem Fix.put {w : World} {A : Option Addr} {c : Nat} {g : List S62} {root : Int} {go co : Nat} {order : List Int} {gx : Nat} {W : World} (h : Fix w A c g root go co order gx W) {cells : Array Value} (hx : W.heap[gx]? = some (.cells cells 3 (0, 0))) (hge : w.heap.size ≤ gx) (j : Nat) (u : Value) : Fix w A c g root go co order gx (W.setCell ⟨gx, j, none⟩ u) :=
 ⟨blk_far h.bg (blk_ne h.bg hx (by decide)) _, blk_far h.bf h.ne _, Kd.R_far h.ord (fun _ hk => hk) _, h.ne, below_set h.bel hge⟩
/-- a store into a variable of another type -/
theorem Fix.box {w : World} {A : Option Addr} {c : Nat} {g : List S62} {root : Int} {go co : Nat} {order : List Int} {gx : Nat} {W : World} (h : Fix w A c g root go co order gx W) {B t : Nat} {cells : Array Value} (hx : W.heap[B]? = some (.cells cells t (0, 0))) (hge : w.heap.size ≤ B) (h3 : t ≠ 3) (h42 : t ≠ 42) (j : Nat) (u : Value) : Fix w A c g root go co order gx (W.setCell ⟨B, j, none⟩ u) :=
 ⟨blk_far h.bg (blk_ne h.bg hx (Ne.symm h42)) _, blk_far h.bf (blk_ne h.bf hx (Ne.symm h3)) _, Kd.R_set h.ord hx (fun q hq => by rcases List.mem_cons.1 hq with rfl | hq; exact Ne.symm h3; cases hq) _ _, h.ne, below_set h.bel hge⟩
theorem vis_last {k : Nat} {g : List S62} {s s' : List Bool × List Int} {i : Int} (h : vis k g s i = some s') : 0 < s'.2.length := by
 cases k with
 | zero => cases h
 | succ k =>
  rw [vis_succ] at h
  split at h
  ·
   obtain ⟨s1, _, e2⟩ := Option.bind_eq_some_iff.1 h
   split at e2
   ·
    injection e2 with e2; rw [← e2]; simp
   ·
    cases e2
  ·
   cases h
/-- the ranks, when i blocks have been numbered -/
def rankI (order : List Int) (n : Nat) : Nat → List Int
 | 0 => List.replicate n (-1)
 | i + 1 => (rankI order n i).set (rd order (i : Int)).toNat (i : Int)
theorem rankI_length (order : List Int) (n : Nat) : ∀ i, (rankI order n i).length = n
 | 0 => List.length_replicate ..
 | i + 1 => by rw [rankI, List.length_set, rankI_length order n i]
theorem rankL_eq (order : List Int) (n : Nat) : rankL order n = rankI order n order.length := by
 have key : ∀ (l : List Int) (pre : List Int), pre ++ l = order → (l.zipIdx pre.length).foldl (fun r p => r.set p.1.toNat (p.2 : Int)) (rankI order n pre.length) = rankI order n order.length := by
  intro l
  induction l with
  | nil => intro pre h; rw [← h]; simp
  | cons x l ih =>
   intro pre h
   rw [List.zipIdx_cons, List.foldl_cons]
   have h2 := ih (pre ++ [x]) (by rw [← h]; simp)
   rw [List.length_append, List.length_singleton] at h2
   rw [← h2]
   have hx : rd order (pre.length : Int) = x := by
    unfold rd
    rw [Int.toNat_natCast, ← h]
    simp
   show List.foldl _ _ _ = List.foldl _ (rankI order n (pre.length + 1)) _
   rw [rankI, hx]
 exact key order [] rfl
end Go.Proofs.Ytaellapacoikaaa.PB
