import Derived.Test.YtaellapacoikaaaNB9
import Derived.Test.YtaellapacoikaaaNB5
import Derived.OwnWalkIn
import Derived.OrdersIn
import Derived.RangeFuncCalls
namespace Go.Proofs.Ytaellapacoikaaa.PB
open Go.RowKit Go.Proofs.YtaellapacoikaaaW.PrintWords Go.Proofs.YtaellapacoikaaaW.PrintLast Go.Proofs.YtaellapacoikaaaW.PrintMore

/-! A region that draws its order, in a round: walked as outside a fence ('start_' and its steps), where it ends in order -/
def Only (Q : Exit → Act → World → Prop) : Exit → Act → World → Prop := fun e a w => e = .normal ∧ Q .normal a w
def noDefers (ops : Array Oper) : Bool := ops.all fun o => match o.op with | .defer _ => false | _ => true
theorem noDefers_spec {ops : Array Oper} (h : noDefers ops = true) {i : Nat} {o : Oper} (ho : ops[i]? = some o) : ∀ c, o.op ≠ .defer c := by
 intro c hc
 have := Array.all_eq_true_iff_forall_mem.1 h o (Array.mem_of_getElem? ho)
 simp [hc] at this
theorem wpOpIn_of {l n : Nat} {P : Program} {ops : Array Oper} {Q : Exit → Act → World → Prop} (hnd : noDefers ops = true) {i : Nat} {K : Act → World → Prop} {a : Act} {w : World}
  (h : wpOp P ops (Only Q) i K a w) : wpOpIn (Fence.wide.inRound l) n P ops Q i K a w := by
 unfold wpOp at h
 unfold wpOpIn
 cases ho : ops[i]? with
 | none => simp only [ho] at h ⊢; exact h
 | some o =>
  simp only [ho] at h ⊢
  split
  ·
   rename_i hw
   simp only [hw, if_true] at h
   rcases h with h | ⟨_, a', w', h', _⟩
   ·
    refine ⟨fun _ _ => trivial, ?_⟩
    rw [Oper.semAt_plain _ _ _ (noDefers_spec hnd ho)]
    unfold Oper.wp at h
    generalize (execOp a.eval o).run P w = r at *
    cases r with
    | ok x w' =>
     cases x <;> simp only [Oper.upon, Oper.uponIn] at h ⊢
     case value u => exact h
     case skip => exact h
     case defer d => exact h
     case enter f args =>
      refine ⟨fun hd => by simp [Fence.wide] at hd, CallsIn.inRound l (callsIn_wide.2 (h.mono fun e w'' he => ?_))⟩
      cases e with
      | returned u => exact he
      | panicked c => exact absurd he.1 (by simp)
      | outgrown => obtain ⟨a', w', h', _⟩ := he; cases h'
     case row row args =>
      refine ⟨fun hd => by simp [Fence.wide] at hd, fun c cs _ => ?_⟩
      obtain ⟨v, w', r, s⟩ := h c cs
      exact ⟨v, w', r, stepsIn_wide.2 s⟩
    | halt x w' =>
     cases x <;> simp only [Oper.upon, Oper.uponIn] at h ⊢
     case panic u => exact absurd h.1 (by simp)
   ·
    cases h'
  ·
   rename_i hw
   simp only [hw] at h
   exact ⟨fun _ _ => trivial, h⟩
theorem wpAnyIn_of {l n : Nat} {P : Program} {md : Region.Mode} {ops : Array Oper} {Q : Exit → Act → World → Prop} (hnd : noDefers ops = true) : ∀ (fuel : Nat) (listed : Array Bool) (a : Act) (w : World),
  wpAny P md ops (Only Q) fuel listed a w → wpAnyIn (Fence.wide.inRound l) n P md ops Q fuel listed a w
 | 0, _, _, _, h => ⟨h.1, h.2.2⟩
 | fuel + 1, _, _, _, h => ⟨fun h0 => (h.1 h0).2, fun i hi => wpOpIn_of hnd (wpOp_mono (fun a' w' h' => wpAnyIn_of hnd fuel _ a' w' h') (h.2 i hi))⟩
theorem only_panic {Q : Exit → Act → World → Prop} {c : List PanicEntry} {a : Act} {w : World} {X : Prop} (h : Only Q (.panic c) a w) : X := absurd h.1 (by simp)
theorem startIn_ {l₀ m : Nat} {P : Program} {ops : Array Oper} {Q : Exit → Act → World → Prop} {S : World → Prop} {ds : List Nat} {id n : Nat} {a : Act} {w : World} (hnd : noDefers ops = true) (l : Array Bool) (hm : P.follows .mixedOrders = true) (hn : ops.size = n) (hl : Array.replicate n false = l) (hS : S w.drew)
  (h : S w.drew → wpAnyLast P .any ops (Only Q) S ds n l a w.drew) : (Code.region id ops true).wpIn (Fence.wide.inRound l₀) m P Q a w := by
 subst hn
 subst hl
 exact wpIn_region_any hm (wpAnyIn_of hnd _ _ _ _ (wpAny_of_last _ _ _ _ (h hS)))
/-! ### one block of a pass, in memory -/
/-- what stands while one block is worked on: the variables, the flag, the list's box, the marks of elder loops -/
structure BSt (w : World) (A : Option Addr) (c : Nat) (g : List S62) (root : Int) (go co : Nat) (order : List Int) (Br gr cr Bi gi ci : Nat) (rank : List Int) (Bc Bs : Nat) (ds : List Nat) (N : Nat) (V : World) (idom : List Int) (ch : Bool) (W : World) : Prop where
 st : DSt w A c g root go co order Br gr cr Bi gi ci rank idom W
 bc : W.heap[Bc]? = some (.cells #[.bool ch] 4 (0, 0))
 bs : W.heap[Bs]? = some (.cells #[.slice (some ⟨go, 0, none⟩) order.length co] 22 (0, 0))
 ds : ∀ D ∈ ds, w.heap.size ≤ D ∧ W.heap[D]? = some (.deferred (some []))
 kf : KeepsFrom N V W
 kp : KpB Bs (.slice (some ⟨go, 0, none⟩) order.length co) V W
section
variable {w : World} {A : Option Addr} {c : Nat} {g : List S62} {root : Int} {go co : Nat} {order : List Int} {Br gr cr Bi gi ci : Nat} {rank : List Int} {Bc Bs : Nat} {ds : List Nat} {N : Nat} {V : World} {idom : List Int} {ch : Bool} {W W1 : World}
theorem BSt.below (h : BSt w A c g root go co order Br gr cr Bi gi ci rank Bc Bs ds N V idom ch W) (hb : Below W.heap.size W W1) : BSt w A c g root go co order Br gr cr Bi gi ci rank Bc Bs ds N V idom ch W1 := by
 refine ⟨h.st.below hb, blk_below h.bc hb, blk_below h.bs hb, fun D hD => ⟨(h.ds D hD).1, blk_below (h.ds D hD).2 hb⟩, ⟨Nat.le_trans h.kf.size hb.size, fun q o hq ho hn => ?_⟩, ?_⟩
 ·
  have := h.kf.same q o hq ho hn
  exact (hb.block q (blk_lt this)).trans this
 ·
  refine ⟨(hb.block Bs (blk_lt h.bs)).trans h.kp.1, fun b hb' => (hb.block b ?_).trans (h.kp.2 b hb')⟩
  exact Kd.R_lt h.st.fx.ord b hb'
/-- a store into a block of cells that is neither the list's box nor the list -/
theorem BSt.setKeeps (h : BSt w A c g root go co order Br gr cr Bi gi ci rank Bc Bs ds N V idom ch W) {b j : Nat} {u : Value} {cells : Array Value} {t : Nat} (hb : W.heap[b]? = some (.cells cells t (0, 0))) (h1 : Bs ≠ b) (h2 : go ≠ b) :
  (∀ D ∈ ds, w.heap.size ≤ D ∧ (W.setCell ⟨b, j, none⟩ u).heap[D]? = some (.deferred (some []))) ∧ KeepsFrom N V (W.setCell ⟨b, j, none⟩ u) ∧ KpB Bs (.slice (some ⟨go, 0, none⟩) order.length co) V (W.setCell ⟨b, j, none⟩ u) := by
 have hne : ∀ {D : Nat} {o : Obj}, W.heap[D]? = some o → o.isCells = false → D ≠ b := by
  intro D o hD ho e
  rw [e, hb] at hD; cases hD; cases ho
 refine ⟨fun D hD => ⟨(h.ds D hD).1, (Below.heap_setCell W ⟨b, j, none⟩ u D (hne (h.ds D hD).2 rfl)).trans (h.ds D hD).2⟩, ⟨by have := h.kf.size; simpa [World.setCell] using this, fun q o hq ho hn => ?_⟩, ?_⟩
 ·
  have := h.kf.same q o hq ho hn
  exact (Below.heap_setCell W ⟨b, j, none⟩ u q (hne this hn)).trans this
 ·
  refine ⟨(Below.heap_setCell W ⟨b, j, none⟩ u Bs h1).trans h.kp.1, fun q hq => ?_⟩
  have hq' : q = go := by simp [Value.ownBlock] at hq; exact hq.symm
  subst hq'
  exact (Below.heap_setCell W ⟨b, j, none⟩ u q h2).trans (h.kp.2 q hq)
theorem BSt.gone (h : BSt w A c g root go co order Br gr cr Bi gi ci rank Bc Bs ds N V idom ch W) : go ≠ gi := (h.st.fx.ord.1 go rfl)
theorem BSt.goty (h : BSt w A c g root go co order Br gr cr Bi gi ci rank Bc Bs ds N V idom ch W) : ∃ cells, W.heap[go]? = some (.cells cells 3 (0, 0)) := Kd.R_typed h.st.fx.ord go rfl
theorem BSt.put (h : BSt w A c g root go co order Br gr cr Bi gi ci rank Bc Bs ds N V idom ch W) (b x : Int) : BSt w A c g root go co order Br gr cr Bi gi ci rank Bc Bs ds N V (idom.set b.toNat x) ch (W.setCell ⟨gi, b.toNat, none⟩ (.int .i64 x)) := by
 obtain ⟨cells, hc⟩ := h.st.gi
 obtain ⟨a1, a2, a3⟩ := h.setKeeps (j := b.toNat) (u := .int .i64 x) hc (blk_ne h.bs hc (by decide)) h.gone
 exact ⟨h.st.put b x, blk_far h.bc (blk_ne h.bc hc (by decide)) _, blk_far h.bs (blk_ne h.bs hc (by decide)) _, a1, a2, a3⟩
theorem BSt.flag (h : BSt w A c g root go co order Br gr cr Bi gi ci rank Bc Bs ds N V idom ch W) (hge : w.heap.size ≤ Bc) (y : Bool) : BSt w A c g root go co order Br gr cr Bi gi ci rank Bc Bs ds N V idom y (W.setCell ⟨Bc, 0, none⟩ (.bool y)) := by
 obtain ⟨cells, hc⟩ := h.goty
 obtain ⟨a1, a2, a3⟩ := h.setKeeps (j := 0) (u := .bool y) h.bc (blk_ne h.bs h.bc (by decide)) (blk_ne hc h.bc (by decide))
 exact ⟨h.st.flag h.bc hge _, blk_put h.bc 0 _ rfl, blk_far h.bs (blk_ne h.bs h.bc (by decide)) _, a1, a2, a3⟩
end
theorem foldlM_take {α β : Type} {f : β → α → Option β} : ∀ (l : List α) (s s' : β) (k : Nat), l.foldlM f s = some s' → ∃ sk, (l.take k).foldlM f s = some sk ∧ (l.drop k).foldlM f sk = some s'
 | l, s, s', 0, h => ⟨s, by simp, by simpa using h⟩
 | [], s, s', k + 1, h => ⟨s, by simp, by simpa using h⟩
 | x :: l, s, s', k + 1, h => by
  rw [List.foldlM_cons] at h
  obtain ⟨s1, h1, h2⟩ := Option.bind_eq_some_iff.1 h
  obtain ⟨sk, h3, h4⟩ := foldlM_take l s1 s' k h2
  exact ⟨sk, by rw [List.take_succ_cons, List.foldlM_cons, h1]; exact h3, h4⟩
theorem foldlM_snoc {α β : Type} {f : β → α → Option β} (l : List α) (s : β) (x : α) : (l ++ [x]).foldlM f s = (l.foldlM f s).bind fun s' => f s' x := by
 rw [List.foldlM_append]
 show ((l.foldlM f s).bind fun s' => [x].foldlM f s') = _
 congr 1
 funext s'
 simp
/-- the next block of a pass, and what its step gives -/
theorem pass_next {f : List Int × Bool → Int → Option (List Int × Bool)} {order : List Int} {s0 s' sk : List Int × Bool} (hp : order.reverse.foldlM f s0 = some s') {k : Nat} (hk : k < order.length) (hs : (order.reverse.take k).foldlM f s0 = some sk) :
  ∃ s1, f sk (rd order ((order.length - 1 - k : Nat) : Int)) = some s1 ∧ (order.reverse.take (k + 1)).foldlM f s0 = some s1 := by
 have hl : k < order.reverse.length := by simpa using hk
 have hx : order.reverse[k] = rd order ((order.length - 1 - k : Nat) : Int) := by
  unfold rd
  rw [Int.toNat_natCast, List.getD_eq_getElem?_getD, List.getElem?_eq_getElem (by omega), List.getElem_reverse]
  rfl
 obtain ⟨s1, h1, h2⟩ := foldlM_take order.reverse s0 s' (k + 1) hp
 rw [List.take_succ_eq_append_getElem hl, foldlM_snoc, hs] at h1
 refine ⟨s1, ?_, ?_⟩
 ·
  rw [← hx]; exact h1
 ·
  rw [List.take_succ_eq_append_getElem hl, foldlM_snoc, hs]; exact h1
end Go.Proofs.Ytaellapacoikaaa.PB
