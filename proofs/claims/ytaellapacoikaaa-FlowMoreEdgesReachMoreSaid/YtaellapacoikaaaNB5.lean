import Derived.Test.YtaellapacoikaaaNB1
import Derived.RangeFuncBox
import Derived.RangeFuncLeaves
import Derived.RangeFuncCalls
import Derived.RangeFuncNested
import Derived.Shelf.Abstract
import Derived.OwnWalkIn
import Derived.TacticsInMore
import Derived.LoopNIn
import Derived.LoopIn
import Derived.Sort.LoopGhostIn
import Derived.Deep.DeepMust
namespace Go.Proofs.Ytaellapacoikaaa.PB
open Go.RowKit Go.Proofs.YtaellapacoikaaaW.PrintWords Go.Proofs.YtaellapacoikaaaW.PrintLast Go.Proofs.YtaellapacoikaaaW.PrintMore Go.Shelf
attribute [local go_sem] Oper.semAt_some
set_option linter.unusedVariables false
set_option linter.unusedSimpArgs false
/-- what has come of a list that is walked from its end -/
def backP (order : List Int) : Nat → List (Int × Int)
 | 0 => []
 | k + 1 => backP order k ++ [(((order.length - 1 - k : Nat) : Int), rd order ((order.length - 1 - k : Nat) : Int))]
theorem backP_length (order : List Int) : ∀ k, (backP order k).length = k
 | 0 => rfl
 | k + 1 => by rw [backP, List.length_append, backP_length order k]; rfl
theorem backward.in_ (n : Nat) (A : Option Addr) (m c : Nat) (w : World) :
  CallsIn Fence.wide n Try.prog 60 #[.slice A m c] w fun e w' => e = .returned (.func (.func 66) #[] #[.pointer (some ⟨w.heap.size, 0, none⟩)]) ∧ w' = w.alloc (.cells #[.slice A m c] 22) := by
 refine callsIn_of_wp Try.func60 rfl trivial ?_ rfl
 simp only [Try.ntmps60, List.size_toArray, List.length_cons, List.length_nil, Nat.reduceAdd, Nat.reduceSub, Array.replicate_succ, Array.replicate_zero, List.push_toArray, List.append_toArray, List.nil_append, List.cons_append]
 gi_wp2
 go_ret
 exact ⟨rfl, rfl⟩
/-- what the bodies leave alone: the box, and the list -/
def KpB (Bs : Nat) (v : Value) (W W' : World) : Prop := W'.heap[Bs]? = W.heap[Bs]? ∧ ∀ b, v.ownBlock = some b → W'.heap[b]? = W.heap[b]?
theorem KpB.row {Bs : Nat} {v : Value} {W W' : World} (h : KpB Bs v W W') {base : Nat} {l : List Int} (hr : Kd.R (Kd.int .i64) 3 W base (fun _ => True) v l) : Kd.R (Kd.int .i64) 3 W' base (fun _ => True) v l :=
 Kd.R_mono (Kd.R_step (Kd.R_tight rfl hr) (fun k hk _ => h.2 k hk.symm)) (fun _ _ => trivial)
/-- the pair that comes next -/
def NxB (order : List Int) (pre : List (Int × Int)) (x : Int × Int) : Prop := ∃ k, k < order.length ∧ pre = backP order k ∧ x = (((order.length - 1 - k : Nat) : Int), rd order ((order.length - 1 - k : Nat) : Int))
set_option maxRecDepth 100000 in
set_option maxHeartbeats 2000000 in
theorem backward1.in_ (n : Nat) (hn : 1 ≤ n) (l Bs base c : Nat) (A : Option Addr) (order : List Int) (hs : order.length ≤ 1000)
  (J : List (Int × Int) → World → Prop)
  (hY : ∀ pre x W, J pre W → NxB order pre x → YieldAt Fence.wide (n - 1) Try.prog l #[.int .i64 x.1, .int .i64 x.2] W fun e W' =>
   e = .returned (.bool true) ∧ J (pre ++ [x]) W' ∧ KpB Bs (.slice A order.length c) W W')
  (W : World) (hBs : Boxed W Bs 22 (.slice A order.length c)) (hr : Kd.R (Kd.int .i64) 3 W base (fun _ => True) (.slice A order.length c) order) (h0 : J [] W) :
  CallsIn Fence.wide n Try.prog 66 #[.func (.yield l) #[] #[], .pointer (some ⟨Bs, 0, none⟩)] W fun e W' => (∃ v, e = .returned v) ∧ ∃ ys, ys = backP order order.length ∧ J ys W' := by
 refine callsIn_of_wp Try.func66 rfl trivial ?_ rfl
 simp only [Try.ntmps66, List.size_toArray, List.length_cons, List.length_nil, Nat.reduceAdd, Nat.reduceSub, Array.replicate_succ, Array.replicate_zero, List.push_toArray, List.append_toArray, List.nil_append, List.cons_append]
 have hBc := hBs.cell
 gi_wp2
 gi_loopg [3] order.length (fun gk v3 wr => ∃ (k : Nat), v3 = .int .i64 ((gk : Int) - 1) ∧ Aside0 (k + gk = order.length) ∧ J (backP order k) wr ∧ Boxed wr Bs 22 (.slice A order.length c) ∧ Aside0 (Kd.R (Kd.int .i64) 3 wr base (fun _ => True) (.slice A order.length c) order))
 case atStart => exact ⟨0, by simp, ⟨by omega⟩, h0, hBs, ⟨hr⟩⟩
 case round =>
  obtain ⟨k, rfl, hk, hJs, hnx, hrow⟩ := hrel
  have hkk := hk.out
  by_cases hq : gk = 0
  ·
   subst hq
   obtain rfl : k = order.length := by omega
   clear hkk hk
   gi_wp2
   go_end0
   exact ⟨⟨_, rfl⟩, _, rfl, hJs⟩
  ·
   obtain ⟨q, rfl⟩ : ∃ q, gk = q + 1 := ⟨gk - 1, by omega⟩
   have hkq : order.length - 1 - k = q := by omega
   rw [show ((q + 1 : Nat) : Int) - 1 = (q : Int) from by omega]
   have hlt : q < order.length := by omega
   obtain ⟨fn, tmps, assign, body, hy, hR⟩ := hY (backP order k) ((q : Int), rd order (q : Int)) wr hJs ⟨k, by omega, rfl, by rw [hkq]⟩
   dsimp only at hy
   have hnp : backP order k ++ [((q : Int), rd order (q : Int))] = backP order (k + 1) := by rw [backP, hkq]
   rw [hnp] at hR
   obtain ⟨ad, ead, hx⟩ := Kd.at_int (Kd.R_reads' hrow.out).2.2 (q : Int) (by omega) (by omega)
   cases ead
   rw [Int.toNat_natCast] at hx
   generalize rd order (q : Int) = x at hy hx hnp
   have hcs := hnx.cell
   have hkb : k < 1000 := by omega
   have hqb : q < 1000 := by omega
   have HKK := Aside0.mk hkk
   clear hnp hkq hkk hq hk hBc
   gi_wp2
   refine hR.mono ?_
   rintro e W3 ⟨rfl, hJ3, hk3⟩
   have hrow3 := Aside0.mk (hk3.row hrow.out)
   have hbx3 : Boxed W3 Bs 22 (.slice (some ad) order.length c) := hk3.1.trans hnx
   gi_wp2
   go_roundg q
   case measure => omega
   case rel => exact ⟨k + 1, by go_num, ⟨by have := HKK.out; omega⟩, hJ3, hbx3, hrow3⟩
/-! ### a range over a function whose pairs come in one order -/
theorem rangeFunc_next {F : Fence} {n : Nat} {P : Program} {w : World} {α : Type} {g : Operand} {ps : Array Tmp} {assign body : Code} {Q : Exit → Act → World → Prop} {a : Act}
  (hro : F.round = none) (h1 : 1 ≤ n) {gf : Nat} {lb : Array Value} (hg : a.eval g = .func (.func gf) #[] lb) (hFg : F.fn gf) (eg : ∀ args w, (callFunc gf args).run P w = .ok (.enter gf args) w)
  {encs : α → Array Value} {Kp : World → World → Prop} {Nx : List α → α → Prop} {S : List α → Prop}
  (hseq : ∀ (l : Nat) (J : List α → World → Prop) (W : World), Below w.heap.size w W →
   (∀ pre x W1, J pre W1 → Nx pre x → YieldAt F (n - 1 - 1) P l (encs x) W1 fun e W' => e = .returned (.bool true) ∧ J (pre ++ [x]) W' ∧ Kp W1 W') → J [] W →
   CallsIn F (n - 1) P gf (#[.func (.yield l) #[] #[]] ++ lb) W fun e W' => (∃ v, e = .returned v) ∧ ∃ xs, S xs ∧ J xs W')
  (hKt : ∀ {A B C : World}, Kp A B → Kp B C → Kp A C) (hKb : ∀ (W : World) (l : Nat) (o o' : Obj), w.heap.size ≤ l → W.heap[l]? = some o → o.isCells = false → Kp W (W.putObj l o'))
  (hps : ∀ x, (encs x).size = ps.size)
  (I : List α → World → Prop) (hI : OwnFrom w.heap.size I) (h0 : I [] w) (a₁ : α → Act)
  (hassign : ∀ (l : Nat) (x : α) (W : World) (K : Act → World → Prop), K (a₁ x) W →
   assign.wpIn (F.inRound l) (n - 1 - 1) P (Exit.then K (fun _ _ _ => False)) { tmps := (ps.zip (encs x)).foldl (fun t (p, v) => t.setIfInBounds p v) a.tmps, defers := [] } W)
  (hbody : ∀ (l : Nat) (pre : List α) (x : α) (W : World), I pre W → Nx pre x → body.wpIn (F.inRound l) (n - 1 - 1) P (fun e _ W' => e = .normal ∧ KeepsFrom w.heap.size W W' ∧ Kp W W' ∧ I (pre ++ [x]) W') (a₁ x) W)
  (hdone : ∀ (D : Nat) (xs : List α) (W : World), w.heap.size ≤ D → S xs → I xs W → W.heap[D]? = some (.deferred (some [])) → Q .normal { a with defers := { target := .collected D, args := #[] } :: a.defers } W) :
  (Code.rangeFunc g ps assign body).wpIn F n P Q a w := by
 refine wpIn_rangeFunc fun fn hfn => ?_
 rw [hro]
 obtain ⟨mk, hmk⟩ : ∃ mk : LoopState → Loop, mk = fun st => { state := st, pending := none, fn, tmps := a.tmps, params := ps, assign, body, defers := w.heap.size } := ⟨_, rfl⟩
 obtain ⟨W0, hW0⟩ : ∃ W0, W0 = (w.alloc (.deferred (some []))).alloc (.loop (mk .ready)) := ⟨_, rfl⟩
 have bD : W0.heap[w.heap.size]? = some (.deferred (some [])) := by
  rw [hW0]; exact (Below.heap_alloc _ _ _ (by rw [World.size_alloc]; omega)).trans (World.alloc_heap_new w _)
 have bL : W0.heap[w.heap.size + 1]? = some (.loop (mk .ready)) := by
  rw [hW0]; have := World.alloc_heap_new (w.alloc (.deferred (some []))) (.loop (mk .ready)); rwa [World.size_alloc] at this
 have b0 : Below w.heap.size w W0 := by rw [hW0]; exact below_alloc (below_alloc (Below.refl _ _) _) _
 have i0 : I [] W0 := by rw [hW0]; exact hI.alloc _ (hI.alloc _ h0)
 refine ⟨w.heap.size + 1, [{ target := .collected w.heap.size, args := #[] }], W0, { target := .fn (.func gf) lb, args := #[.func (.yield (w.heap.size + 1)) #[] #[]] }, W0, gf, #[.func (.yield (w.heap.size + 1)) #[] #[]] ++ lb, W0, ?_, ?_, ?_, ?_, fun _ => h1, ?_⟩
 ·
  rw [hW0, hmk]; exact run_enterLoop_outer _ _ _ _ _
 ·
  simp only [resolve, hg]; simp [go_sem]
 ·
  intro f' hf'; simp [Target.leads] at hf'; subst hf'; exact hFg
 ·
  simp [invoke, go_sem, eg]
 refine (hseq (w.heap.size + 1) (fun pre W => I pre W ∧ W.heap[w.heap.size + 1]? = some (.loop (mk .ready)) ∧ W.heap[w.heap.size]? = some (.deferred (some []))) W0 b0 ?_ ⟨i0, bL, bD⟩).mono ?_
 ·
  rintro pre x W ⟨hi, hl, hd⟩ hx
  have hlt : w.heap.size + 1 < W.heap.size := (Array.getElem?_eq_some_iff.1 hl).1
  have hy := run_yield (P := P) (args := encs x) hl (by rw [hmk]; exact hps x)
  rw [hmk] at hy
  refine ⟨fn, _, assign, body, hy, roundIn_of_wpIn hfn (hassign _ x W _ ⟨_, run_beginRound hl (by rw [hmk]), ?_⟩)⟩
  have l2 : (W.putObj (w.heap.size + 1) (.loop { mk .ready with state := .busy })).heap[w.heap.size + 1]? = some (.loop { mk .ready with state := .busy }) := World.putObj_heap_same hlt
  have d2 : (W.putObj (w.heap.size + 1) (.loop { mk .ready with state := .busy })).heap[w.heap.size]? = some (.deferred (some [])) := (World.putObj_heap_other (by omega)).trans hd
  refine wpIn_mono (hbody _ pre x _ (hI.putObj _ hi (by omega) hl rfl) hx) ?_
  rintro e a3 W3 ⟨rfl, hk3, hp3, hi3⟩
  have l3 := hk3.same _ _ (by omega) l2 rfl
  have d3 := hk3.same _ _ (Nat.le_refl _) d2 rfl
  have hr := run_endRound (P := P) none l3
  refine ⟨_, _, hr, rfl, ⟨hI.putObj _ hi3 (by omega) l3 rfl, ?_, (World.putObj_heap_other (by omega)).trans d3⟩, hKt (hKt (hKb _ _ _ _ (by omega) hl rfl) hp3) (hKb _ _ _ _ (by omega) l3 rfl)⟩
  refine (World.putObj_heap_same (Array.getElem?_eq_some_iff.1 l3).1).trans ?_
  rw [hmk]; rfl
 ·
  rintro e W2 ⟨⟨v, rfl⟩, xs, hS, hi, hl, hd⟩
  have hr := run_endLoop (P := P) hl (by rw [hmk]; simp)
  rw [show (mk .ready).pending = none from by rw [hmk]] at hr
  exact ⟨none, _, hr, hdone _ xs _ (Nat.le_refl _) hS (hI.putObj _ hi (by omega) hl rfl) ((World.putObj_heap_other (by omega)).trans hd)⟩
end Go.Proofs.Ytaellapacoikaaa.PB
