import Derived.Test.YtaellapacoikaaaNB7
namespace Go.Proofs.Ytaellapacoikaaa.PB
open Go.RowKit Go.Proofs.YtaellapacoikaaaW.PrintWords Go.Proofs.YtaellapacoikaaaW.PrintLast Go.Proofs.YtaellapacoikaaaW.PrintMore Go.Shelf
set_option linter.unusedVariables false
set_option linter.unusedSimpArgs false
/-- a block of cells abides a turn of what is no cells -/
theorem cells_still {W W' : World} {row : Option Nat} (hg : W.grownBy W' row) (hr : ∀ q, row = some q → ∃ o : Obj, W.heap[q]? = some o ∧ o.isCells = false) {b : Nat} {cs : Array Value} {t : Nat} {fr : Nat × Nat} (h : W.heap[b]? = some (.cells cs t fr)) : W'.heap[b]? = some (.cells cs t fr) := by
 refine (hg.block b (blk_lt h) (fun e => ?_)).trans h
 obtain ⟨o, ho, hc⟩ := hr b e.symm
 rw [h] at ho; cases ho; cases hc
theorem row_still {W W' : World} {row : Option Nat} (hg : W.grownBy W' row) (hr : ∀ q, row = some q → ∃ o : Obj, W.heap[q]? = some o ∧ o.isCells = false) {base : Nat} {ok : Nat → Prop} {v : Value} {l : List Int} (h : Kd.R (Kd.int .i64) 3 W base ok v l) : Kd.R (Kd.int .i64) 3 W' base ok v l := by
 refine Kd.R_mono (Kd.R_step (Kd.R_tight2 rfl h) (fun k hk _ => ?_)) (fun _ hk => hk.2)
 obtain ⟨cells, hc⟩ := Kd.R_typed h k hk.1.symm
 exact (cells_still hg hr hc).trans hc.symm
theorem Fix.still {w : World} {A : Option Addr} {c : Nat} {g : List S62} {root : Int} {go co : Nat} {order : List Int} {gx : Nat} {W W' : World} (h : Fix w A c g root go co order gx W) {row : Option Nat} (hg : W.grownBy W' row) (hr : ∀ q, row = some q → w.heap.size ≤ q ∧ ∃ o : Obj, W.heap[q]? = some o ∧ o.isCells = false) : Fix w A c g root go co order gx W' :=
 ⟨cells_still hg (fun q e => (hr q e).2) h.bg, cells_still hg (fun q e => (hr q e).2) h.bf, row_still hg (fun q e => (hr q e).2) h.ord, h.ne, h.bel.grown hg h.bel.size (fun q e => (hr q e).1)⟩
/-- the variables of the passes -/
structure DSt (w : World) (A : Option Addr) (c : Nat) (g : List S62) (root : Int) (go co : Nat) (order : List Int) (Br gr cr Bi gi ci : Nat) (rank : List Int) (idom : List Int) (W : World) : Prop where
 fx : Fix w A c g root go co order gi W
 br : W.heap[Br]? = some (.cells #[.slice (some ⟨gr, 0, none⟩) g.length cr] 22 (0, 0))
 bi : W.heap[Bi]? = some (.cells #[.slice (some ⟨gi, 0, none⟩) g.length ci] 22 (0, 0))
 rk : Kd.R (Kd.int .i64) 3 W w.heap.size (fun k => k ≠ gi) (.slice (some ⟨gr, 0, none⟩) g.length cr) rank
 id : Kd.R (Kd.int .i64) 3 W w.heap.size (fun _ => True) (.slice (some ⟨gi, 0, none⟩) g.length ci) idom
theorem DSt.below {w : World} {A : Option Addr} {c : Nat} {g : List S62} {root : Int} {go co : Nat} {order : List Int} {Br gr cr Bi gi ci : Nat} {rank idom : List Int} {W W1 : World} (h : DSt w A c g root go co order Br gr cr Bi gi ci rank idom W) (hb : Below W.heap.size W W1) : DSt w A c g root go co order Br gr cr Bi gi ci rank idom W1 :=
 ⟨h.fx.below hb, blk_below h.br hb, blk_below h.bi hb, Kd.R_below h.rk hb, Kd.R_below h.id hb⟩
theorem DSt.still {w : World} {A : Option Addr} {c : Nat} {g : List S62} {root : Int} {go co : Nat} {order : List Int} {Br gr cr Bi gi ci : Nat} {rank idom : List Int} {W W' : World} (h : DSt w A c g root go co order Br gr cr Bi gi ci rank idom W) {row : Option Nat} (hg : W.grownBy W' row) (hr : ∀ q, row = some q → w.heap.size ≤ q ∧ ∃ o : Obj, W.heap[q]? = some o ∧ o.isCells = false) : DSt w A c g root go co order Br gr cr Bi gi ci rank idom W' :=
 ⟨h.fx.still hg hr, cells_still hg (fun q e => (hr q e).2) h.br, cells_still hg (fun q e => (hr q e).2) h.bi, row_still hg (fun q e => (hr q e).2) h.rk, row_still hg (fun q e => (hr q e).2) h.id⟩
theorem DSt.gi {w : World} {A : Option Addr} {c : Nat} {g : List S62} {root : Int} {go co : Nat} {order : List Int} {Br gr cr Bi gi ci : Nat} {rank idom : List Int} {W : World} (h : DSt w A c g root go co order Br gr cr Bi gi ci rank idom W) : ∃ cells, W.heap[gi]? = some (.cells cells 3 (0, 0)) := Kd.R_typed h.id gi rfl
theorem DSt.len {w : World} {A : Option Addr} {c : Nat} {g : List S62} {root : Int} {go co : Nat} {order : List Int} {Br gr cr Bi gi ci : Nat} {rank idom : List Int} {W : World} (h : DSt w A c g root go co order Br gr cr Bi gi ci rank idom W) : g.length = idom.length ∧ g.length = rank.length := ⟨(Kd.R_reads' h.id).1, (Kd.R_reads' h.rk).1⟩
/-- idom[b] = x -/
theorem DSt.put {w : World} {A : Option Addr} {c : Nat} {g : List S62} {root : Int} {go co : Nat} {order : List Int} {Br gr cr Bi gi ci : Nat} {rank idom : List Int} {W : World} (h : DSt w A c g root go co order Br gr cr Bi gi ci rank idom W) (b x : Int) :
  DSt w A c g root go co order Br gr cr Bi gi ci rank (idom.set b.toNat x) (W.setCell ⟨gi, b.toNat, none⟩ (.int .i64 x)) := by
 obtain ⟨cells, hc⟩ := h.gi
 exact ⟨h.fx.put hc (Kd.R_base h.id gi rfl) _ _, blk_far h.br (blk_ne h.br hc (by decide)) _, blk_far h.bi (blk_ne h.bi hc (by decide)) _, Kd.R_far h.rk (fun _ hk => hk) _, Kd.R_putn h.id b x⟩
/-- a store into a variable of type bool -/
theorem DSt.flag {w : World} {A : Option Addr} {c : Nat} {g : List S62} {root : Int} {go co : Nat} {order : List Int} {Br gr cr Bi gi ci : Nat} {rank idom : List Int} {W : World} (h : DSt w A c g root go co order Br gr cr Bi gi ci rank idom W) {B : Nat} {cells : Array Value} (hx : W.heap[B]? = some (.cells cells 4 (0, 0))) (hge : w.heap.size ≤ B) (u : Value) :
  DSt w A c g root go co order Br gr cr Bi gi ci rank idom (W.setCell ⟨B, 0, none⟩ u) :=
 ⟨h.fx.box hx hge (by decide) (by decide) _ _, blk_far h.br (blk_ne h.br hx (by decide)) _, blk_far h.bi (blk_ne h.bi hx (by decide)) _, Kd.R_set h.rk hx (by decide) _ _, Kd.R_set h.id hx (by decide) _ _⟩
/-- marks of loops over functions: each block is taken, the rest stays -/
theorem leaves_marks {F : Fence} {n : Nat} {P : Program} {fn : Func} {tmps : Array Value} {R : Ending → World → Prop} {B : Nat} {I : World → Prop} (hI : ∀ W W' row, I W → W.grownBy W' row → (∀ q, row = some q → B ≤ q ∧ ∃ o : Obj, W.heap[q]? = some o ∧ o.isCells = false) → I W')
  (fin : ∀ W', I W' → LeavesIn F n P fn tmps R [] .returning W') : ∀ (ds : List Nat) (W : World), (∀ D ∈ ds, B ≤ D ∧ W.heap[D]? = some (.deferred (some []))) → ds.Nodup → I W → LeavesInM F n P fn tmps R (ds.map fun D => { target := .collected D, args := #[] }) .returning W
 | [], W, _, _, hi => fin W hi
 | D :: ds, W, h, hn, hi => by
  obtain ⟨hB, hD⟩ := h D (List.mem_cons_self ..)
  refine ⟨by simp, .inl ⟨D, _, rfl, run_takeDeferred hD, ?_⟩⟩
  rw [List.nodup_cons] at hn
  refine leaves_marks hI fin ds _ (fun D' hD' => ?_) hn.2 (hI W _ (some D) hi (grownBy_putObj' W D _) (fun q e => by cases e; exact ⟨hB, _, hD, rfl⟩))
  obtain ⟨h1, h2⟩ := h D' (List.mem_cons_of_mem _ hD')
  exact ⟨h1, (World.putObj_heap_other (fun e => hn.1 (by rw [← e]; exact hD'))).trans h2⟩
end Go.Proofs.Ytaellapacoikaaa.PB
