import Derived.Test.YtaellapacoikaaaNB2
import Derived.Laws.EntriesVeiled
namespace Go.Proofs.Ytaellapacoikaaa.PB
open Go.RowKit Go.Proofs.YtaellapacoikaaaW.PrintWords Go.Proofs.YtaellapacoikaaaW.PrintLast Go.Proofs.YtaellapacoikaaaW.PrintMore
set_option linter.unusedVariables false
set_option linter.unusedSimpArgs false
set_option maxRecDepth 100000 in
set_option maxHeartbeats 2000000 in
theorem postorder_calls (A : Option Addr) (c : Nat) (g : List S62) (i : Int) (k : Nat) (s' : List Bool × List Int) (w : World) (hr : Kd.C k62 w A g.length g) (hc : g.length ≤ c) (hg1 : g.length ≤ 1000)
  (h : vis k g (List.replicate g.length false, []) i = some s') :
  Calls Try.prog 58 #[.slice A g.length c, .int .i64 i] w fun e w' => ∃ v : Value, e = .returned v ∧ Kd.R (Kd.int .i64) 3 w' w.heap.size (fun _ => True) v s'.2 ∧ Below w.heap.size w w' := by
 have hpos : 0 < g.length := by
  cases k with
  | zero => cases h
  | succ k =>
   rw [vis_succ] at h
   split at h
   ·
    rename_i hh; obtain ⟨h0, h1, h2, h3⟩ := hh; omega
   ·
    cases h
 have HR := Aside0.mk hr
 have HC := Aside0.mk hc
 have H := Aside0.mk h
 clear hr hc h
 go_enter Try.func58, Try.ntmps58
 go_upto_region 5 with ((with_reducible refine gate_dst (N := 10) rfl ?_); refine Kd.R_make Kd.bool _ 4 rfl (N := 10) rfl 54 _ _ rfl (g.length : Int) rfl rfl Try.underlying54 (.bool false) 1 info4 rfl (by decide) (by omega) false (ok := fun _ => True) (okp := fun _ => True) rfl (fun _ hk => hk) trivial (by omega) (by omega) (Below.refl _ _) (Nat.le_refl _) ?_; intro v1 w1 ho hb hg hnew; rw [Int.toNat_natCast] at ho; obtain ⟨gs, cs, ev, hgs, hgl, -⟩ := Kd.R_form ho (by simpa using hpos); rw [List.length_replicate] at ev; subst ev; have HO := Aside0.mk ho; have HB := Aside0.mk hb; have GS := Aside0.mk hgs; clear ho hb hg hnew hgs hgl)

 have hS : ∃ W : World, W = (w1.alloc (.cells #[.slice (some ⟨gs, 0, none⟩) g.length cs] 54)).alloc (.cells #[.func (.func 64) #[] #[.pointer (some ⟨w1.heap.size, 0, none⟩), .pointer (some ⟨w.heap.size, 0, none⟩), .pointer (some ⟨w1.heap.size + 1, 0, none⟩), .pointer (some ⟨w.heap.size + 1, 0, none⟩)]] 99) := ⟨_, rfl⟩
 obtain ⟨W, hW⟩ := hS
 have hV : Aside0 (VSt w w1.heap.size w.heap.size (w1.heap.size + 1) (w.heap.size + 1) gs g.length cs A c g (List.replicate g.length false, []) W) := by
  have hb0 : Below w.heap.size w w1 := below_step (below_alloc (below_alloc (Below.refl _ _) _) _) HB.out
  have h1 := HB.out.size
  rw [World.size_alloc, World.size_alloc] at h1
  subst hW
  refine ⟨⟨blk_alloc (blk_new w1 _) _, ?_, ?_, ⟨.slice none 0 0, ?_, Kd.R_nil _ _ _ _ _⟩, by omega, ?_, HR.out, HC.out, below_alloc (below_alloc hb0 _) _⟩⟩
  ·
   exact blk_alloc (blk_alloc (blk_below (blk_alloc (blk_new w _) _) HB.out) _) _
  ·
   have := blk_new (w1.alloc (.cells #[.slice (some ⟨gs, 0, none⟩) g.length cs] 54)) (.cells #[.func (.func 64) #[] #[.pointer (some ⟨w1.heap.size, 0, none⟩), .pointer (some ⟨w.heap.size, 0, none⟩), .pointer (some ⟨w1.heap.size + 1, 0, none⟩), .pointer (some ⟨w.heap.size + 1, 0, none⟩)]] 99)
   rw [World.size_alloc] at this
   exact this
  ·
   have := blk_new (w.alloc (.cells #[.slice A g.length c] 42)) (.cells #[.slice none 0 0] 22)
   rw [World.size_alloc] at this
   exact blk_alloc (blk_alloc (blk_below this HB.out) _) _
  ·
   exact Kd.R_alloc (Kd.R_alloc (Kd.R_lower HO.out (by rw [World.size_alloc, World.size_alloc]; omega)) _) _
 rw [← hW]
 clear hW HO HB GS
 have hcv : W.cell? ⟨w1.heap.size + 1, 0, none⟩ = _ := (blk_cell hV.out.bv 0).trans rfl
 go_wp2_with (go_at_call 64; refine (vis_calls _ _ _ _ _ _ _ _ _ _ _ k _ i s' H.out W hV.out).mono ?_; rintro e W4 ⟨rfl, V4, -⟩; obtain ⟨vo, ho1, ho2⟩ := V4.bo; obtain ⟨Aq, cq, eq_⟩ := Kd.R_slice ho2; subst eq_; have HO := Aside0.mk ho2; have HB := Aside0.mk V4.bel; have hco : W4.cell? ⟨w.heap.size + 1, 0, none⟩ = some (.slice Aq s'.2.length cq) := (blk_cell ho1 0).trans rfl; clear V4 ho1 ho2)
 go_ret
 exact ⟨_, rfl, HO.out, HB.out⟩
end Go.Proofs.Ytaellapacoikaaa.PB
