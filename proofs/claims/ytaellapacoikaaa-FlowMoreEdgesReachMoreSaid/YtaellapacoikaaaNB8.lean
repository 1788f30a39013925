import Derived.Test.YtaellapacoikaaaNB7
import Derived.Test.YtaellapacoikaaaNB11
import Derived.Outline
namespace Go.Proofs.Ytaellapacoikaaa.PB
open Go.RowKit Go.Proofs.YtaellapacoikaaaW.PrintWords Go.Proofs.YtaellapacoikaaaW.PrintLast Go.Proofs.YtaellapacoikaaaW.PrintMore Go.Shelf
attribute [local go_sem] Oper.semAt_some
set_option linter.unusedVariables false
set_option linter.unusedSimpArgs false
/-- what a pass leaves: not laid open by 'simp' -/
structure Own1 (P : List Int → Bool → Prop) : Prop where
 out : ∃ i c, P i c
theorem lit_row (W : World) (x : Int) : Kd.C (Kd.int .i64) (W.alloc (.cells #[.int .i64 x] 3)) (some ⟨W.heap.size, 0, none⟩) 1 [x] :=
 Kd.C_of_reads (d := (0 : Int)) (h1 := fun _ => rfl) ⟨rfl, by simp, fun _ => ⟨_, rfl, fun j hj => by
  rw [add_plain]
  match j, hj with
  | 0, _ => exact (blk_cell (blk_new W _) 0).trans rfl⟩⟩
set_option maxRecDepth 100000 in
set_option maxHeartbeats 4000000 in
theorem dominators.in_ (k : Nat) (A : Option Addr) (c : Nat) (g : List S62) (root : Int) (s : List Bool × List Int) (r : List Int) (w : World) (hr : Kd.C k62 w A g.length g) (hc : g.length ≤ c) (hg1 : g.length ≤ 100) (hge : ∀ p : Nat, p < g.length → (rd_T62 g (p : Int)).f3.length ≤ 1000)
  (hv : vis k g (List.replicate g.length false, []) root = some s) (hs1 : s.2.length ≤ 1000) (hs2 : ∀ b ∈ s.2, 0 ≤ b ∧ b < g.length) (h : domL k g (rankL s.2 g.length) root s.2 ((List.replicate g.length (-1)).set root.toNat root) = some r) (hroot : 0 ≤ root ∧ root < g.length) :
  CallsIn Fence.wide 5 Try.prog 43 #[.slice A g.length c, .int .i64 root] w fun e w' => ∃ v : Value, e = .returned v ∧ Kd.R (Kd.int .i64) 3 w' w.heap.size (fun _ => True) v r ∧ Below w.heap.size w w' := by
 have hlast := vis_last hv
 have HR := Aside0.mk hr
 have HC := Aside0.mk hc
 have HV := Aside0.mk hv
 have H := Aside0.mk h
 have HS2 := Aside0.mk hs2
 have HE3 := Aside0.mk hge
 have hgp : 1 ≤ g.length := by omega
 clear hr hc hv h hs2 hge
 refine callsIn_of_wp_marks Try.func43 rfl trivial ?_ rfl
 simp only [Try.ntmps43, List.size_toArray, List.length_cons, List.length_nil, Nat.reduceAdd, Nat.reduceSub, Array.replicate_succ, Array.replicate_zero, List.push_toArray, List.append_toArray, List.nil_append, List.cons_append]
 gi_wp2_with (first | (refine ⟨trivial, ?_⟩; gi_at_call 58; go_must (refine (callsIn_wide.2 (postorder_calls A c g root k s _ (Kd.C_alloc (Kd.C_alloc HR.out _) _) HC.out (by omega) HV.out)).mono ?_; rintro e W1 ⟨vo, rfl, ho, hb⟩; obtain ⟨go, co, ev, hgo, hgl, -⟩ := Kd.R_form ho hlast; subst ev; have bg1 := Aside0.mk (blk_below (blk_alloc (blk_new w (.cells #[.slice A g.length c] 42)) (.cells #[.int .i64 root] 3)) hb); have bf1 := Aside0.mk (blk_below (blk_new (w.alloc (.cells #[.slice A g.length c] 42)) (.cells #[.int .i64 root] 3)) hb); have HO := Aside0.mk ho; have HB := Aside0.mk hb; have GO := Aside0.mk hgo;  clear ho hb hgo hgl; have hcg : (W1.alloc (.cells #[.int .i64 (-1)] 3)).cell? ⟨w.heap.size, 0, none⟩ = some (.slice A g.length c) := (blk_cell (blk_alloc bg1.out _) 0).trans rfl)) | (refine ⟨trivial, ?_⟩; gi_at_call 59; go_must (refine (callsIn_wide.2 (repeat_calls _ 1 (-1) g.length _ (lit_row W1 (-1)) (by omega) (by omega) (by omega))).mono ?_); rintro e W2 ⟨vr, rfl, ho, hb⟩; obtain ⟨gr, cr, ev, hgo, hgl, -⟩ := Kd.R_form ho (by rw [List.length_replicate]; omega); rw [List.length_replicate] at ev; subst ev; have HRK := Aside0.mk ho; have HB2 := Aside0.mk hb; have GR := Aside0.mk hgo; clear ho hb hgo hgl))
 have hz1 := HB.out.size
 rw [World.size_alloc, World.size_alloc] at hz1
 have hz2 := HB2.out.size
 rw [World.size_alloc] at hz2
 have hgr := GR.out
 rw [World.size_alloc] at hgr
 have FX : Aside0 (Fix w A c g root go co s.2 gr (W2.alloc (.cells #[.slice (some ⟨gr, 0, none⟩) g.length cr] 22))) := by
  have b1 : Below w.heap.size w W1 := below_step (below_alloc (below_alloc (Below.refl _ _) _) _) HB.out
  have f1 := bf1.out
  rw [World.size_alloc] at f1
  refine ⟨blk_alloc (blk_below (blk_alloc bg1.out _) HB2.out) _, blk_alloc (blk_below (blk_alloc f1 _) HB2.out) _, ?_, by omega, below_alloc (below_step (below_alloc b1 _) HB2.out) _⟩
  have h1 := Kd.R_alloc HO.out (.cells #[.int .i64 (-1)] 3)
  have h2 := Kd.R_below h1 HB2.out
  have h3 := Kd.R_alloc h2 (.cells #[.slice (some ⟨gr, 0, none⟩) g.length cr] 22)
  refine Kd.R_mono (Kd.R_tight rfl (Kd.R_lower h3 (by rw [World.size_alloc, World.size_alloc]; omega))) (fun q hq => ?_)
  have h4 := Kd.R_lt HO.out q hq.symm
  omega
 have BR : Aside0 ((W2.alloc (.cells #[.slice (some ⟨gr, 0, none⟩) g.length cr] 22)).heap[W2.heap.size]? = some (.cells #[.slice (some ⟨gr, 0, none⟩) g.length cr] 22 (0, 0))) := ⟨blk_new W2 _⟩
 have RK : Aside0 (Kd.R (Kd.int .i64) 3 (W2.alloc (.cells #[.slice (some ⟨gr, 0, none⟩) g.length cr] 22)) w.heap.size (fun _ => True) (.slice (some ⟨gr, 0, none⟩) g.length cr) (rankI s.2 g.length 0)) := ⟨Kd.R_lower (Kd.R_alloc HRK.out _) (by rw [World.size_alloc]; omega)⟩
 have GRW : Aside0 (w.heap.size ≤ W2.heap.size) := ⟨by omega⟩
 have GRR : Aside0 (w.heap.size ≤ gr) := ⟨by omega⟩
 clear hcg HRK HB2 HB HO GO GR bg1 bf1 hz1 hz2 hgr
 generalize hX : W2.alloc (.cells #[.slice (some ⟨gr, 0, none⟩) g.length cr] 22) = X at FX BR RK ⊢
 clear hX
 generalize W2.heap.size = Br at BR GRW ⊢

 gi_loopw [25] (fun v25 wr => ∃ i : Nat, i ≤ s.2.length ∧ v25 = .int .i64 (i : Int) ∧ Aside0 (Fix w A c g root go co s.2 gr wr) ∧ Aside0 (wr.heap[Br]? = some (.cells #[.slice (some ⟨gr, 0, none⟩) g.length cr] 22 (0, 0))) ∧ Aside0 (Kd.R (Kd.int .i64) 3 wr w.heap.size (fun _ => True) (.slice (some ⟨gr, 0, none⟩) g.length cr) (rankI s.2 g.length i)))
  (fun v25 _ => s.2.length - (intOf v25).toNat)
 case atStart => exact ⟨0, Nat.zero_le _, rfl, FX, BR, RK⟩
 case round =>
  clear FX BR RK
  obtain ⟨i, hi, rfl, FX, BR, RK⟩ := hrel
  by_cases hlt : i < s.2.length
  ·
   obtain ⟨ad, ead, hx⟩ := Kd.at_int (Kd.R_reads' FX.out.ord).2.2 (i : Int) (by omega) (by omega)
   injection ead with ead
   subst ead
   rw [Int.toNat_natCast, add_plain] at hx
   have hbm : rd s.2 (i : Int) ∈ s.2 := by
    unfold rd
    rw [Int.toNat_natCast, List.getD_eq_getElem?_getD, List.getElem?_eq_getElem hlt]
    exact List.getElem_mem hlt
   obtain ⟨hb0, hb1⟩ := HS2.out _ hbm
   have hnx : (rankI s.2 g.length i).set (rd s.2 (i : Int)).toNat (i : Int) = rankI s.2 g.length (i + 1) := rfl
   generalize rd s.2 (i : Int) = b at hx hb0 hb1 hnx
   obtain ⟨m1, m2⟩ := Kd.R_celln (-1) RK.out b hb0 (by omega)
   obtain ⟨cells, hcells⟩ := Kd.R_typed RK.out gr rfl
   have FX2 := Aside0.mk (FX.out.put hcells GRR.out b.toNat (.int .i64 (i : Int)))
   have BR2 := Aside0.mk (blk_far BR.out (blk_ne BR.out hcells (by decide)) (p := ⟨gr, b.toNat, none⟩) (.int .i64 (i : Int)))
   have RK2 := Aside0.mk (Kd.R_putn RK.out b (i : Int))
   rw [hnx] at RK2
   have hbr : wr.cell? ⟨Br, 0, none⟩ = some (.slice (some ⟨gr, 0, none⟩) g.length cr) := (blk_cell BR.out 0).trans rfl
   have p0 := eq_true hb0
   have p1 := eq_true hb1
   have hib : i < 1000 := by omega
   clear hcells hnx hbm FX BR RK hb0 hb1
   gi_wp2
   go_roundw
   case rel => exact ⟨i + 1, by omega, by simp, FX2, BR2, RK2⟩
   case measure => simp [intOf]; omega
  ·
   obtain rfl : i = s.2.length := by omega
   rw [← rankL_eq] at RK
   clear hi hlt
   have hcg : (wr.alloc (.cells #[.int .i64 (-1)] 3)).cell? ⟨w.heap.size, 0, none⟩ = some (.slice A g.length c) := (blk_cell (blk_alloc FX.out.bg _) 0).trans rfl
   gi_wp2_with (refine ⟨trivial, ?_⟩; gi_at_call 59; refine (callsIn_wide.2 (repeat_calls _ 1 (-1) g.length _ (lit_row wr (-1)) (by omega) (by omega) (by omega))).mono ?_; rintro e W3 ⟨vr, rfl, ho, hb⟩; obtain ⟨gi, ci, ev, hgo, hgl, -⟩ := Kd.R_form ho (by rw [List.length_replicate]; omega); rw [List.length_replicate] at ev; subst ev; have HID := Aside0.mk ho; have HB3 := Aside0.mk hb; have GI := Aside0.mk hgo; have hbf : (W3.alloc (.cells #[.slice (some ⟨gi, 0, none⟩) g.length ci] 22)).cell? ⟨w.heap.size + 1, 0, none⟩ = some (.int .i64 root) := (blk_cell (blk_alloc (blk_below (blk_alloc FX.out.bf _) hb) _) 0).trans rfl; obtain ⟨q1, q2⟩ := Kd.R_celln (-1) (Kd.R_alloc ho (.cells #[.slice (some ⟨gi, 0, none⟩) g.length ci] 22)) root hroot.1 (by omega); clear ho hb hgo hgl)
   have DS0 : Aside0 (DSt w A c g root go co s.2 Br gr cr W3.heap.size gi ci (rankL s.2 g.length) ((List.replicate g.length (-1)).set root.toNat root) (((W3.alloc (.cells #[.slice (some ⟨gi, 0, none⟩) g.length ci] 22)).setCell ⟨gi, root.toNat, none⟩ (.int .i64 root)).alloc (.cells #[.bool true] 4))) := by
    have hz := FX.out.bel.size
    have hgi := GI.out
    rw [World.size_alloc] at hgi
    have hb3 : Below wr.heap.size wr W3 := below_step (below_alloc (Below.refl _ _) _) HB3.out
    have far : ∀ {ok : Nat → Prop} {v : Value} {l : List Int}, Kd.R (Kd.int .i64) 3 wr w.heap.size ok v l → Kd.R (Kd.int .i64) 3 W3 w.heap.size (fun q => q ≠ gi) v l := fun h => Kd.R_mono (Kd.R_tight rfl (Kd.R_below h hb3)) (fun q hq => by have := Kd.R_lt h q hq.symm; omega)
    have hf := FX.out.below hb3
    have e0 : DSt w A c g root go co s.2 Br gr cr W3.heap.size gi ci (rankL s.2 g.length) (List.replicate g.length (-1)) (W3.alloc (.cells #[.slice (some ⟨gi, 0, none⟩) g.length ci] 22)) := by
     refine ⟨⟨blk_alloc hf.bg _, blk_alloc hf.bf _, Kd.R_alloc (far FX.out.ord) _, ?_, below_alloc hf.bel _⟩, blk_alloc (blk_below BR.out hb3) _, blk_new W3 _, Kd.R_alloc (far RK.out) _, Kd.R_lower (Kd.R_alloc HID.out _) (by rw [World.size_alloc]; omega)⟩
     have := blk_lt FX.out.bf
     omega
    exact ⟨(e0.put root root).below (below_alloc (Below.refl _ _) _)⟩
   have BC0 : Aside0 ((((W3.alloc (.cells #[.slice (some ⟨gi, 0, none⟩) g.length ci] 22)).setCell ⟨gi, root.toNat, none⟩ (.int .i64 root)).alloc (.cells #[.bool true] 4)).heap[W3.heap.size + 1]? = some (.cells #[.bool true] 4 (0, 0))) := by
    have h1 := blk_new ((W3.alloc (.cells #[.slice (some ⟨gi, 0, none⟩) g.length ci] 22)).setCell ⟨gi, root.toNat, none⟩ (.int .i64 root)) (.cells #[.bool true] 4)
    rw [show ((W3.alloc (.cells #[.slice (some ⟨gi, 0, none⟩) g.length ci] 22)).setCell ⟨gi, root.toNat, none⟩ (.int .i64 root)).heap.size = W3.heap.size + 1 from by simp [World.setCell]] at h1
    exact ⟨h1⟩
   have BCW : Aside0 (w.heap.size ≤ W3.heap.size + 1) := ⟨by have h1 := FX.out.bel.size; have h2 := HB3.out.size; rw [World.size_alloc] at h2; omega⟩
   clear hcg hbf q1 q2 HID HB3 GI FX BR RK
   generalize ((W3.alloc (.cells #[.slice (some ⟨gi, 0, none⟩) g.length ci] 22)).setCell ⟨gi, root.toNat, none⟩ (.int .i64 root)).alloc (.cells #[.bool true] 4) = X at DS0 BC0 ⊢
   generalize W3.heap.size + 1 = Bc0 at BC0 BCW ⊢
   generalize W3.heap.size = Bi at DS0 ⊢
   refine wpIn_loop_ghost_k (fun gk a' w' => ∃ (Bc : Nat) (ch : Bool) (idj : List Int) (ds : List Nat) (u43 u44 u45 u106 : Value), a' = { tmps := #[.slice A g.length c, .int .i64 root, .pointer (some ⟨w.heap.size, 0, none⟩), .pointer (some ⟨w.heap.size + 1, 0, none⟩), .slice none 0 0, .slice (some ⟨go, 0, none⟩) s.2.length co, .pointer (some ⟨Br, 0, none⟩), u7, u8, .pointer (some ⟨Bi, 0, none⟩), .pointer (some ⟨Bc, 0, none⟩), undef, undef, undef, undef, undef, .slice A g.length c, .int .i64 root, .slice (some ⟨go, 0, none⟩) s.2.length co, .slice (some ⟨W1.heap.size, 0, none⟩) 1 1, .slice A g.length c, .int .i64 (g.length : Int), .slice (some ⟨gr, 0, none⟩) g.length cr, .slice (some ⟨go, 0, none⟩) s.2.length co, .int .i64 (s.2.length : Int), .int .i64 (s.2.length : Int), .bool false, u27, u28, u29, u30, u31, u32, u33, u34, .slice (some ⟨wr.heap.size, 0, none⟩) 1 1, .slice A g.length c, .int .i64 (g.length : Int), .slice (some ⟨gi, 0, none⟩) g.length ci, .slice (some ⟨gi, 0, none⟩) g.length ci, .int .i64 root, .int .i64 root, .pointer (some ⟨gi, root.toNat, none⟩), u43, u44, u45, undef, undef, undef, undef, undef, undef, undef, undef, undef, undef, undef, undef, undef, undef, undef, undef, undef, undef, undef, undef, undef, undef, undef, undef, undef, undef, undef, undef, undef, undef, undef, undef, undef, undef, undef, undef, undef, undef, undef, undef, undef, undef, undef, undef, undef, undef, undef, undef, undef, undef, undef, undef, undef, undef, undef, undef, undef, undef, undef, undef, u106, undef], defers := ds.map fun D => { target := .collected D, args := #[] } } ∧ Aside0 (if ch = true then domL gk g (rankL s.2 g.length) root s.2 idj = some r else idj = r) ∧ Aside0 (DSt w A c g root go co s.2 Br gr cr Bi gi ci (rankL s.2 g.length) idj w') ∧ Aside0 (w'.heap[Bc]? = some (.cells #[.bool ch] 4 (0, 0))) ∧ Aside0 (w.heap.size ≤ Bc) ∧ Aside0 (∀ D ∈ ds, w.heap.size ≤ D ∧ w'.heap[D]? = some (.deferred (some []))) ∧ Aside0 ds.Nodup) k ⟨Bc0, true, _, [], undef, undef, undef, undef, rfl, ⟨H.out⟩, DS0, BC0, BCW, ⟨by simp⟩, ⟨List.nodup_nil⟩⟩ ?_
   rintro gk a1 W4 ⟨Bc, ch, idj, ds, u43, u44, u45, u106, rfl, HA, HD, HC4, HCW, HDS, HND⟩ J K hJ hK
   have hcc : W4.cell? ⟨Bc, 0, none⟩ = some (.bool ch) := (blk_cell HC4.out 0).trans rfl
   have hcf := blk_frozen HC4.out 0
   cases ch with
   | false =>
    have hr : idj = r := HA.out
    subst hr
    have hci : W4.cell? ⟨Bi, 0, none⟩ = some (.slice (some ⟨gi, 0, none⟩) g.length ci) := (blk_cell HD.out.bi 0).trans rfl
    gi_wp2
    refine leaves_marks (B := w.heap.size) (I := fun W => Kd.R (Kd.int .i64) 3 W w.heap.size (fun _ => True) (.slice (some ⟨gi, 0, none⟩) g.length ci) idj ∧ Below w.heap.size w W) (fun W W' row h hg hr => ⟨row_still hg (fun q e => (hr q e).2) h.1, h.2.grown hg h.2.size (fun q e => (hr q e).1)⟩) (fun W' h => ?_) ds W4 HDS.out HND.out ⟨HD.out.id, HD.out.fx.bel⟩
    refine ⟨_, results_tmp rfl _ _ _, ?_⟩
    exact ⟨_, rfl, h.1, h.2⟩
   | true =>
    obtain ⟨k1, rfl, s', hp, hd⟩ : ∃ k1, gk = k1 + 1 ∧ ∃ s', passB k1 g (rankL s.2 g.length) root s.2 idj = some s' ∧ (if s'.2 = true then domL k1 g (rankL s.2 g.length) root s.2 s'.1 else some s'.1) = some r := by
     cases gk with
     | zero => exact absurd HA.out (by simp [domL])
     | succ k1 =>
      have h1 := HA.out
      rw [if_pos rfl, domL] at h1
      obtain ⟨s', h2, h3⟩ := Option.bind_eq_some_iff.1 h1
      exact ⟨k1, rfl, s', h2, h3⟩
    have HP := Aside0.mk hp
    have HN := Aside0.mk hd
    have HD1 := Aside0.mk (HD.out.flag HC4.out HCW.out (.bool false))
    have HC1 := Aside0.mk (blk_put HC4.out 0 (.bool false) rfl)
    have HDS1 : Aside0 (∀ D ∈ ds, w.heap.size ≤ D ∧ (W4.setCell ⟨Bc, 0, none⟩ (.bool false)).heap[D]? = some (.deferred (some []))) := ⟨fun D hD' => ⟨(HDS.out D hD').1, by
     have h1 := (HDS.out D hD').2
     refine (Below.heap_setCell W4 ⟨Bc, 0, none⟩ (.bool false) D (fun e => ?_)).trans h1
     have h2 := HC4.out
     rw [show D = Bc from e] at h1; rw [h1] at h2; cases h2⟩⟩
    clear HA hp hd
    gi_wp2_with (refine ⟨trivial, ?_⟩; gi_at_call 60; refine (backward.in_ _ (some ⟨go, 0, none⟩) s.2.length co _).mono ?_; rintro e w' ⟨rfl, rfl⟩)
    have hsz : (W4.setCell ⟨Bc, 0, none⟩ (.bool false)).heap.size = W4.heap.size := by simp [World.setCell]
    clear hcc hcf HD HC4 HDS
    generalize W4.setCell ⟨Bc, 0, none⟩ (.bool false) = W5 at HD1 HC1 HDS1 hsz ⊢
    generalize W4.heap.size = Bs at hsz ⊢
    generalize hW6 : W5.alloc (.cells #[.slice (some ⟨go, 0, none⟩) s.2.length co] 22) = W6
    have HB6 : Aside0 (BSt w A c g root go co s.2 Br gr cr Bi gi ci (rankL s.2 g.length) Bc Bs ds W6.heap.size W6 idj false W6) := by
     have hb : Below W5.heap.size W5 W6 := by rw [← hW6]; exact below_alloc (Below.refl _ _) _
     refine ⟨HD1.out.below hb, blk_below HC1.out hb, ?_, fun D hD => ⟨(HDS1.out D hD).1, blk_below (HDS1.out D hD).2 hb⟩, KeepsFrom.refl _ _, rfl, fun _ _ => rfl⟩
     rw [← hsz, ← hW6]; exact blk_new W5 _
    have hBlt : Bs < W6.heap.size := blk_lt HB6.out.bs
    clear hsz hW6 HD1 HC1 HDS1
    refine rangeFunc_next (encs := fun x : Int × Int => #[.int .i64 x.1, .int .i64 x.2]) (Kp := KpB Bs (.slice (some ⟨go, 0, none⟩) s.2.length co)) (Nx := NxB s.2) (S := fun ys => ys = backP s.2 s.2.length) rfl (by omega) (gf := 66) (lb := #[.pointer (some ⟨Bs, 0, none⟩)]) rfl trivial (enters_of Try.func66 (by kernel_rfl) rfl)
     (fun l J W hW hY h0 => backward1.in_ 4 (by omega) l Bs w.heap.size co (some ⟨go, 0, none⟩) s.2 hs1 J hY W (blk_below HB6.out.bs hW) (Kd.R_mono (Kd.R_below HB6.out.st.fx.ord hW) (fun _ _ => trivial)) h0)
     (fun h1 h2 => ⟨h2.1.trans h1.1, fun b hb => (h2.2 b hb).trans (h1.2 b hb)⟩)
     (fun W l o o' hl ho hn => ⟨World.putObj_heap_other (by omega), fun b hb => World.putObj_heap_other (fun e => by
      have h1 := Kd.R_lt HB6.out.st.fx.ord b hb
      omega)⟩)
     (fun _ => rfl)
     (fun pre W => Own1 (fun idp chp => (s.2.reverse.take pre.length).foldlM (stepB k1 g (rankL s.2 g.length) root) (idj, false) = some (idp, chp) ∧ BSt w A c g root go co s.2 Br gr cr Bi gi ci (rankL s.2 g.length) Bc Bs ds W.heap.size W idp chp W))
     ?own ⟨⟨idj, false, by simp, HB6.out⟩⟩
     (fun x => { tmps := #[.slice A g.length c, .int .i64 root, .pointer (some ⟨w.heap.size, 0, none⟩), .pointer (some ⟨w.heap.size + 1, 0, none⟩), .slice none 0 0, .slice (some ⟨go, 0, none⟩) s.2.length co, .pointer (some ⟨Br, 0, none⟩), u7, u8, .pointer (some ⟨Bi, 0, none⟩), .pointer (some ⟨Bc, 0, none⟩), undef, .int .i64 x.2, undef, undef, undef, .slice A g.length c, .int .i64 root, .slice (some ⟨go, 0, none⟩) s.2.length co, .slice (some ⟨W1.heap.size, 0, none⟩) 1 1, .slice A g.length c, .int .i64 (g.length : Int), .slice (some ⟨gr, 0, none⟩) g.length cr, .slice (some ⟨go, 0, none⟩) s.2.length co, .int .i64 (s.2.length : Int), .int .i64 (s.2.length : Int), .bool false, u27, u28, u29, u30, u31, u32, u33, u34, .slice (some ⟨wr.heap.size, 0, none⟩) 1 1, .slice A g.length c, .int .i64 (g.length : Int), .slice (some ⟨gi, 0, none⟩) g.length ci, .slice (some ⟨gi, 0, none⟩) g.length ci, .int .i64 root, .int .i64 root, .pointer (some ⟨gi, root.toNat, none⟩), .bool true, .slice (some ⟨go, 0, none⟩) s.2.length co, .func (.func 66) #[] #[.pointer (some ⟨Bs, 0, none⟩)], .int .i64 x.1, .int .i64 x.2, undef, undef, undef, undef, undef, undef, undef, undef, undef, undef, undef, undef, undef, undef, undef, undef, undef, undef, undef, undef, undef, undef, undef, undef, undef, undef, undef, undef, undef, undef, undef, undef, undef, undef, undef, undef, undef, undef, undef, undef, undef, undef, undef, undef, undef, undef, undef, undef, undef, undef, undef, undef, undef, undef, undef, undef, undef, undef, u106, undef], defers := [] }) ?assign ?body ?done
    case own =>
     rintro pre Wa Wb row ⟨⟨idp, chp, h1, h2⟩⟩ hg hr
     have hr' : ∀ q, row = some q → ∃ o : Obj, Wa.heap[q]? = some o ∧ o.isCells = false := fun q e => (hr q e).2
     refine ⟨⟨idp, chp, h1, h2.st.still hg (fun q e => ⟨Nat.le_trans HB6.out.st.fx.bel.size (hr q e).1, (hr q e).2⟩), cells_still hg hr' h2.bc, cells_still hg hr' h2.bs, fun D hD => ⟨(h2.ds D hD).1, ?_⟩, KeepsFrom.refl _ _, rfl, fun _ _ => rfl⟩⟩
     have h3 := HB6.out.ds D hD
     refine (hg.block D (blk_lt (h2.ds D hD).2) (fun e => ?_)).trans (h2.ds D hD).2
     have h4 := (hr D e.symm).1
     have h5 := blk_lt h3.2
     omega
    case assign =>
     intro l x W K hK
     gi_wp2
     exact hK
    case done =>
     rintro D ys W hD rfl ⟨⟨idp, chp, h1, h2⟩⟩ hK2
     rw [backP_length, List.take_of_length_le (by simp)] at h1
     have hs' : s' = (idp, chp) := Option.some.inj ((show s.2.reverse.foldlM (stepB k1 g (rankL s.2 g.length) root) (idj, false) = some s' from HP.out).symm.trans h1)
     have HN2 := HN.out
     rw [hs'] at HN2
     have H2 := Aside0.mk h2
     have HN3 := Aside0.mk HN2
     have HK2 := Aside0.mk hK2
     have hcb : W.cell? ⟨Bc, 0, none⟩ = some (.bool chp) := (blk_cell h2.bc 0).trans rfl
     have hDw : w.heap.size ≤ D := Nat.le_trans HB6.out.st.fx.bel.size hD
     clear HP HN hs' h1 h2 HN2 hK2
     gi_wp2
     have hb : Below W.heap.size W (W.alloc (.cells #[.bool chp] 4)) := below_alloc (Below.refl _ _) _
     refine Handed.intro k1 (by omega) (hJ _ _ _ ⟨W.heap.size, chp, idp, D :: ds, _, _, _, _, rfl, ⟨?_⟩, ⟨H2.out.st.below hb⟩, ⟨blk_new W _⟩, ⟨H2.out.st.fx.bel.size⟩, ⟨fun D' hD' => ?_⟩, ⟨?_⟩⟩)
     ·
      have h3 := HN3.out
      by_cases hc : chp = true
      ·
       rw [if_pos hc] at h3 ⊢; exact h3
      ·
       rw [if_neg hc] at h3 ⊢; exact Option.some.inj h3
     ·
      rcases List.mem_cons.1 hD' with rfl | hD'
      ·
       exact ⟨hDw, blk_below HK2.out hb⟩
      ·
       exact ⟨(H2.out.ds D' hD').1, blk_below (H2.out.ds D' hD').2 hb⟩
     ·
      refine List.nodup_cons.2 ⟨fun hm => ?_, HND.out⟩
      have := blk_lt (HB6.out.ds D hm).2
      omega
    case body =>
     rintro l pre x W ⟨⟨idp, chp, h1, h2⟩⟩ ⟨kk, hkk, rfl, rfl⟩
     rw [backP_length] at h1
     obtain ⟨s1, e1, e2⟩ := pass_next HP.out hkk h1
     have hbm : rd s.2 ((s.2.length - 1 - kk : Nat) : Int) ∈ s.2 := by
      unfold rd
      rw [Int.toNat_natCast, List.getD_eq_getElem?_getD, List.getElem?_eq_getElem (by omega)]
      exact List.getElem_mem (by omega)
     obtain ⟨hb0, hb1⟩ := HS2.out _ hbm
     have E2 := Aside0.mk e2
     have H2 : Aside0 (BSt w A c g root go co s.2 Br gr cr Bi gi ci (rankL s.2 g.length) Bc Bs ds W6.heap.size W idp chp W) := ⟨⟨h2.st, h2.bc, h2.bs, h2.ds, KeepsFrom.refl _ _, rfl, fun _ _ => rfl⟩⟩
     clear h1 h2 e2 hbm HP HN
     dsimp only
     generalize rd s.2 ((s.2.length - 1 - kk : Nat) : Int) = b at e1 hb0 hb1 ⊢
     have hbf : W.cell? ⟨w.heap.size + 1, 0, none⟩ = some (.int .i64 root) := (blk_cell H2.out.st.fx.bf 0).trans rfl
     have hbg : W.cell? ⟨w.heap.size, 0, none⟩ = some (.slice A g.length c) := (blk_cell H2.out.st.fx.bg 0).trans rfl
     unfold stepB at e1
     by_cases hbr : b = root
     ·
      have hcc : (b == root) = true := by simp [hbr]
      rw [if_pos hbr] at e1
      cases e1
      clear hbr hb0 hb1
      gi_wp2
      refine ⟨H2.out.kf, H2.out.kp, ⟨idp, chp, ?_, H2.out.st, H2.out.bc, H2.out.bs, H2.out.ds, KeepsFrom.refl _ _, rfl, fun _ _ => rfl⟩⟩
      first | (rw [backP_length]; exact E2.out) | (rw [List.length_append, backP_length]; exact E2.out)
     ·
      have hcc : (b == root) = false := by simp [hbr]
      rw [if_neg hbr] at e1
      obtain ⟨xn, hx, e3⟩ := Option.bind_eq_some_iff.1 e1
      have E3 := Aside0.mk e3
      have HX := Aside0.mk hx
      have hB0 := Aside0.mk hb0
      have hB1 := Aside0.mk hb1
      clear hbr e1 e3 hx hb0 hb1
      gi_wp2
      gi_loopg [13, 53] g.length (fun gk v13 v53 wr => ∃ (p : Nat) (xp : Int), v13 = .int .i64 xp ∧ v53 = .int .i64 (p : Int) ∧ Aside0 (p + gk = g.length) ∧ Aside0 (((List.range g.length).drop p).foldlM (nextP k1 g (rankL s.2 g.length) idp b) xp = some xn) ∧ Aside0 (BSt w A c g root go co s.2 Br gr cr Bi gi ci (rankL s.2 g.length) Bc Bs ds W6.heap.size W idp chp wr))
      case atStart => exact ⟨0, -1, rfl, rfl, ⟨by omega⟩, ⟨HX.out⟩, H2⟩
      case round =>
       clear HX H2 hbf hbg hcc
       obtain ⟨p, xp, rfl, rfl, HJ, HA, H3⟩ := hrel
       have hln := Aside0.mk H3.out.st.len
       have hci : wr.cell? ⟨Bi, 0, none⟩ = some (.slice (some ⟨gi, 0, none⟩) g.length ci) := (blk_cell H3.out.st.bi 0).trans rfl
       by_cases hlt : p < g.length
       ·
        have hd := HA.out
        rw [List.drop_eq_getElem_cons (by simpa using hlt), List.foldlM_cons] at hd
        obtain ⟨x', ha1, ha2⟩ := Option.bind_eq_some_iff.1 hd
        have HA2 := Aside0.mk ha2
        clear hd HA ha2
        rw [List.getElem_range] at ha1
        have h100 : p < 100 := by omega
        have HB3 := Aside0.mk (HE3.out p hlt)
        have h100n : (p : Int) < (g.length : Int) := by omega
        have hpi : (p : Int) < (idp.length : Int) := by have := hln.out.1; omega
        obtain ⟨ad, ead, hx⟩ := Kd.at_int (Kd.R_reads' H3.out.st.id).2.2 (p : Int) (by omega) hpi
        injection ead with ead
        subst ead
        rw [Int.toNat_natCast, add_plain] at hx
        have hp0 : (0 : Int) ≤ (p : Int) := by omega
        clear hpi hlt
        unfold nextP at ha1
        split at ha1
        ·
         rename_i hneg
         cases ha1
         have hcc : decide (rd idp (p : Int) < 0) = true := by simp [hneg]
         clear hneg
         gi_wp2_with (refine ⟨trivial, ?_⟩)
         go_roundg (gk - 1)
         case measure => have := HJ.out; omega
         case rel => exact ⟨p + 1, _, rfl, by go_num, ⟨by have := HJ.out; omega⟩, HA2, H3⟩
        ·
         rename_i hneg
         have hcc : decide (rd idp (p : Int) < 0) = false := by simp [hneg]
         have hcg : wr.cell? ⟨w.heap.size, 0, none⟩ = some (.slice A g.length c) := (blk_cell H3.out.st.fx.bg 0).trans rfl
         obtain ⟨adg, A3, c3, eA, x0, x1, x2, x3, l3, r3⟩ := at_T62 HR.out (p : Int) hp0 h100n
         cases eA
         replace x0 := (H3.out.st.fx.bel.cell (World.block_lt_of_cell? w _ x0)).trans x0
         replace x1 := (H3.out.st.fx.bel.cell (World.block_lt_of_cell? w _ x1)).trans x1
         replace x2 := (H3.out.st.fx.bel.cell (World.block_lt_of_cell? w _ x2)).trans x2
         replace x3 := (H3.out.st.fx.bel.cell (World.block_lt_of_cell? w _ x3)).trans x3
         rw [Int.toNat_natCast] at x0 x1 x2 x3
         have R3 := Aside0.mk (Kd.C_below r3 H3.out.st.fx.bel)
         have L3 := Aside0.mk l3
         clear r3 l3
         have HA1 := Aside0.mk ha1
         clear ha1
         clear hneg
         by_cases hin : b ∈ innerL g (p : Int)
         ·
          have hdec : decide (b ∈ innerL g (p : Int)) = true := by simp [hin]
          have ha1 := HA1.out
          rw [if_pos hin] at ha1
          clear hin HA1
          by_cases hx0 : xp < 0
          ·
           have hxc : decide (xp < 0) = true := by simp [hx0]
           rw [if_pos hx0] at ha1
           cases ha1
           clear hx0
           gi_wp2_with (first | (refine ⟨trivial, ?_⟩; gi_at_call 48; refine (CallsIn.inRound l (callsIn_wide.2 (flow_Inner.calls ((rd_T62 g (p : Int)).f3.length + 1) _ _ _ _ _ (rd_T62 g (p : Int)).f3 (innerL g (p : Int)) _ R3.out L3.out (inner_f _ _ _ _ HB3.out)))).mono ?_; rintro e W7 ⟨v7, rfl, hr7, hb7⟩; have H7 := Aside0.mk (H3.out.below hb7); have hl7 : (innerL g (p : Int)).length < 2 ^ 62 := (by have h1 := innerE_len (rd_T62 g (p : Int)).f3; have h2 := HB3.out; have h3 : (innerL g (p : Int)).length = (innerE (rd_T62 g (p : Int)).f3).length := rfl; omega); obtain ⟨A7, c7, e7⟩ := Kd.R_slice hr7; subst e7; have R7 := Aside0.mk (Kd.R_reads' hr7); clear hr7 hb7 R3 hl7) | (refine ⟨trivial, ?_⟩; gi_at_call 47; refine (CallsIn.inRound l (callsIn_wide.2 (slices_Contains_int_int.calls ((innerL g (p : Int)).length + 1) _ _ (innerL g (p : Int)) b (decide (b ∈ innerL g (p : Int))) _ R7.out.2.2 R7.out.2.1 (contains_f _ _ (by have h1 := innerE_len (rd_T62 g (p : Int)).f3; have h2 := HB3.out; have h3 : (innerL g (p : Int)).length = (innerE (rd_T62 g (p : Int)).f3).length := rfl; omega))))).mono ?_; rintro e w' ⟨rfl, ⟨nd, rfl⟩⟩))
           go_roundg (gk - 1)
           case measure => have := HJ.out; omega
           case rel => exact ⟨p + 1, _, rfl, by go_num, ⟨by have := HJ.out; omega⟩, HA2, ⟨H7.out.below (pw_below_drewN (Below.refl _ _) _)⟩⟩
          ·
           have hxc : decide (xp < 0) = false := by simp [hx0]
           rw [if_neg hx0] at ha1
           have HI0 := Aside0.mk ha1
           clear hx0 ha1
           gi_wp2_with (first | (refine ⟨trivial, ?_⟩; gi_at_call 48; refine (CallsIn.inRound l (callsIn_wide.2 (flow_Inner.calls ((rd_T62 g (p : Int)).f3.length + 1) _ _ _ _ _ (rd_T62 g (p : Int)).f3 (innerL g (p : Int)) _ R3.out L3.out (inner_f _ _ _ _ HB3.out)))).mono ?_; rintro e W7 ⟨v7, rfl, hr7, hb7⟩; have H7 := Aside0.mk (H3.out.below hb7); have hl7 : (innerL g (p : Int)).length < 2 ^ 62 := (by have h1 := innerE_len (rd_T62 g (p : Int)).f3; have h2 := HB3.out; have h3 : (innerL g (p : Int)).length = (innerE (rd_T62 g (p : Int)).f3).length := rfl; omega); obtain ⟨A7, c7, e7⟩ := Kd.R_slice hr7; subst e7; have R7 := Aside0.mk (Kd.R_reads' hr7); clear hr7 hb7 R3 hl7) | (refine ⟨trivial, ?_⟩; gi_at_call 47; refine (CallsIn.inRound l (callsIn_wide.2 (slices_Contains_int_int.calls ((innerL g (p : Int)).length + 1) _ _ (innerL g (p : Int)) b (decide (b ∈ innerL g (p : Int))) _ R7.out.2.2 R7.out.2.1 (contains_f _ _ (by have h1 := innerE_len (rd_T62 g (p : Int)).f3; have h2 := HB3.out; have h3 : (innerL g (p : Int)).length = (innerE (rd_T62 g (p : Int)).f3).length := rfl; omega))))).mono ?_; rintro e w' ⟨rfl, ⟨nd, rfl⟩⟩))
           clear hcc hxc hdec hx hci hcg x0 x1 x2 x3
           obtain ⟨gko, rfl⟩ : ∃ q, q = gk := ⟨gk, rfl⟩
           gi_loopg [13, 15] k1 (fun gk v13 v15 wr => ∃ (a x : Int), v13 = .int .i64 x ∧ v15 = .int .i64 a ∧ Aside0 (isect gk (rankL s.2 g.length) idp a x = some x') ∧ Aside0 (BSt w (some adg) c g root go co s.2 Br gr cr Bi gi ci (rankL s.2 g.length) Bc Bs ds W6.heap.size W idp chp wr))
           case atStart => exact ⟨_, _, rfl, rfl, ⟨HI0.out⟩, ⟨H7.out.below (pw_below_drewN (Below.refl _ _) _)⟩⟩
           case round =>
            clear HI0 H7
            obtain ⟨a, x, rfl, rfl, HI, H8⟩ := hrel
            cases gk with
            | zero => exact absurd HI.out (by simp [isect])
            | succ j2 =>
            have hI := HI.out
            rw [isect] at hI
            clear HI
            by_cases heq : a = x
            ·
             rw [if_pos heq] at hI
             have hcc : (a != x) = false := by simp [heq]
             have HXX := Option.some.inj hI
             clear hI
             subst HXX
             subst heq
             gi_wp2
             go_roundg (gko - 1)
             case measure => have := HJ.out; omega
             case rel => exact ⟨p + 1, _, rfl, by go_num, ⟨by have := HJ.out; omega⟩, HA2, H8⟩
            ·
             rw [if_neg heq] at hI
             split at hI
             case isFalse => cases hI
             rename_i hbd
             obtain ⟨b1, b2, b3, b4, b5, b6⟩ := hbd
             have hcc : (a != x) = true := by simp [heq]
             clear heq
             obtain ⟨ad, ead, hra⟩ := Kd.at_int (Kd.R_reads' H8.out.st.rk).2.2 a b1 b2
             injection ead with ead
             subst ead
             rw [add_plain] at hra
             obtain ⟨ad, ead, hrx⟩ := Kd.at_int (Kd.R_reads' H8.out.st.rk).2.2 x b4 b5
             injection ead with ead
             subst ead
             rw [add_plain] at hrx
             have hcr : wr.cell? ⟨Br, 0, none⟩ = some (.slice (some ⟨gr, 0, none⟩) g.length cr) := (blk_cell H8.out.st.br 0).trans rfl
             have q1 := eq_true b1
             have q2 : (a < (g.length : Int)) = True := eq_true (by have := H8.out.st.len.2; omega)
             have q3 := eq_true b4
             have q4 : (x < (g.length : Int)) = True := eq_true (by have := H8.out.st.len.2; omega)
             have HBD := Aside0.mk (And.intro b3 b6)
             have HII := Aside0.mk hI
             clear b1 b2 b3 b4 b5 b6 hI
             gi_wp2
             refine startIn_ (by kernel_rfl) (n := 9) (S := fun w' => w'.cell? ⟨Br, 0, none⟩ = some (.slice (some ⟨gr, 0, none⟩) g.length cr) ∧ w'.cell? ⟨gr, a.toNat, none⟩ = some (.int .i64 (rd (rankL s.2 g.length) a)) ∧ w'.cell? ⟨gr, x.toNat, none⟩ = some (.int .i64 (rd (rankL s.2 g.length) x))) (ds := []) #[false, false, false, false, false, false, false, false, false] (by kernel_rfl) rfl rfl ⟨hcr, hra, hrx⟩ (fun hHeld => ?_)
             refine pure_ (i := 1) (N := some 79) (v := ?_) (a' := ?_) #[false, true, false, false, false, false, false, false, false] rfl rfl (by kernel_rfl) (fun _ _ _ h => only_panic h) (Or.inl ⟨by rfl, ?_⟩) ?_ ?_
             rotate_left
             ·
              intro w'
              go_simp
              with_reducible rfl
             rotate_left
             ·
              simp only [Act.put, List.setIfInBounds_toArray, List.set_cons_zero, List.set_cons_succ, i64_w, i32_w]
              rfl
             refine pure_ (i := 5) (N := some 83) (v := ?_) (a' := ?_) #[false, true, false, false, false, true, false, false, false] rfl rfl (by kernel_rfl) (fun _ _ _ h => only_panic h) (Or.inl ⟨by rfl, ?_⟩) ?_ ?_
             rotate_left
             ·
              intro w'
              go_simp
              with_reducible rfl
             rotate_left
             ·
              simp only [Act.put, List.setIfInBounds_toArray, List.set_cons_zero, List.set_cons_succ, i64_w, i32_w]
              rfl
             refine take_ (i := 0) (N := some 78) (v := ?_) (a' := ?_) #[true, true, false, false, false, true, false, false, false] rfl rfl (by kernel_rfl) (fun _ _ _ h => only_panic h) (Or.inl ⟨by rfl, ?_⟩) hHeld ?_ ?_
             rotate_left
             ·
              rintro w' ⟨s0, s1, s2⟩
              go_simp
              with_reducible rfl
             rotate_left
             ·
              simp only [Act.put, List.setIfInBounds_toArray, List.set_cons_zero, List.set_cons_succ, i64_w, i32_w]
              rfl
             refine pure_ (i := 2) (N := some 80) (v := ?_) (a' := ?_) #[true, true, true, false, false, true, false, false, false] rfl rfl (by kernel_rfl) (fun _ _ _ h => only_panic h) (Or.inl ⟨by rfl, ?_⟩) ?_ ?_
             rotate_left
             ·
              intro w'
              go_simp
              with_reducible rfl
             rotate_left
             ·
              simp only [Act.put, List.setIfInBounds_toArray, List.set_cons_zero, List.set_cons_succ, i64_w, i32_w]
              rfl
             refine take_ (i := 3) (N := some 81) (v := ?_) (a' := ?_) #[true, true, true, true, false, true, false, false, false] rfl rfl (by kernel_rfl) (fun _ _ _ h => only_panic h) (Or.inl ⟨by rfl, ?_⟩) hHeld ?_ ?_
             rotate_left
             ·
              rintro w' ⟨s0, s1, s2⟩
              go_simp
              with_reducible rfl
             rotate_left
             ·
              simp only [Act.put, List.setIfInBounds_toArray, List.set_cons_zero, List.set_cons_succ, i64_w, i32_w]
              rfl
             refine take_ (i := 4) (N := some 82) (v := ?_) (a' := ?_) #[true, true, true, true, true, true, false, false, false] rfl rfl (by kernel_rfl) (fun _ _ _ h => only_panic h) (Or.inl ⟨by rfl, ?_⟩) hHeld ?_ ?_
             rotate_left
             ·
              rintro w' ⟨s0, s1, s2⟩
              go_simp
              with_reducible rfl
             rotate_left
             ·
              simp only [Act.put, List.setIfInBounds_toArray, List.set_cons_zero, List.set_cons_succ, i64_w, i32_w]
              rfl
             refine pure_ (i := 6) (N := some 84) (v := ?_) (a' := ?_) #[true, true, true, true, true, true, true, false, false] rfl rfl (by kernel_rfl) (fun _ _ _ h => only_panic h) (Or.inl ⟨by rfl, ?_⟩) ?_ ?_
             rotate_left
             ·
              intro w'
              go_simp
              with_reducible rfl
             rotate_left
             ·
              simp only [Act.put, List.setIfInBounds_toArray, List.set_cons_zero, List.set_cons_succ, i64_w, i32_w]
              rfl
             refine take_ (i := 7) (N := some 85) (v := ?_) (a' := ?_) #[true, true, true, true, true, true, true, true, false] rfl rfl (by kernel_rfl) (fun _ _ _ h => only_panic h) (Or.inl ⟨by rfl, ?_⟩) hHeld ?_ ?_
             rotate_left
             ·
              rintro w' ⟨s0, s1, s2⟩
              go_simp
              with_reducible rfl
             rotate_left
             ·
              simp only [Act.put, List.setIfInBounds_toArray, List.set_cons_zero, List.set_cons_succ, i64_w, i32_w]
              rfl
             refine pure_ (i := 8) (N := some 86) (v := ?_) (a' := ?_) #[true, true, true, true, true, true, true, true, true] rfl rfl (by kernel_rfl) (fun _ _ _ h => only_panic h) (Or.inl ⟨by rfl, ?_⟩) ?_ ?_
             rotate_left
             ·
              intro w'
              go_simp
              with_reducible rfl
             rotate_left
             ·
              simp only [Act.put, List.setIfInBounds_toArray, List.set_cons_zero, List.set_cons_succ, i64_w, i32_w]
              rfl
             refine done_ (by kernel_rfl) ⟨rfl, ?_⟩
             have H9 : Aside0 (BSt w (some adg) c g root go co s.2 Br gr cr Bi gi ci (rankL s.2 g.length) Bc Bs ds W6.heap.size W idp chp wr.drew) := ⟨H8.out.below (below_drew1 (Below.refl _ _))⟩
             clear H8 hHeld hcr hra hrx hcc
             by_cases hl2 : rd (rankL s.2 g.length) a < rd (rankL s.2 g.length) x
             ·
              have hcc : decide (rd (rankL s.2 g.length) a < rd (rankL s.2 g.length) x) = true := by simp [hl2]
              have hII := HII.out
              rw [if_pos hl2] at hII
              have HI3 := Aside0.mk hII
              clear hII HII
              obtain ⟨ad, ead, hid⟩ := Kd.at_int (Kd.R_reads' H9.out.st.id).2.2 a (of_eq_true q1) HBD.out.1
              injection ead with ead
              subst ead
              rw [add_plain] at hid
              change wr.cell? _ = _ at hid
              have hci : wr.cell? ⟨Bi, 0, none⟩ = some (.slice (some ⟨gi, 0, none⟩) g.length ci) := (blk_cell H9.out.st.bi 0).trans rfl
              gi_wp2
              go_roundg j2
              case measure => omega
              case rel => exact ⟨_, _, rfl, rfl, HI3, H9⟩
             ·
              have hcc : decide (rd (rankL s.2 g.length) a < rd (rankL s.2 g.length) x) = false := by simp [hl2]
              have hII := HII.out
              rw [if_neg hl2] at hII
              have HI3 := Aside0.mk hII
              clear hII HII
              obtain ⟨ad, ead, hid⟩ := Kd.at_int (Kd.R_reads' H9.out.st.id).2.2 x (of_eq_true q3) HBD.out.2
              injection ead with ead
              subst ead
              rw [add_plain] at hid
              change wr.cell? _ = _ at hid
              have hci : wr.cell? ⟨Bi, 0, none⟩ = some (.slice (some ⟨gi, 0, none⟩) g.length ci) := (blk_cell H9.out.st.bi 0).trans rfl
              gi_wp2
              go_roundg j2
              case measure => omega
              case rel => exact ⟨_, _, rfl, rfl, HI3, H9⟩
         ·
          have hdec : decide (b ∈ innerL g (p : Int)) = false := by simp [hin]
          have ha1 := HA1.out
          rw [if_neg hin] at ha1
          cases ha1
          clear hin HA1
          gi_wp2_with (first | (refine ⟨trivial, ?_⟩; gi_at_call 48; refine (CallsIn.inRound l (callsIn_wide.2 (flow_Inner.calls ((rd_T62 g (p : Int)).f3.length + 1) _ _ _ _ _ (rd_T62 g (p : Int)).f3 (innerL g (p : Int)) _ R3.out L3.out (inner_f _ _ _ _ HB3.out)))).mono ?_; rintro e W7 ⟨v7, rfl, hr7, hb7⟩; have H7 := Aside0.mk (H3.out.below hb7); have hl7 : (innerL g (p : Int)).length < 2 ^ 62 := (by have h1 := innerE_len (rd_T62 g (p : Int)).f3; have h2 := HB3.out; have h3 : (innerL g (p : Int)).length = (innerE (rd_T62 g (p : Int)).f3).length := rfl; omega); obtain ⟨A7, c7, e7⟩ := Kd.R_slice hr7; subst e7; have R7 := Aside0.mk (Kd.R_reads' hr7); clear hr7 hb7 R3 hl7) | (refine ⟨trivial, ?_⟩; gi_at_call 47; refine (CallsIn.inRound l (callsIn_wide.2 (slices_Contains_int_int.calls ((innerL g (p : Int)).length + 1) _ _ (innerL g (p : Int)) b (decide (b ∈ innerL g (p : Int))) _ R7.out.2.2 R7.out.2.1 (contains_f _ _ (by have h1 := innerE_len (rd_T62 g (p : Int)).f3; have h2 := HB3.out; have h3 : (innerL g (p : Int)).length = (innerE (rd_T62 g (p : Int)).f3).length := rfl; omega))))).mono ?_; rintro e w' ⟨rfl, ⟨nd, rfl⟩⟩))
          go_roundg (gk - 1)
          case measure => have := HJ.out; omega
          case rel => exact ⟨p + 1, _, rfl, by go_num, ⟨by have := HJ.out; omega⟩, HA2, ⟨H7.out.below (pw_below_drewN (Below.refl _ _) _)⟩⟩
       ·
        have hd := HA.out
        rw [List.drop_eq_nil_of_le (by simp; omega)] at hd
        simp only [List.foldlM_nil] at hd
        injection hd with hd
        subst hd
        clear HA
        obtain ⟨ad, ead, hx⟩ := Kd.at_int (Kd.R_reads' H3.out.st.id).2.2 b hB0.out (by have := hB1.out; have := hln.out.1; omega)
        injection ead with ead
        subst ead
        have p0 := eq_true hB0.out
        have p1 := eq_true hB1.out
        rw [add_plain] at hx
        have hpn := HJ.out
        obtain rfl : p = g.length := by omega
        clear hlt hpn
        obtain ⟨-, m2⟩ := Kd.R_celln (-1) H3.out.st.id b hB0.out hB1.out
        have e4 := E3.out
        by_cases hne : xp = rd idp b
        ·
         rw [if_pos hne] at e4
         cases e4
         have hcc : (xp != rd idp b) = false := by simp [hne]
         clear hne
         gi_wp2
         refine ⟨H3.out.kf, H3.out.kp, ⟨idp, chp, ?_, H3.out.st, H3.out.bc, H3.out.bs, H3.out.ds, KeepsFrom.refl _ _, rfl, fun _ _ => rfl⟩⟩
         first | (rw [backP_length]; exact E2.out) | (rw [List.length_append, backP_length]; exact E2.out)
        ·
         rw [if_neg hne] at e4
         cases e4
         have hcc : (xp != rd idp b) = true := by simp [hne]
         have H4 := Aside0.mk ((H3.out.put b xp).flag HCW.out true)
         have hcb : (wr.setCell ⟨gi, b.toNat, none⟩ (.int .i64 xp)).cell? ⟨Bc, 0, none⟩ = some (.bool chp) := (blk_cell (H3.out.put b xp).bc 0).trans rfl
         have hcf := blk_frozen (H3.out.put b xp).bc 0
         clear hne
         gi_wp2
         refine ⟨H4.out.kf, H4.out.kp, ⟨_, _, ?_, H4.out.st, H4.out.bc, H4.out.bs, H4.out.ds, KeepsFrom.refl _ _, rfl, fun _ _ => rfl⟩⟩
         first | (rw [backP_length]; exact E2.out) | (rw [List.length_append, backP_length]; exact E2.out)
end Go.Proofs.Ytaellapacoikaaa.PB
