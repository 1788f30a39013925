import Derived.Test.YtaellapacoikaaaVSAx6d
import Derived.Deep.Cut
namespace Go.Proofs.Ytaellapacoikaaa.PA
open Go.RowKit Go.Proofs.YtaellapacoikaaaW.PrintWords Go.Proofs.YtaellapacoikaaaW.PrintLast Go.Proofs.YtaellapacoikaaaW.PrintMore
set_option linter.unusedVariables false
set_option linter.unusedSimpArgs false
set_option maxRecDepth 100000 in
set_option maxHeartbeats 2000000 in
theorem find8 : FindC 8 := by
  intro k A c l r1 r2 r3 r4 r5 r6 r7 r8 w hr hc h
  have h := find_up h
  simp [effects_Find.f, effects_Find.j0, effects_Find.j1, effects_Find.j2, effects_Find.j3, effects_Find.j4, effects_Find.j5, effects_Find.j6, Option.bind_eq_some_iff] at h
  obtain ⟨t0, b0, rfl, rfl, rfl, rfl, rfl, rfl, rfl, rfl⟩ := h
  have B0 := Aside0.mk b0
  have HR := Aside0.mk hr
  have HC := Aside0.mk hc
  have HB := Aside0.mk (Below.refl w.heap.size w)
  clear hr hc b0
  go_enter Try.func35, Try.ntmps35
  go_upto_if 8 with (first | ((with_reducible refine gate_dst (N := 1) rfl ?_); refine bx_ (N := 1) (cs := #[.int .i64 8, .slice A l.length c]) (t := 24) ?_; intro g0 hg w3 hbox hb; have BK0 := Aside0.mk hbox; have GW0 := bs_ HB hg; replace HB := hs_ HB hb; clear hb hbox hg) | ((with_reducible refine gate_dst (N := 2) rfl ?_); refine bx_ (N := 2) (cs := #[.int .i64 0, .int .i64 0, .int .i64 0, .int .i64 0, .int .i64 0, .int .i64 0, .bool false, .bool false]) (t := 26) ?_; intro g1 hg w4 hbox hb; have BK1 := Aside0.mk hbox; have GW1 := bs_ HB hg; have N01 := nl_ BK0 hg; have N10 := ng_ BK0 hg; replace BK0 := bb_ BK0 hb; replace HB := hs_ HB hb; clear hb hbox hg; have hn1 := N10.out; have hn2 := N01.out; obtain ⟨c0, c1, e0, e1⟩ := cz2_ BK0; obtain ⟨d0, d1, d2, d3, d4, d5, d6, d7, f0, f1, f2, f3, f4, f5, f6, f7⟩ := cz8_ BK1))
  go_wp2_with (first | (go_at_call 54; (with_reducible refine (effects_Find_1.calls 0 g0 8 A c l t0 _ (bk_ BK0) (cb_ HR HB) HC.out B0.out).mono ?_); rintro e w' ⟨rfl, ⟨nd, rfl⟩⟩))
  refine bodyPost_ret (results_cell_row rfl _ _ g1 26 #[.int .i64 (0), .int .i64 (t0), .int .i64 (0), .int .i64 (0), .int .i64 (0), .int .i64 (0), .bool false, .bool false] (0, 0) _ rfl (bk_ BK1) Try.underlying26 rfl (by kernel_rfl)) rfl ?_
  exact ⟨id_, bw_ HB⟩
set_option maxRecDepth 100000 in
set_option maxHeartbeats 2000000 in
theorem find12 : FindC 12 := by
  intro k A c l r1 r2 r3 r4 r5 r6 r7 r8 w hr hc h
  have h := find_up h
  have hx : effects_Find.f (k + 8) 12 l = effects_arithmetic.f 12 l true true := by
    cases hy : effects_arithmetic.f 12 l true true <;> simp [effects_Find.f, effects_Find.j0, effects_Find.j1, effects_Find.j2, effects_Find.j3, effects_Find.j4, effects_Find.j5, effects_Find.j6, Option.bind_eq_some_iff, hy]
  rw [hx] at h
  have A1 := Aside0.mk h
  have HR := Aside0.mk hr
  have HC := Aside0.mk hc
  have HB := Aside0.mk (Below.refl w.heap.size w)
  clear hr hc h
  go_enter Try.func35, Try.ntmps35
  go_upto_if 8 with (first | ((with_reducible refine gate_dst (N := 1) rfl ?_); refine bx_ (N := 1) (cs := #[.int .i64 12, .slice A l.length c]) (t := 24) ?_; intro g0 hg w3 hbox hb; have BK0 := Aside0.mk hbox; have GW0 := bs_ HB hg; replace HB := hs_ HB hb; clear hb hbox hg) | ((with_reducible refine gate_dst (N := 2) rfl ?_); refine bx_ (N := 2) (cs := #[.int .i64 0, .int .i64 0, .int .i64 0, .int .i64 0, .int .i64 0, .int .i64 0, .bool false, .bool false]) (t := 26) ?_; intro g1 hg w4 hbox hb; have BK1 := Aside0.mk hbox; have GW1 := bs_ HB hg; have N01 := nl_ BK0 hg; have N10 := ng_ BK0 hg; replace BK0 := bb_ BK0 hb; replace HB := hs_ HB hb; clear hb hbox hg; have hn1 := N10.out; have hn2 := N01.out; obtain ⟨c0, c1, e0, e1⟩ := cz2_ BK0; obtain ⟨d0, d1, d2, d3, d4, d5, d6, d7, f0, f1, f2, f3, f4, f5, f6, f7⟩ := cz8_ BK1))
  go_wp2_with (go_at_call 55; (with_reducible refine (effects_arithmetic.calls 12 A c l true true r1 r2 r3 r4 r5 r6 r7 r8 _ (cb_ HR HB) HC.out A1.out).mono ?_); rintro e w5 ⟨rfl, hb⟩; replace BK1 := bb_ BK1 hb; replace HB := hs_ HB hb; clear hb; obtain ⟨d0, d1, d2, d3, d4, d5, d6, d7, f0, f1, f2, f3, f4, f5, f6, f7⟩ := cz8_ BK1)
  refine bodyPost_ret (results_cell_row rfl _ _ g1 26 #[.int .i64 r1, .int .i64 r2, .int .i64 r3, .int .i64 r4, .int .i64 r5, .int .i64 r6, .bool r7, .bool r8] (0, 0) _ rfl (bk_ BK1) Try.underlying26 rfl (by kernel_rfl)) rfl ?_
  exact ⟨id_, bw_ HB⟩
set_option maxRecDepth 100000 in
set_option maxHeartbeats 2000000 in
theorem find16 : FindC 16 := by
  intro k A c l r1 r2 r3 r4 r5 r6 r7 r8 w hr hc h
  have h := find_up h
  have hx : effects_Find.f (k + 8) 16 l = effects_arithmetic.f 16 l true true := by
    cases hy : effects_arithmetic.f 16 l true true <;> simp [effects_Find.f, effects_Find.j0, effects_Find.j1, effects_Find.j2, effects_Find.j3, effects_Find.j4, effects_Find.j5, effects_Find.j6, Option.bind_eq_some_iff, hy]
  rw [hx] at h
  have A1 := Aside0.mk h
  have HR := Aside0.mk hr
  have HC := Aside0.mk hc
  have HB := Aside0.mk (Below.refl w.heap.size w)
  clear hr hc h
  go_enter Try.func35, Try.ntmps35
  go_upto_if 8 with (first | ((with_reducible refine gate_dst (N := 1) rfl ?_); refine bx_ (N := 1) (cs := #[.int .i64 16, .slice A l.length c]) (t := 24) ?_; intro g0 hg w3 hbox hb; have BK0 := Aside0.mk hbox; have GW0 := bs_ HB hg; replace HB := hs_ HB hb; clear hb hbox hg) | ((with_reducible refine gate_dst (N := 2) rfl ?_); refine bx_ (N := 2) (cs := #[.int .i64 0, .int .i64 0, .int .i64 0, .int .i64 0, .int .i64 0, .int .i64 0, .bool false, .bool false]) (t := 26) ?_; intro g1 hg w4 hbox hb; have BK1 := Aside0.mk hbox; have GW1 := bs_ HB hg; have N01 := nl_ BK0 hg; have N10 := ng_ BK0 hg; replace BK0 := bb_ BK0 hb; replace HB := hs_ HB hb; clear hb hbox hg; have hn1 := N10.out; have hn2 := N01.out; obtain ⟨c0, c1, e0, e1⟩ := cz2_ BK0; obtain ⟨d0, d1, d2, d3, d4, d5, d6, d7, f0, f1, f2, f3, f4, f5, f6, f7⟩ := cz8_ BK1))
  go_wp2_with (go_at_call 55; (with_reducible refine (effects_arithmetic.calls 16 A c l true true r1 r2 r3 r4 r5 r6 r7 r8 _ (cb_ HR HB) HC.out A1.out).mono ?_); rintro e w5 ⟨rfl, hb⟩; replace BK1 := bb_ BK1 hb; replace HB := hs_ HB hb; clear hb; obtain ⟨d0, d1, d2, d3, d4, d5, d6, d7, f0, f1, f2, f3, f4, f5, f6, f7⟩ := cz8_ BK1)
  refine bodyPost_ret (results_cell_row rfl _ _ g1 26 #[.int .i64 r1, .int .i64 r2, .int .i64 r3, .int .i64 r4, .int .i64 r5, .int .i64 r6, .bool r7, .bool r8] (0, 0) _ rfl (bk_ BK1) Try.underlying26 rfl (by kernel_rfl)) rfl ?_
  exact ⟨id_, bw_ HB⟩
set_option maxRecDepth 100000 in
set_option maxHeartbeats 2000000 in
theorem find20 : FindC 20 := by
  intro k A c l r1 r2 r3 r4 r5 r6 r7 r8 w hr hc h
  have h := find_up h
  have hx : effects_Find.f (k + 8) 20 l = effects_arithmetic.f 20 l false false := by
    cases hy : effects_arithmetic.f 20 l false false <;> simp [effects_Find.f, effects_Find.j0, effects_Find.j1, effects_Find.j2, effects_Find.j3, effects_Find.j4, effects_Find.j5, effects_Find.j6, Option.bind_eq_some_iff, hy]
  rw [hx] at h
  have A1 := Aside0.mk h
  have HR := Aside0.mk hr
  have HC := Aside0.mk hc
  have HB := Aside0.mk (Below.refl w.heap.size w)
  clear hr hc h
  go_enter Try.func35, Try.ntmps35
  go_upto_if 8 with (first | ((with_reducible refine gate_dst (N := 1) rfl ?_); refine bx_ (N := 1) (cs := #[.int .i64 20, .slice A l.length c]) (t := 24) ?_; intro g0 hg w3 hbox hb; have BK0 := Aside0.mk hbox; have GW0 := bs_ HB hg; replace HB := hs_ HB hb; clear hb hbox hg) | ((with_reducible refine gate_dst (N := 2) rfl ?_); refine bx_ (N := 2) (cs := #[.int .i64 0, .int .i64 0, .int .i64 0, .int .i64 0, .int .i64 0, .int .i64 0, .bool false, .bool false]) (t := 26) ?_; intro g1 hg w4 hbox hb; have BK1 := Aside0.mk hbox; have GW1 := bs_ HB hg; have N01 := nl_ BK0 hg; have N10 := ng_ BK0 hg; replace BK0 := bb_ BK0 hb; replace HB := hs_ HB hb; clear hb hbox hg; have hn1 := N10.out; have hn2 := N01.out; obtain ⟨c0, c1, e0, e1⟩ := cz2_ BK0; obtain ⟨d0, d1, d2, d3, d4, d5, d6, d7, f0, f1, f2, f3, f4, f5, f6, f7⟩ := cz8_ BK1))
  go_wp2_with (go_at_call 55; (with_reducible refine (effects_arithmetic.calls 20 A c l false false r1 r2 r3 r4 r5 r6 r7 r8 _ (cb_ HR HB) HC.out A1.out).mono ?_); rintro e w5 ⟨rfl, hb⟩; replace BK1 := bb_ BK1 hb; replace HB := hs_ HB hb; clear hb; obtain ⟨d0, d1, d2, d3, d4, d5, d6, d7, f0, f1, f2, f3, f4, f5, f6, f7⟩ := cz8_ BK1)
  refine bodyPost_ret (results_cell_row rfl _ _ g1 26 #[.int .i64 r1, .int .i64 r2, .int .i64 r3, .int .i64 r4, .int .i64 r5, .int .i64 r6, .bool r7, .bool r8] (0, 0) _ rfl (bk_ BK1) Try.underlying26 rfl (by kernel_rfl)) rfl ?_
  exact ⟨id_, bw_ HB⟩
set_option maxRecDepth 100000 in
set_option maxHeartbeats 2000000 in
theorem find24 : FindC 24 := by
  intro k A c l r1 r2 r3 r4 r5 r6 r7 r8 w hr hc h
  have h := find_up h
  simp [effects_Find.f, effects_Find.j0, effects_Find.j1, effects_Find.j2, effects_Find.j3, effects_Find.j4, effects_Find.j5, effects_Find.j6, Option.bind_eq_some_iff] at h
  obtain ⟨t0, b0, t1, b1, rfl, rfl, rfl, rfl, rfl, rfl, rfl, rfl⟩ := h
  have B0 := Aside0.mk b0
  have B1 := Aside0.mk b1
  have HR := Aside0.mk hr
  have HC := Aside0.mk hc
  have HB := Aside0.mk (Below.refl w.heap.size w)
  clear hr hc b0 b1
  go_enter Try.func35, Try.ntmps35
  go_upto_if 8 with (first | ((with_reducible refine gate_dst (N := 1) rfl ?_); refine bx_ (N := 1) (cs := #[.int .i64 24, .slice A l.length c]) (t := 24) ?_; intro g0 hg w3 hbox hb; have BK0 := Aside0.mk hbox; have GW0 := bs_ HB hg; replace HB := hs_ HB hb; clear hb hbox hg) | ((with_reducible refine gate_dst (N := 2) rfl ?_); refine bx_ (N := 2) (cs := #[.int .i64 0, .int .i64 0, .int .i64 0, .int .i64 0, .int .i64 0, .int .i64 0, .bool false, .bool false]) (t := 26) ?_; intro g1 hg w4 hbox hb; have BK1 := Aside0.mk hbox; have GW1 := bs_ HB hg; have N01 := nl_ BK0 hg; have N10 := ng_ BK0 hg; replace BK0 := bb_ BK0 hb; replace HB := hs_ HB hb; clear hb hbox hg; have hn1 := N10.out; have hn2 := N01.out; obtain ⟨c0, c1, e0, e1⟩ := cz2_ BK0; obtain ⟨d0, d1, d2, d3, d4, d5, d6, d7, f0, f1, f2, f3, f4, f5, f6, f7⟩ := cz8_ BK1))
  go_wp2_with (first | (go_at_call 54; (with_reducible refine (effects_Find_1.calls 0 g0 24 A c l t0 _ (bk_ BK0) (cb_ HR HB) HC.out B0.out).mono ?_); rintro e w' ⟨rfl, ⟨nd, rfl⟩⟩) | (go_at_call 54; (with_reducible refine (effects_Find_1.calls 1 g0 24 A c l t1 _ (bk_ BK0) (cb_ HR HB) HC.out B1.out).mono ?_); rintro e w' ⟨rfl, ⟨nd, rfl⟩⟩))
  refine bodyPost_ret (results_cell_row rfl _ _ g1 26 #[.int .i64 (Go.bits .or .i64 t0 t1), .int .i64 (0), .int .i64 (0), .int .i64 (0), .int .i64 (0), .int .i64 (0), .bool false, .bool true] (0, 0) _ rfl (bk_ BK1) Try.underlying26 rfl (by kernel_rfl)) rfl ?_
  exact ⟨id_, bw_ HB⟩
set_option maxRecDepth 100000 in
set_option maxHeartbeats 2000000 in
theorem find38 : FindC 38 := by
  intro k A c l r1 r2 r3 r4 r5 r6 r7 r8 w hr hc h
  have h := find_up h
  simp [effects_Find.f, effects_Find.j0, effects_Find.j1, effects_Find.j2, effects_Find.j3, effects_Find.j4, effects_Find.j5, effects_Find.j6, Option.bind_eq_some_iff] at h
  obtain ⟨rfl, rfl, rfl, rfl, rfl, rfl, rfl, rfl⟩ := h
  have HR := Aside0.mk hr
  have HC := Aside0.mk hc
  have HB := Aside0.mk (Below.refl w.heap.size w)
  clear hr hc
  go_enter Try.func35, Try.ntmps35
  go_upto_if 8 with (first | ((with_reducible refine gate_dst (N := 1) rfl ?_); refine bx_ (N := 1) (cs := #[.int .i64 38, .slice A l.length c]) (t := 24) ?_; intro g0 hg w3 hbox hb; have BK0 := Aside0.mk hbox; have GW0 := bs_ HB hg; replace HB := hs_ HB hb; clear hb hbox hg) | ((with_reducible refine gate_dst (N := 2) rfl ?_); refine bx_ (N := 2) (cs := #[.int .i64 0, .int .i64 0, .int .i64 0, .int .i64 0, .int .i64 0, .int .i64 0, .bool false, .bool false]) (t := 26) ?_; intro g1 hg w4 hbox hb; have BK1 := Aside0.mk hbox; have GW1 := bs_ HB hg; have N01 := nl_ BK0 hg; have N10 := ng_ BK0 hg; replace BK0 := bb_ BK0 hb; replace HB := hs_ HB hb; clear hb hbox hg; have hn1 := N10.out; have hn2 := N01.out; obtain ⟨c0, c1, e0, e1⟩ := cz2_ BK0; obtain ⟨d0, d1, d2, d3, d4, d5, d6, d7, f0, f1, f2, f3, f4, f5, f6, f7⟩ := cz8_ BK1))
  go_wp2
  refine bodyPost_ret (results_cell_row rfl _ _ g1 26 #[.int .i64 (0), .int .i64 (0), .int .i64 (0), .int .i64 (0), .int .i64 (0), .int .i64 (0), .bool true, .bool false] (0, 0) _ rfl (bk_ BK1) Try.underlying26 rfl (by kernel_rfl)) rfl ?_
  exact ⟨id_, bw_ HB⟩
set_option maxRecDepth 100000 in
set_option maxHeartbeats 2000000 in
theorem find43 : FindC 43 := by
  intro k A c l r1 r2 r3 r4 r5 r6 r7 r8 w hr hc h
  have h := find_up h
  simp [effects_Find.f, effects_Find.j0, effects_Find.j1, effects_Find.j2, effects_Find.j3, effects_Find.j4, effects_Find.j5, effects_Find.j6, Option.bind_eq_some_iff] at h
  obtain ⟨t0, b0, rfl, rfl, rfl, rfl, rfl, rfl, rfl, rfl⟩ := h
  have B0 := Aside0.mk b0
  have HR := Aside0.mk hr
  have HC := Aside0.mk hc
  have HB := Aside0.mk (Below.refl w.heap.size w)
  clear hr hc b0
  go_enter Try.func35, Try.ntmps35
  go_upto_if 8 with (first | ((with_reducible refine gate_dst (N := 1) rfl ?_); refine bx_ (N := 1) (cs := #[.int .i64 43, .slice A l.length c]) (t := 24) ?_; intro g0 hg w3 hbox hb; have BK0 := Aside0.mk hbox; have GW0 := bs_ HB hg; replace HB := hs_ HB hb; clear hb hbox hg) | ((with_reducible refine gate_dst (N := 2) rfl ?_); refine bx_ (N := 2) (cs := #[.int .i64 0, .int .i64 0, .int .i64 0, .int .i64 0, .int .i64 0, .int .i64 0, .bool false, .bool false]) (t := 26) ?_; intro g1 hg w4 hbox hb; have BK1 := Aside0.mk hbox; have GW1 := bs_ HB hg; have N01 := nl_ BK0 hg; have N10 := ng_ BK0 hg; replace BK0 := bb_ BK0 hb; replace HB := hs_ HB hb; clear hb hbox hg; have hn1 := N10.out; have hn2 := N01.out; obtain ⟨c0, c1, e0, e1⟩ := cz2_ BK0; obtain ⟨d0, d1, d2, d3, d4, d5, d6, d7, f0, f1, f2, f3, f4, f5, f6, f7⟩ := cz8_ BK1))
  go_wp2_with (first | (go_at_call 54; (with_reducible refine (effects_Find_1.calls 0 g0 43 A c l t0 _ (bk_ BK0) (cb_ HR HB) HC.out B0.out).mono ?_); rintro e w' ⟨rfl, ⟨nd, rfl⟩⟩))
  refine bodyPost_ret (results_cell_row rfl _ _ g1 26 #[.int .i64 (0), .int .i64 (t0), .int .i64 (0), .int .i64 (0), .int .i64 (0), .int .i64 (0), .bool false, .bool false] (0, 0) _ rfl (bk_ BK1) Try.underlying26 rfl (by kernel_rfl)) rfl ?_
  exact ⟨id_, bw_ HB⟩
set_option maxRecDepth 100000 in
set_option maxHeartbeats 2000000 in
theorem find47 : FindC 47 := by
  intro k A c l r1 r2 r3 r4 r5 r6 r7 r8 w hr hc h
  have h := find_up h
  simp [effects_Find.f, effects_Find.j0, effects_Find.j1, effects_Find.j2, effects_Find.j3, effects_Find.j4, effects_Find.j5, effects_Find.j6, Option.bind_eq_some_iff] at h
  obtain ⟨t0, b0, t1, b1, t2, b2, rfl, rfl, rfl, rfl, rfl, rfl, rfl, rfl⟩ := h
  obtain rfl := Option.some.inj (b0.symm.trans b2)
  have B0 := Aside0.mk b0
  have B1 := Aside0.mk b1
  have HR := Aside0.mk hr
  have HC := Aside0.mk hc
  have HB := Aside0.mk (Below.refl w.heap.size w)
  clear hr hc b0 b1 b2
  go_enter Try.func35, Try.ntmps35
  go_upto_if 8 with (first | ((with_reducible refine gate_dst (N := 1) rfl ?_); refine bx_ (N := 1) (cs := #[.int .i64 47, .slice A l.length c]) (t := 24) ?_; intro g0 hg w3 hbox hb; have BK0 := Aside0.mk hbox; have GW0 := bs_ HB hg; replace HB := hs_ HB hb; clear hb hbox hg) | ((with_reducible refine gate_dst (N := 2) rfl ?_); refine bx_ (N := 2) (cs := #[.int .i64 0, .int .i64 0, .int .i64 0, .int .i64 0, .int .i64 0, .int .i64 0, .bool false, .bool false]) (t := 26) ?_; intro g1 hg w4 hbox hb; have BK1 := Aside0.mk hbox; have GW1 := bs_ HB hg; have N01 := nl_ BK0 hg; have N10 := ng_ BK0 hg; replace BK0 := bb_ BK0 hb; replace HB := hs_ HB hb; clear hb hbox hg; have hn1 := N10.out; have hn2 := N01.out; obtain ⟨c0, c1, e0, e1⟩ := cz2_ BK0; obtain ⟨d0, d1, d2, d3, d4, d5, d6, d7, f0, f1, f2, f3, f4, f5, f6, f7⟩ := cz8_ BK1))
  go_wp2_with (first | (go_at_call 54; (with_reducible refine (effects_Find_1.calls 0 g0 47 A c l t0 _ (bk_ BK0) (cb_ HR HB) HC.out B0.out).mono ?_); rintro e w' ⟨rfl, ⟨nd, rfl⟩⟩) | (go_at_call 54; (with_reducible refine (effects_Find_1.calls 1 g0 47 A c l t1 _ (bk_ BK0) (cb_ HR HB) HC.out B1.out).mono ?_); rintro e w' ⟨rfl, ⟨nd, rfl⟩⟩))
  refine bodyPost_ret (results_cell_row rfl _ _ g1 26 #[.int .i64 (0), .int .i64 (0), .int .i64 (Go.bits .or .i64 t0 t1), .int .i64 (t0), .int .i64 (0), .int .i64 (0), .bool false, .bool false] (0, 0) _ rfl (bk_ BK1) Try.underlying26 rfl (by kernel_rfl)) rfl ?_
  exact ⟨id_, bw_ HB⟩
set_option maxRecDepth 100000 in
set_option maxHeartbeats 2000000 in
theorem find51 : FindC 51 := by
  intro k A c l r1 r2 r3 r4 r5 r6 r7 r8 w hr hc h
  have h := find_up h
  simp [effects_Find.f, effects_Find.j0, effects_Find.j1, effects_Find.j2, effects_Find.j3, effects_Find.j4, effects_Find.j5, effects_Find.j6, Option.bind_eq_some_iff] at h
  obtain ⟨t0, b0, t1, b1, t2, b2, rfl, rfl, rfl, rfl, rfl, rfl, rfl, rfl⟩ := h
  obtain rfl := Option.some.inj (b0.symm.trans b2)
  have B0 := Aside0.mk b0
  have B1 := Aside0.mk b1
  have HR := Aside0.mk hr
  have HC := Aside0.mk hc
  have HB := Aside0.mk (Below.refl w.heap.size w)
  clear hr hc b0 b1 b2
  go_enter Try.func35, Try.ntmps35
  go_upto_if 8 with (first | ((with_reducible refine gate_dst (N := 1) rfl ?_); refine bx_ (N := 1) (cs := #[.int .i64 51, .slice A l.length c]) (t := 24) ?_; intro g0 hg w3 hbox hb; have BK0 := Aside0.mk hbox; have GW0 := bs_ HB hg; replace HB := hs_ HB hb; clear hb hbox hg) | ((with_reducible refine gate_dst (N := 2) rfl ?_); refine bx_ (N := 2) (cs := #[.int .i64 0, .int .i64 0, .int .i64 0, .int .i64 0, .int .i64 0, .int .i64 0, .bool false, .bool false]) (t := 26) ?_; intro g1 hg w4 hbox hb; have BK1 := Aside0.mk hbox; have GW1 := bs_ HB hg; have N01 := nl_ BK0 hg; have N10 := ng_ BK0 hg; replace BK0 := bb_ BK0 hb; replace HB := hs_ HB hb; clear hb hbox hg; have hn1 := N10.out; have hn2 := N01.out; obtain ⟨c0, c1, e0, e1⟩ := cz2_ BK0; obtain ⟨d0, d1, d2, d3, d4, d5, d6, d7, f0, f1, f2, f3, f4, f5, f6, f7⟩ := cz8_ BK1))
  go_wp2_with (first | (go_at_call 54; (with_reducible refine (effects_Find_1.calls 0 g0 51 A c l t0 _ (bk_ BK0) (cb_ HR HB) HC.out B0.out).mono ?_); rintro e w' ⟨rfl, ⟨nd, rfl⟩⟩) | (go_at_call 54; (with_reducible refine (effects_Find_1.calls 1 g0 51 A c l t1 _ (bk_ BK0) (cb_ HR HB) HC.out B1.out).mono ?_); rintro e w' ⟨rfl, ⟨nd, rfl⟩⟩))
  refine bodyPost_ret (results_cell_row rfl _ _ g1 26 #[.int .i64 (Go.bits .or .i64 t0 t1), .int .i64 (t0), .int .i64 (0), .int .i64 (0), .int .i64 (0), .int .i64 (0), .bool true, .bool true] (0, 0) _ rfl (bk_ BK1) Try.underlying26 rfl (by kernel_rfl)) rfl ?_
  exact ⟨id_, bw_ HB⟩
set_option maxRecDepth 100000 in
set_option maxHeartbeats 2000000 in
theorem find55 : FindC 55 := by
  intro k A c l r1 r2 r3 r4 r5 r6 r7 r8 w hr hc h
  have h := find_up h
  simp [effects_Find.f, effects_Find.j0, effects_Find.j1, effects_Find.j2, effects_Find.j3, effects_Find.j4, effects_Find.j5, effects_Find.j6, Option.bind_eq_some_iff] at h
  obtain ⟨t0, b0, rfl, rfl, rfl, rfl, rfl, rfl, rfl, rfl⟩ := h
  have B0 := Aside0.mk b0
  have HR := Aside0.mk hr
  have HC := Aside0.mk hc
  have HB := Aside0.mk (Below.refl w.heap.size w)
  clear hr hc b0
  go_enter Try.func35, Try.ntmps35
  go_upto_if 8 with (first | ((with_reducible refine gate_dst (N := 1) rfl ?_); refine bx_ (N := 1) (cs := #[.int .i64 55, .slice A l.length c]) (t := 24) ?_; intro g0 hg w3 hbox hb; have BK0 := Aside0.mk hbox; have GW0 := bs_ HB hg; replace HB := hs_ HB hb; clear hb hbox hg) | ((with_reducible refine gate_dst (N := 2) rfl ?_); refine bx_ (N := 2) (cs := #[.int .i64 0, .int .i64 0, .int .i64 0, .int .i64 0, .int .i64 0, .int .i64 0, .bool false, .bool false]) (t := 26) ?_; intro g1 hg w4 hbox hb; have BK1 := Aside0.mk hbox; have GW1 := bs_ HB hg; have N01 := nl_ BK0 hg; have N10 := ng_ BK0 hg; replace BK0 := bb_ BK0 hb; replace HB := hs_ HB hb; clear hb hbox hg; have hn1 := N10.out; have hn2 := N01.out; obtain ⟨c0, c1, e0, e1⟩ := cz2_ BK0; obtain ⟨d0, d1, d2, d3, d4, d5, d6, d7, f0, f1, f2, f3, f4, f5, f6, f7⟩ := cz8_ BK1))
  go_wp2_with (first | (go_at_call 54; (with_reducible refine (effects_Find_1.calls 0 g0 55 A c l t0 _ (bk_ BK0) (cb_ HR HB) HC.out B0.out).mono ?_); rintro e w' ⟨rfl, ⟨nd, rfl⟩⟩))
  refine bodyPost_ret (results_cell_row rfl _ _ g1 26 #[.int .i64 (0), .int .i64 (t0), .int .i64 (0), .int .i64 (0), .int .i64 (0), .int .i64 (0), .bool false, .bool false] (0, 0) _ rfl (bk_ BK1) Try.underlying26 rfl (by kernel_rfl)) rfl ?_
  exact ⟨id_, bw_ HB⟩
set_option maxRecDepth 100000 in
set_option maxHeartbeats 4000000 in
theorem findRest (F : Int) (n3 : ¬ F = 3) (n6 : ¬ F = 6) (n7 : ¬ F = 7) (n8 : ¬ F = 8) (n9 : ¬ F = 9) (n10 : ¬ F = 10) (n11 : ¬ F = 11) (n12 : ¬ F = 12) (n13 : ¬ F = 13) (n14 : ¬ F = 14) (n15 : ¬ F = 15) (n16 : ¬ F = 16) (n17 : ¬ F = 17) (n18 : ¬ F = 18) (n19 : ¬ F = 19) (n20 : ¬ F = 20) (n21 : ¬ F = 21) (n22 : ¬ F = 22) (n23 : ¬ F = 23) (n24 : ¬ F = 24) (n25 : ¬ F = 25) (n26 : ¬ F = 26) (n37 : ¬ F = 37) (n38 : ¬ F = 38) (n40 : ¬ F = 40) (n41 : ¬ F = 41) (n42 : ¬ F = 42) (n43 : ¬ F = 43) (n44 : ¬ F = 44) (n45 : ¬ F = 45) (n46 : ¬ F = 46) (n47 : ¬ F = 47) (n48 : ¬ F = 48) (n49 : ¬ F = 49) (n50 : ¬ F = 50) (n51 : ¬ F = 51) (n52 : ¬ F = 52) (n53 : ¬ F = 53) (n54 : ¬ F = 54) (n55 : ¬ F = 55) (n56 : ¬ F = 56) (n57 : ¬ F = 57) (n58 : ¬ F = 58) : FindC F := by
  intro k A c l r1 r2 r3 r4 r5 r6 r7 r8 w hr hc h
  have h := find_up h
  simp [effects_Find.f, effects_Find.j0, effects_Find.j1, effects_Find.j2, effects_Find.j3, effects_Find.j4, effects_Find.j5, effects_Find.j6, Option.bind_eq_some_iff, n3, n6, n7, n8, n9, n10, n11, n12, n13, n14, n15, n16, n17, n18, n19, n20, n21, n22, n23, n24, n25, n26, n37, n38, n40, n41, n42, n43, n44, n45, n46, n47, n48, n49, n50, n51, n52, n53, n54, n55, n56, n57, n58] at h
  obtain ⟨t0, b0, rfl, rfl, rfl, rfl, rfl, rfl, rfl, rfl⟩ := h
  have B0 := Aside0.mk b0
  have HR := Aside0.mk hr
  have HC := Aside0.mk hc
  have HB := Aside0.mk (Below.refl w.heap.size w)
  have m3 : (F == 3) = false := beq_eq_false_iff_ne.mpr n3
  have m6 : (F == 6) = false := beq_eq_false_iff_ne.mpr n6
  have m7 : (F == 7) = false := beq_eq_false_iff_ne.mpr n7
  have m8 : (F == 8) = false := beq_eq_false_iff_ne.mpr n8
  have m9 : (F == 9) = false := beq_eq_false_iff_ne.mpr n9
  have m10 : (F == 10) = false := beq_eq_false_iff_ne.mpr n10
  have m11 : (F == 11) = false := beq_eq_false_iff_ne.mpr n11
  have m12 : (F == 12) = false := beq_eq_false_iff_ne.mpr n12
  have m13 : (F == 13) = false := beq_eq_false_iff_ne.mpr n13
  have m14 : (F == 14) = false := beq_eq_false_iff_ne.mpr n14
  have m15 : (F == 15) = false := beq_eq_false_iff_ne.mpr n15
  have m16 : (F == 16) = false := beq_eq_false_iff_ne.mpr n16
  have m17 : (F == 17) = false := beq_eq_false_iff_ne.mpr n17
  have m18 : (F == 18) = false := beq_eq_false_iff_ne.mpr n18
  have m19 : (F == 19) = false := beq_eq_false_iff_ne.mpr n19
  have m20 : (F == 20) = false := beq_eq_false_iff_ne.mpr n20
  have m21 : (F == 21) = false := beq_eq_false_iff_ne.mpr n21
  have m22 : (F == 22) = false := beq_eq_false_iff_ne.mpr n22
  have m23 : (F == 23) = false := beq_eq_false_iff_ne.mpr n23
  have m24 : (F == 24) = false := beq_eq_false_iff_ne.mpr n24
  have m25 : (F == 25) = false := beq_eq_false_iff_ne.mpr n25
  have m26 : (F == 26) = false := beq_eq_false_iff_ne.mpr n26
  have m37 : (F == 37) = false := beq_eq_false_iff_ne.mpr n37
  have m38 : (F == 38) = false := beq_eq_false_iff_ne.mpr n38
  have m40 : (F == 40) = false := beq_eq_false_iff_ne.mpr n40
  have m41 : (F == 41) = false := beq_eq_false_iff_ne.mpr n41
  have m42 : (F == 42) = false := beq_eq_false_iff_ne.mpr n42
  have m43 : (F == 43) = false := beq_eq_false_iff_ne.mpr n43
  have m44 : (F == 44) = false := beq_eq_false_iff_ne.mpr n44
  have m45 : (F == 45) = false := beq_eq_false_iff_ne.mpr n45
  have m46 : (F == 46) = false := beq_eq_false_iff_ne.mpr n46
  have m47 : (F == 47) = false := beq_eq_false_iff_ne.mpr n47
  have m48 : (F == 48) = false := beq_eq_false_iff_ne.mpr n48
  have m49 : (F == 49) = false := beq_eq_false_iff_ne.mpr n49
  have m50 : (F == 50) = false := beq_eq_false_iff_ne.mpr n50
  have m51 : (F == 51) = false := beq_eq_false_iff_ne.mpr n51
  have m52 : (F == 52) = false := beq_eq_false_iff_ne.mpr n52
  have m53 : (F == 53) = false := beq_eq_false_iff_ne.mpr n53
  have m54 : (F == 54) = false := beq_eq_false_iff_ne.mpr n54
  have m55 : (F == 55) = false := beq_eq_false_iff_ne.mpr n55
  have m56 : (F == 56) = false := beq_eq_false_iff_ne.mpr n56
  have m57 : (F == 57) = false := beq_eq_false_iff_ne.mpr n57
  have m58 : (F == 58) = false := beq_eq_false_iff_ne.mpr n58
  clear hr hc b0 n3 n6 n7 n8 n9 n10 n11 n12 n13 n14 n15 n16 n17 n18 n19 n20 n21 n22 n23 n24 n25 n26 n37 n38 n40 n41 n42 n43 n44 n45 n46 n47 n48 n49 n50 n51 n52 n53 n54 n55 n56 n57 n58
  go_enter Try.func35, Try.ntmps35
  go_upto_if 8 with (first | ((with_reducible refine gate_dst (N := 1) rfl ?_); refine bx_ (N := 1) (cs := #[.int .i64 F, .slice A l.length c]) (t := 24) ?_; intro g0 hg w3 hbox hb; have BK0 := Aside0.mk hbox; have GW0 := bs_ HB hg; replace HB := hs_ HB hb; clear hb hbox hg) | ((with_reducible refine gate_dst (N := 2) rfl ?_); refine bx_ (N := 2) (cs := #[.int .i64 0, .int .i64 0, .int .i64 0, .int .i64 0, .int .i64 0, .int .i64 0, .bool false, .bool false]) (t := 26) ?_; intro g1 hg w4 hbox hb; have BK1 := Aside0.mk hbox; have GW1 := bs_ HB hg; have N01 := nl_ BK0 hg; have N10 := ng_ BK0 hg; replace BK0 := bb_ BK0 hb; replace HB := hs_ HB hb; clear hb hbox hg; have hn1 := N10.out; have hn2 := N01.out; obtain ⟨c0, c1, e0, e1⟩ := cz2_ BK0; obtain ⟨d0, d1, d2, d3, d4, d5, d6, d7, f0, f1, f2, f3, f4, f5, f6, f7⟩ := cz8_ BK1))
  go_wp2_with (go_at_call 56; (with_reducible refine (effects_flags.calls _ F t0 _ B0.out).mono ?_); rintro e w' ⟨rfl, ⟨nd, rfl⟩⟩)
  refine bodyPost_ret (results_cell_row rfl _ _ g1 26 #[.int .i64 0, .int .i64 0, .int .i64 0, .int .i64 0, .int .i64 t0, .int .i64 0, .bool false, .bool false] (0, 0) _ rfl (bk_ BK1) Try.underlying26 rfl (by kernel_rfl)) rfl ?_
  exact ⟨id_, bw_ HB⟩
end Go.Proofs.Ytaellapacoikaaa.PA
