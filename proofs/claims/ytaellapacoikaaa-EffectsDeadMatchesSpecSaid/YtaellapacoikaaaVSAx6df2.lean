import Derived.Test.YtaellapacoikaaaVSAx6d
import Derived.Deep.Cut
namespace Go.Proofs.Ytaellapacoikaaa.PA
open Go.RowKit Go.Proofs.YtaellapacoikaaaW.PrintWords Go.Proofs.YtaellapacoikaaaW.PrintLast Go.Proofs.YtaellapacoikaaaW.PrintMore
set_option linter.unusedVariables false
set_option linter.unusedSimpArgs false
set_option maxRecDepth 100000 in
set_option maxHeartbeats 2000000 in
theorem find7 : FindC 7 := by
  intro k A c l r1 r2 r3 r4 r5 r6 r7 r8 w hr hc h
  have h := find_up h
  simp [effects_Find.f, effects_Find.j0, effects_Find.j1, effects_Find.j2, effects_Find.j3, effects_Find.j4, effects_Find.j5, effects_Find.j6, Option.bind_eq_some_iff] at h
  obtain ⟨t0, b0, rfl, rfl, rfl, rfl, rfl, rfl, rfl, rfl⟩ := h
  have B0 := Aside0.mk b0
  have HR := Aside0.mk hr
  have HC := Aside0.mk hc
  have HB := Aside0.mk (Below.refl w.heap.size w)
  clear hr hc b0
  go_enter Try.func35, Try.ntmps35
  go_upto_if 8 with (first | ((with_reducible refine gate_dst (N := 1) rfl ?_); refine bx_ (N := 1) (cs := #[.int .i64 7, .slice A l.length c]) (t := 24) ?_; intro g0 hg w3 hbox hb; have BK0 := Aside0.mk hbox; have GW0 := bs_ HB hg; replace HB := hs_ HB hb; clear hb hbox hg) | ((with_reducible refine gate_dst (N := 2) rfl ?_); refine bx_ (N := 2) (cs := #[.int .i64 0, .int .i64 0, .int .i64 0, .int .i64 0, .int .i64 0, .int .i64 0, .bool false, .bool false]) (t := 26) ?_; intro g1 hg w4 hbox hb; have BK1 := Aside0.mk hbox; have GW1 := bs_ HB hg; have N01 := nl_ BK0 hg; have N10 := ng_ BK0 hg; replace BK0 := bb_ BK0 hb; replace HB := hs_ HB hb; clear hb hbox hg; have hn1 := N10.out; have hn2 := N01.out; obtain ⟨c0, c1, e0, e1⟩ := cz2_ BK0; obtain ⟨d0, d1, d2, d3, d4, d5, d6, d7, f0, f1, f2, f3, f4, f5, f6, f7⟩ := cz8_ BK1))
  go_wp2_with (first | (go_at_call 54; (with_reducible refine (effects_Find_1.calls 0 g0 7 A c l t0 _ (bk_ BK0) (cb_ HR HB) HC.out B0.out).mono ?_); rintro e w' ⟨rfl, ⟨nd, rfl⟩⟩))
  refine bodyPost_ret (results_cell_row rfl _ _ g1 26 #[.int .i64 (0), .int .i64 (t0), .int .i64 (0), .int .i64 (0), .int .i64 (0), .int .i64 (0), .bool false, .bool false] (0, 0) _ rfl (bk_ BK1) Try.underlying26 rfl (by kernel_rfl)) rfl ?_
  exact ⟨id_, bw_ HB⟩
set_option maxRecDepth 100000 in
set_option maxHeartbeats 2000000 in
theorem find11 : FindC 11 := by
  intro k A c l r1 r2 r3 r4 r5 r6 r7 r8 w hr hc h
  have h := find_up h
  have hx : effects_Find.f (k + 8) 11 l = effects_arithmetic.f 11 l true true := by
    cases hy : effects_arithmetic.f 11 l true true <;> simp [effects_Find.f, effects_Find.j0, effects_Find.j1, effects_Find.j2, effects_Find.j3, effects_Find.j4, effects_Find.j5, effects_Find.j6, Option.bind_eq_some_iff, hy]
  rw [hx] at h
  have A1 := Aside0.mk h
  have HR := Aside0.mk hr
  have HC := Aside0.mk hc
  have HB := Aside0.mk (Below.refl w.heap.size w)
  clear hr hc h
  go_enter Try.func35, Try.ntmps35
  go_upto_if 8 with (first | ((with_reducible refine gate_dst (N := 1) rfl ?_); refine bx_ (N := 1) (cs := #[.int .i64 11, .slice A l.length c]) (t := 24) ?_; intro g0 hg w3 hbox hb; have BK0 := Aside0.mk hbox; have GW0 := bs_ HB hg; replace HB := hs_ HB hb; clear hb hbox hg) | ((with_reducible refine gate_dst (N := 2) rfl ?_); refine bx_ (N := 2) (cs := #[.int .i64 0, .int .i64 0, .int .i64 0, .int .i64 0, .int .i64 0, .int .i64 0, .bool false, .bool false]) (t := 26) ?_; intro g1 hg w4 hbox hb; have BK1 := Aside0.mk hbox; have GW1 := bs_ HB hg; have N01 := nl_ BK0 hg; have N10 := ng_ BK0 hg; replace BK0 := bb_ BK0 hb; replace HB := hs_ HB hb; clear hb hbox hg; have hn1 := N10.out; have hn2 := N01.out; obtain ⟨c0, c1, e0, e1⟩ := cz2_ BK0; obtain ⟨d0, d1, d2, d3, d4, d5, d6, d7, f0, f1, f2, f3, f4, f5, f6, f7⟩ := cz8_ BK1))
  go_wp2_with (go_at_call 55; (with_reducible refine (effects_arithmetic.calls 11 A c l true true r1 r2 r3 r4 r5 r6 r7 r8 _ (cb_ HR HB) HC.out A1.out).mono ?_); rintro e w5 ⟨rfl, hb⟩; replace BK1 := bb_ BK1 hb; replace HB := hs_ HB hb; clear hb; obtain ⟨d0, d1, d2, d3, d4, d5, d6, d7, f0, f1, f2, f3, f4, f5, f6, f7⟩ := cz8_ BK1)
  refine bodyPost_ret (results_cell_row rfl _ _ g1 26 #[.int .i64 r1, .int .i64 r2, .int .i64 r3, .int .i64 r4, .int .i64 r5, .int .i64 r6, .bool r7, .bool r8] (0, 0) _ rfl (bk_ BK1) Try.underlying26 rfl (by kernel_rfl)) rfl ?_
  exact ⟨id_, bw_ HB⟩
set_option maxRecDepth 100000 in
set_option maxHeartbeats 2000000 in
theorem find15 : FindC 15 := by
  intro k A c l r1 r2 r3 r4 r5 r6 r7 r8 w hr hc h
  have h := find_up h
  have hx : effects_Find.f (k + 8) 15 l = effects_arithmetic.f 15 l true true := by
    cases hy : effects_arithmetic.f 15 l true true <;> simp [effects_Find.f, effects_Find.j0, effects_Find.j1, effects_Find.j2, effects_Find.j3, effects_Find.j4, effects_Find.j5, effects_Find.j6, Option.bind_eq_some_iff, hy]
  rw [hx] at h
  have A1 := Aside0.mk h
  have HR := Aside0.mk hr
  have HC := Aside0.mk hc
  have HB := Aside0.mk (Below.refl w.heap.size w)
  clear hr hc h
  go_enter Try.func35, Try.ntmps35
  go_upto_if 8 with (first | ((with_reducible refine gate_dst (N := 1) rfl ?_); refine bx_ (N := 1) (cs := #[.int .i64 15, .slice A l.length c]) (t := 24) ?_; intro g0 hg w3 hbox hb; have BK0 := Aside0.mk hbox; have GW0 := bs_ HB hg; replace HB := hs_ HB hb; clear hb hbox hg) | ((with_reducible refine gate_dst (N := 2) rfl ?_); refine bx_ (N := 2) (cs := #[.int .i64 0, .int .i64 0, .int .i64 0, .int .i64 0, .int .i64 0, .int .i64 0, .bool false, .bool false]) (t := 26) ?_; intro g1 hg w4 hbox hb; have BK1 := Aside0.mk hbox; have GW1 := bs_ HB hg; have N01 := nl_ BK0 hg; have N10 := ng_ BK0 hg; replace BK0 := bb_ BK0 hb; replace HB := hs_ HB hb; clear hb hbox hg; have hn1 := N10.out; have hn2 := N01.out; obtain ⟨c0, c1, e0, e1⟩ := cz2_ BK0; obtain ⟨d0, d1, d2, d3, d4, d5, d6, d7, f0, f1, f2, f3, f4, f5, f6, f7⟩ := cz8_ BK1))
  go_wp2_with (go_at_call 55; (with_reducible refine (effects_arithmetic.calls 15 A c l true true r1 r2 r3 r4 r5 r6 r7 r8 _ (cb_ HR HB) HC.out A1.out).mono ?_); rintro e w5 ⟨rfl, hb⟩; replace BK1 := bb_ BK1 hb; replace HB := hs_ HB hb; clear hb; obtain ⟨d0, d1, d2, d3, d4, d5, d6, d7, f0, f1, f2, f3, f4, f5, f6, f7⟩ := cz8_ BK1)
  refine bodyPost_ret (results_cell_row rfl _ _ g1 26 #[.int .i64 r1, .int .i64 r2, .int .i64 r3, .int .i64 r4, .int .i64 r5, .int .i64 r6, .bool r7, .bool r8] (0, 0) _ rfl (bk_ BK1) Try.underlying26 rfl (by kernel_rfl)) rfl ?_
  exact ⟨id_, bw_ HB⟩
set_option maxRecDepth 100000 in
set_option maxHeartbeats 2000000 in
theorem find19 : FindC 19 := by
  intro k A c l r1 r2 r3 r4 r5 r6 r7 r8 w hr hc h
  have h := find_up h
  have hx : effects_Find.f (k + 8) 19 l = effects_arithmetic.f 19 l false true := by
    cases hy : effects_arithmetic.f 19 l false true <;> simp [effects_Find.f, effects_Find.j0, effects_Find.j1, effects_Find.j2, effects_Find.j3, effects_Find.j4, effects_Find.j5, effects_Find.j6, Option.bind_eq_some_iff, hy]
  rw [hx] at h
  have A1 := Aside0.mk h
  have HR := Aside0.mk hr
  have HC := Aside0.mk hc
  have HB := Aside0.mk (Below.refl w.heap.size w)
  clear hr hc h
  go_enter Try.func35, Try.ntmps35
  go_upto_if 8 with (first | ((with_reducible refine gate_dst (N := 1) rfl ?_); refine bx_ (N := 1) (cs := #[.int .i64 19, .slice A l.length c]) (t := 24) ?_; intro g0 hg w3 hbox hb; have BK0 := Aside0.mk hbox; have GW0 := bs_ HB hg; replace HB := hs_ HB hb; clear hb hbox hg) | ((with_reducible refine gate_dst (N := 2) rfl ?_); refine bx_ (N := 2) (cs := #[.int .i64 0, .int .i64 0, .int .i64 0, .int .i64 0, .int .i64 0, .int .i64 0, .bool false, .bool false]) (t := 26) ?_; intro g1 hg w4 hbox hb; have BK1 := Aside0.mk hbox; have GW1 := bs_ HB hg; have N01 := nl_ BK0 hg; have N10 := ng_ BK0 hg; replace BK0 := bb_ BK0 hb; replace HB := hs_ HB hb; clear hb hbox hg; have hn1 := N10.out; have hn2 := N01.out; obtain ⟨c0, c1, e0, e1⟩ := cz2_ BK0; obtain ⟨d0, d1, d2, d3, d4, d5, d6, d7, f0, f1, f2, f3, f4, f5, f6, f7⟩ := cz8_ BK1))
  go_wp2_with (go_at_call 55; (with_reducible refine (effects_arithmetic.calls 19 A c l false true r1 r2 r3 r4 r5 r6 r7 r8 _ (cb_ HR HB) HC.out A1.out).mono ?_); rintro e w5 ⟨rfl, hb⟩; replace BK1 := bb_ BK1 hb; replace HB := hs_ HB hb; clear hb; obtain ⟨d0, d1, d2, d3, d4, d5, d6, d7, f0, f1, f2, f3, f4, f5, f6, f7⟩ := cz8_ BK1)
  refine bodyPost_ret (results_cell_row rfl _ _ g1 26 #[.int .i64 r1, .int .i64 r2, .int .i64 r3, .int .i64 r4, .int .i64 r5, .int .i64 r6, .bool r7, .bool r8] (0, 0) _ rfl (bk_ BK1) Try.underlying26 rfl (by kernel_rfl)) rfl ?_
  exact ⟨id_, bw_ HB⟩
set_option maxRecDepth 100000 in
set_option maxHeartbeats 2000000 in
theorem find23 : FindC 23 := by
  intro k A c l r1 r2 r3 r4 r5 r6 r7 r8 w hr hc h
  have h := find_up h
  simp [effects_Find.f, effects_Find.j0, effects_Find.j1, effects_Find.j2, effects_Find.j3, effects_Find.j4, effects_Find.j5, effects_Find.j6, Option.bind_eq_some_iff] at h
  obtain ⟨t0, b0, t1, b1, rfl, rfl, rfl, rfl, rfl, rfl, rfl, rfl⟩ := h
  have B0 := Aside0.mk b0
  have B1 := Aside0.mk b1
  have HR := Aside0.mk hr
  have HC := Aside0.mk hc
  have HB := Aside0.mk (Below.refl w.heap.size w)
  clear hr hc b0 b1
  go_enter Try.func35, Try.ntmps35
  go_upto_if 8 with (first | ((with_reducible refine gate_dst (N := 1) rfl ?_); refine bx_ (N := 1) (cs := #[.int .i64 23, .slice A l.length c]) (t := 24) ?_; intro g0 hg w3 hbox hb; have BK0 := Aside0.mk hbox; have GW0 := bs_ HB hg; replace HB := hs_ HB hb; clear hb hbox hg) | ((with_reducible refine gate_dst (N := 2) rfl ?_); refine bx_ (N := 2) (cs := #[.int .i64 0, .int .i64 0, .int .i64 0, .int .i64 0, .int .i64 0, .int .i64 0, .bool false, .bool false]) (t := 26) ?_; intro g1 hg w4 hbox hb; have BK1 := Aside0.mk hbox; have GW1 := bs_ HB hg; have N01 := nl_ BK0 hg; have N10 := ng_ BK0 hg; replace BK0 := bb_ BK0 hb; replace HB := hs_ HB hb; clear hb hbox hg; have hn1 := N10.out; have hn2 := N01.out; obtain ⟨c0, c1, e0, e1⟩ := cz2_ BK0; obtain ⟨d0, d1, d2, d3, d4, d5, d6, d7, f0, f1, f2, f3, f4, f5, f6, f7⟩ := cz8_ BK1))
  go_wp2_with (first | (go_at_call 54; (with_reducible refine (effects_Find_1.calls 1 g0 23 A c l t0 _ (bk_ BK0) (cb_ HR HB) HC.out B0.out).mono ?_); rintro e w' ⟨rfl, ⟨nd, rfl⟩⟩) | (go_at_call 54; (with_reducible refine (effects_Find_1.calls 0 g0 23 A c l t1 _ (bk_ BK0) (cb_ HR HB) HC.out B1.out).mono ?_); rintro e w' ⟨rfl, ⟨nd, rfl⟩⟩))
  refine bodyPost_ret (results_cell_row rfl _ _ g1 26 #[.int .i64 (t0), .int .i64 (t1), .int .i64 (0), .int .i64 (0), .int .i64 (0), .int .i64 (0), .bool true, .bool false] (0, 0) _ rfl (bk_ BK1) Try.underlying26 rfl (by kernel_rfl)) rfl ?_
  exact ⟨id_, bw_ HB⟩
set_option maxRecDepth 100000 in
set_option maxHeartbeats 2000000 in
theorem find37 : FindC 37 := by
  intro k A c l r1 r2 r3 r4 r5 r6 r7 r8 w hr hc h
  have h := find_up h
  simp [effects_Find.f, effects_Find.j0, effects_Find.j1, effects_Find.j2, effects_Find.j3, effects_Find.j4, effects_Find.j5, effects_Find.j6, Option.bind_eq_some_iff] at h
  obtain ⟨t0, b0, rfl, rfl, rfl, rfl, rfl, rfl, rfl, rfl⟩ := h
  have B0 := Aside0.mk b0
  have HR := Aside0.mk hr
  have HC := Aside0.mk hc
  have HB := Aside0.mk (Below.refl w.heap.size w)
  clear hr hc b0
  go_enter Try.func35, Try.ntmps35
  go_upto_if 8 with (first | ((with_reducible refine gate_dst (N := 1) rfl ?_); refine bx_ (N := 1) (cs := #[.int .i64 37, .slice A l.length c]) (t := 24) ?_; intro g0 hg w3 hbox hb; have BK0 := Aside0.mk hbox; have GW0 := bs_ HB hg; replace HB := hs_ HB hb; clear hb hbox hg) | ((with_reducible refine gate_dst (N := 2) rfl ?_); refine bx_ (N := 2) (cs := #[.int .i64 0, .int .i64 0, .int .i64 0, .int .i64 0, .int .i64 0, .int .i64 0, .bool false, .bool false]) (t := 26) ?_; intro g1 hg w4 hbox hb; have BK1 := Aside0.mk hbox; have GW1 := bs_ HB hg; have N01 := nl_ BK0 hg; have N10 := ng_ BK0 hg; replace BK0 := bb_ BK0 hb; replace HB := hs_ HB hb; clear hb hbox hg; have hn1 := N10.out; have hn2 := N01.out; obtain ⟨c0, c1, e0, e1⟩ := cz2_ BK0; obtain ⟨d0, d1, d2, d3, d4, d5, d6, d7, f0, f1, f2, f3, f4, f5, f6, f7⟩ := cz8_ BK1))
  go_wp2_with (first | (go_at_call 54; (with_reducible refine (effects_Find_1.calls 0 g0 37 A c l t0 _ (bk_ BK0) (cb_ HR HB) HC.out B0.out).mono ?_); rintro e w' ⟨rfl, ⟨nd, rfl⟩⟩))
  refine bodyPost_ret (results_cell_row rfl _ _ g1 26 #[.int .i64 (t0), .int .i64 (0), .int .i64 (0), .int .i64 (0), .int .i64 (0), .int .i64 (0), .bool false, .bool false] (0, 0) _ rfl (bk_ BK1) Try.underlying26 rfl (by kernel_rfl)) rfl ?_
  exact ⟨id_, bw_ HB⟩
set_option maxRecDepth 100000 in
set_option maxHeartbeats 2000000 in
theorem find42 : FindC 42 := by
  intro k A c l r1 r2 r3 r4 r5 r6 r7 r8 w hr hc h
  have h := find_up h
  simp [effects_Find.f, effects_Find.j0, effects_Find.j1, effects_Find.j2, effects_Find.j3, effects_Find.j4, effects_Find.j5, effects_Find.j6, Option.bind_eq_some_iff] at h
  obtain ⟨rfl, rfl, rfl, rfl, rfl, rfl, rfl, rfl⟩ := h
  have HR := Aside0.mk hr
  have HC := Aside0.mk hc
  have HB := Aside0.mk (Below.refl w.heap.size w)
  clear hr hc
  go_enter Try.func35, Try.ntmps35
  go_upto_if 8 with (first | ((with_reducible refine gate_dst (N := 1) rfl ?_); refine bx_ (N := 1) (cs := #[.int .i64 42, .slice A l.length c]) (t := 24) ?_; intro g0 hg w3 hbox hb; have BK0 := Aside0.mk hbox; have GW0 := bs_ HB hg; replace HB := hs_ HB hb; clear hb hbox hg) | ((with_reducible refine gate_dst (N := 2) rfl ?_); refine bx_ (N := 2) (cs := #[.int .i64 0, .int .i64 0, .int .i64 0, .int .i64 0, .int .i64 0, .int .i64 0, .bool false, .bool false]) (t := 26) ?_; intro g1 hg w4 hbox hb; have BK1 := Aside0.mk hbox; have GW1 := bs_ HB hg; have N01 := nl_ BK0 hg; have N10 := ng_ BK0 hg; replace BK0 := bb_ BK0 hb; replace HB := hs_ HB hb; clear hb hbox hg; have hn1 := N10.out; have hn2 := N01.out; obtain ⟨c0, c1, e0, e1⟩ := cz2_ BK0; obtain ⟨d0, d1, d2, d3, d4, d5, d6, d7, f0, f1, f2, f3, f4, f5, f6, f7⟩ := cz8_ BK1))
  go_wp2
  refine bodyPost_ret (results_cell_row rfl _ _ g1 26 #[.int .i64 (128), .int .i64 (128), .int .i64 (0), .int .i64 (0), .int .i64 (0), .int .i64 (0), .bool true, .bool false] (0, 0) _ rfl (bk_ BK1) Try.underlying26 rfl (by kernel_rfl)) rfl ?_
  exact ⟨id_, bw_ HB⟩
set_option maxRecDepth 100000 in
set_option maxHeartbeats 2000000 in
theorem find46 : FindC 46 := by
  intro k A c l r1 r2 r3 r4 r5 r6 r7 r8 w hr hc h
  have h := find_up h
  simp [effects_Find.f, effects_Find.j0, effects_Find.j1, effects_Find.j2, effects_Find.j3, effects_Find.j4, effects_Find.j5, effects_Find.j6, Option.bind_eq_some_iff] at h
  obtain ⟨t0, b0, t1, b1, t2, b2, rfl, rfl, rfl, rfl, rfl, rfl, rfl, rfl⟩ := h
  obtain rfl := Option.some.inj (b0.symm.trans b2)
  have B0 := Aside0.mk b0
  have B1 := Aside0.mk b1
  have HR := Aside0.mk hr
  have HC := Aside0.mk hc
  have HB := Aside0.mk (Below.refl w.heap.size w)
  clear hr hc b0 b1 b2
  go_enter Try.func35, Try.ntmps35
  go_upto_if 8 with (first | ((with_reducible refine gate_dst (N := 1) rfl ?_); refine bx_ (N := 1) (cs := #[.int .i64 46, .slice A l.length c]) (t := 24) ?_; intro g0 hg w3 hbox hb; have BK0 := Aside0.mk hbox; have GW0 := bs_ HB hg; replace HB := hs_ HB hb; clear hb hbox hg) | ((with_reducible refine gate_dst (N := 2) rfl ?_); refine bx_ (N := 2) (cs := #[.int .i64 0, .int .i64 0, .int .i64 0, .int .i64 0, .int .i64 0, .int .i64 0, .bool false, .bool false]) (t := 26) ?_; intro g1 hg w4 hbox hb; have BK1 := Aside0.mk hbox; have GW1 := bs_ HB hg; have N01 := nl_ BK0 hg; have N10 := ng_ BK0 hg; replace BK0 := bb_ BK0 hb; replace HB := hs_ HB hb; clear hb hbox hg; have hn1 := N10.out; have hn2 := N01.out; obtain ⟨c0, c1, e0, e1⟩ := cz2_ BK0; obtain ⟨d0, d1, d2, d3, d4, d5, d6, d7, f0, f1, f2, f3, f4, f5, f6, f7⟩ := cz8_ BK1))
  go_wp2_with (first | (go_at_call 54; (with_reducible refine (effects_Find_1.calls 0 g0 46 A c l t0 _ (bk_ BK0) (cb_ HR HB) HC.out B0.out).mono ?_); rintro e w' ⟨rfl, ⟨nd, rfl⟩⟩) | (go_at_call 54; (with_reducible refine (effects_Find_1.calls 1 g0 46 A c l t1 _ (bk_ BK0) (cb_ HR HB) HC.out B1.out).mono ?_); rintro e w' ⟨rfl, ⟨nd, rfl⟩⟩))
  refine bodyPost_ret (results_cell_row rfl _ _ g1 26 #[.int .i64 (0), .int .i64 (0), .int .i64 (Go.bits .or .i64 t0 t1), .int .i64 (t0), .int .i64 (0), .int .i64 (0), .bool false, .bool false] (0, 0) _ rfl (bk_ BK1) Try.underlying26 rfl (by kernel_rfl)) rfl ?_
  exact ⟨id_, bw_ HB⟩
set_option maxRecDepth 100000 in
set_option maxHeartbeats 2000000 in
theorem find50 : FindC 50 := by
  intro k A c l r1 r2 r3 r4 r5 r6 r7 r8 w hr hc h
  have h := find_up h
  simp [effects_Find.f, effects_Find.j0, effects_Find.j1, effects_Find.j2, effects_Find.j3, effects_Find.j4, effects_Find.j5, effects_Find.j6, Option.bind_eq_some_iff] at h
  obtain ⟨t0, b0, t1, b1, t2, b2, rfl, rfl, rfl, rfl, rfl, rfl, rfl, rfl⟩ := h
  obtain rfl := Option.some.inj (b0.symm.trans b2)
  have B0 := Aside0.mk b0
  have B1 := Aside0.mk b1
  have HR := Aside0.mk hr
  have HC := Aside0.mk hc
  have HB := Aside0.mk (Below.refl w.heap.size w)
  clear hr hc b0 b1 b2
  go_enter Try.func35, Try.ntmps35
  go_upto_if 8 with (first | ((with_reducible refine gate_dst (N := 1) rfl ?_); refine bx_ (N := 1) (cs := #[.int .i64 50, .slice A l.length c]) (t := 24) ?_; intro g0 hg w3 hbox hb; have BK0 := Aside0.mk hbox; have GW0 := bs_ HB hg; replace HB := hs_ HB hb; clear hb hbox hg) | ((with_reducible refine gate_dst (N := 2) rfl ?_); refine bx_ (N := 2) (cs := #[.int .i64 0, .int .i64 0, .int .i64 0, .int .i64 0, .int .i64 0, .int .i64 0, .bool false, .bool false]) (t := 26) ?_; intro g1 hg w4 hbox hb; have BK1 := Aside0.mk hbox; have GW1 := bs_ HB hg; have N01 := nl_ BK0 hg; have N10 := ng_ BK0 hg; replace BK0 := bb_ BK0 hb; replace HB := hs_ HB hb; clear hb hbox hg; have hn1 := N10.out; have hn2 := N01.out; obtain ⟨c0, c1, e0, e1⟩ := cz2_ BK0; obtain ⟨d0, d1, d2, d3, d4, d5, d6, d7, f0, f1, f2, f3, f4, f5, f6, f7⟩ := cz8_ BK1))
  go_wp2_with (first | (go_at_call 54; (with_reducible refine (effects_Find_1.calls 0 g0 50 A c l t0 _ (bk_ BK0) (cb_ HR HB) HC.out B0.out).mono ?_); rintro e w' ⟨rfl, ⟨nd, rfl⟩⟩) | (go_at_call 54; (with_reducible refine (effects_Find_1.calls 1 g0 50 A c l t1 _ (bk_ BK0) (cb_ HR HB) HC.out B1.out).mono ?_); rintro e w' ⟨rfl, ⟨nd, rfl⟩⟩))
  refine bodyPost_ret (results_cell_row rfl _ _ g1 26 #[.int .i64 (Go.bits .or .i64 t0 t1), .int .i64 (t0), .int .i64 (0), .int .i64 (0), .int .i64 (0), .int .i64 (0), .bool true, .bool true] (0, 0) _ rfl (bk_ BK1) Try.underlying26 rfl (by kernel_rfl)) rfl ?_
  exact ⟨id_, bw_ HB⟩
set_option maxRecDepth 100000 in
set_option maxHeartbeats 2000000 in
theorem find54 : FindC 54 := by
  intro k A c l r1 r2 r3 r4 r5 r6 r7 r8 w hr hc h
  have h := find_up h
  simp [effects_Find.f, effects_Find.j0, effects_Find.j1, effects_Find.j2, effects_Find.j3, effects_Find.j4, effects_Find.j5, effects_Find.j6, Option.bind_eq_some_iff] at h
  obtain ⟨t0, b0, rfl, rfl, rfl, rfl, rfl, rfl, rfl, rfl⟩ := h
  have B0 := Aside0.mk b0
  have HR := Aside0.mk hr
  have HC := Aside0.mk hc
  have HB := Aside0.mk (Below.refl w.heap.size w)
  clear hr hc b0
  go_enter Try.func35, Try.ntmps35
  go_upto_if 8 with (first | ((with_reducible refine gate_dst (N := 1) rfl ?_); refine bx_ (N := 1) (cs := #[.int .i64 54, .slice A l.length c]) (t := 24) ?_; intro g0 hg w3 hbox hb; have BK0 := Aside0.mk hbox; have GW0 := bs_ HB hg; replace HB := hs_ HB hb; clear hb hbox hg) | ((with_reducible refine gate_dst (N := 2) rfl ?_); refine bx_ (N := 2) (cs := #[.int .i64 0, .int .i64 0, .int .i64 0, .int .i64 0, .int .i64 0, .int .i64 0, .bool false, .bool false]) (t := 26) ?_; intro g1 hg w4 hbox hb; have BK1 := Aside0.mk hbox; have GW1 := bs_ HB hg; have N01 := nl_ BK0 hg; have N10 := ng_ BK0 hg; replace BK0 := bb_ BK0 hb; replace HB := hs_ HB hb; clear hb hbox hg; have hn1 := N10.out; have hn2 := N01.out; obtain ⟨c0, c1, e0, e1⟩ := cz2_ BK0; obtain ⟨d0, d1, d2, d3, d4, d5, d6, d7, f0, f1, f2, f3, f4, f5, f6, f7⟩ := cz8_ BK1))
  go_wp2_with (first | (go_at_call 54; (with_reducible refine (effects_Find_1.calls 0 g0 54 A c l t0 _ (bk_ BK0) (cb_ HR HB) HC.out B0.out).mono ?_); rintro e w' ⟨rfl, ⟨nd, rfl⟩⟩))
  refine bodyPost_ret (results_cell_row rfl _ _ g1 26 #[.int .i64 (t0), .int .i64 (0), .int .i64 (0), .int .i64 (0), .int .i64 (0), .int .i64 (0), .bool false, .bool false] (0, 0) _ rfl (bk_ BK1) Try.underlying26 rfl (by kernel_rfl)) rfl ?_
  exact ⟨id_, bw_ HB⟩
set_option maxRecDepth 100000 in
set_option maxHeartbeats 2000000 in
theorem find58 : FindC 58 := by
  intro k A c l r1 r2 r3 r4 r5 r6 r7 r8 w hr hc h
  have h := find_up h
  simp [effects_Find.f, effects_Find.j0, effects_Find.j1, effects_Find.j2, effects_Find.j3, effects_Find.j4, effects_Find.j5, effects_Find.j6, Option.bind_eq_some_iff] at h
  obtain ⟨rfl, rfl, rfl, rfl, rfl, rfl, rfl, rfl⟩ := h
  have HR := Aside0.mk hr
  have HC := Aside0.mk hc
  have HB := Aside0.mk (Below.refl w.heap.size w)
  clear hr hc
  go_enter Try.func35, Try.ntmps35
  go_upto_if 8 with (first | ((with_reducible refine gate_dst (N := 1) rfl ?_); refine bx_ (N := 1) (cs := #[.int .i64 58, .slice A l.length c]) (t := 24) ?_; intro g0 hg w3 hbox hb; have BK0 := Aside0.mk hbox; have GW0 := bs_ HB hg; replace HB := hs_ HB hb; clear hb hbox hg) | ((with_reducible refine gate_dst (N := 2) rfl ?_); refine bx_ (N := 2) (cs := #[.int .i64 0, .int .i64 0, .int .i64 0, .int .i64 0, .int .i64 0, .int .i64 0, .bool false, .bool false]) (t := 26) ?_; intro g1 hg w4 hbox hb; have BK1 := Aside0.mk hbox; have GW1 := bs_ HB hg; have N01 := nl_ BK0 hg; have N10 := ng_ BK0 hg; replace BK0 := bb_ BK0 hb; replace HB := hs_ HB hb; clear hb hbox hg; have hn1 := N10.out; have hn2 := N01.out; obtain ⟨c0, c1, e0, e1⟩ := cz2_ BK0; obtain ⟨d0, d1, d2, d3, d4, d5, d6, d7, f0, f1, f2, f3, f4, f5, f6, f7⟩ := cz8_ BK1))
  go_wp2
  refine bodyPost_ret (results_cell_row rfl _ _ g1 26 #[.int .i64 (0), .int .i64 (0), .int .i64 (0), .int .i64 (0), .int .i64 (0), .int .i64 (0), .bool true, .bool true] (0, 0) _ rfl (bk_ BK1) Try.underlying26 rfl (by kernel_rfl)) rfl ?_
  exact ⟨id_, bw_ HB⟩
end Go.Proofs.Ytaellapacoikaaa.PA
