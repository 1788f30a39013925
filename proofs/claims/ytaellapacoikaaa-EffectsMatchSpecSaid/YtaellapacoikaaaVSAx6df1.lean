import Derived.Test.YtaellapacoikaaaVSAx6d
import Derived.Deep.Cut
namespace Go.Proofs.Ytaellapacoikaaa.PA
open Go.RowKit Go.Proofs.YtaellapacoikaaaW.PrintWords Go.Proofs.YtaellapacoikaaaW.PrintLast Go.Proofs.YtaellapacoikaaaW.PrintMore
set_option linter.unusedVariables false
set_option linter.unusedSimpArgs false
set_option maxRecDepth 100000 in
set_option maxHeartbeats 2000000 in
theorem find6 : FindC 6 := by
  intro k A c l r1 r2 r3 r4 r5 r6 r7 r8 w hr hc h
  have h := find_up h
  simp [effects_Find.f, effects_Find.j0, effects_Find.j1, effects_Find.j2, effects_Find.j3, effects_Find.j4, effects_Find.j5, effects_Find.j6, Option.bind_eq_some_iff] at h
  obtain ⟨t0, b0, t1, b1, rfl, rfl, rfl, rfl, rfl, rfl, rfl, rfl⟩ := h
  have B0 := Aside0.mk b0
  have B1 := Aside0.mk b1
  have HR := Aside0.mk hr
  have HC := Aside0.mk hc
  have HB := Aside0.mk (Below.refl w.heap.size w)
  clear hr hc b0 b1
  go_enter Try.func35, Try.ntmps35
  go_upto_if 8 with (first | ((with_reducible refine gate_dst (N := 1) rfl ?_); refine bx_ (N := 1) (cs := #[.int .i64 6, .slice A l.length c]) (t := 24) ?_; intro g0 hg w3 hbox hb; have BK0 := Aside0.mk hbox; have GW0 := bs_ HB hg; replace HB := hs_ HB hb; clear hb hbox hg) | ((with_reducible refine gate_dst (N := 2) rfl ?_); refine bx_ (N := 2) (cs := #[.int .i64 0, .int .i64 0, .int .i64 0, .int .i64 0, .int .i64 0, .int .i64 0, .bool false, .bool false]) (t := 26) ?_; intro g1 hg w4 hbox hb; have BK1 := Aside0.mk hbox; have GW1 := bs_ HB hg; have N01 := nl_ BK0 hg; have N10 := ng_ BK0 hg; replace BK0 := bb_ BK0 hb; replace HB := hs_ HB hb; clear hb hbox hg; have hn1 := N10.out; have hn2 := N01.out; obtain ⟨c0, c1, e0, e1⟩ := cz2_ BK0; obtain ⟨d0, d1, d2, d3, d4, d5, d6, d7, f0, f1, f2, f3, f4, f5, f6, f7⟩ := cz8_ BK1))
  go_wp2_with (first | (go_at_call 54; (with_reducible refine (effects_Find_1.calls 1 g0 6 A c l t0 _ (bk_ BK0) (cb_ HR HB) HC.out B0.out).mono ?_); rintro e w' ⟨rfl, ⟨nd, rfl⟩⟩) | (go_at_call 54; (with_reducible refine (effects_Find_1.calls 0 g0 6 A c l t1 _ (bk_ BK0) (cb_ HR HB) HC.out B1.out).mono ?_); rintro e w' ⟨rfl, ⟨nd, rfl⟩⟩))
  refine bodyPost_ret (results_cell_row rfl _ _ g1 26 #[.int .i64 (t0), .int .i64 (t1), .int .i64 (0), .int .i64 (0), .int .i64 (0), .int .i64 (0), .bool false, .bool false] (0, 0) _ rfl (bk_ BK1) Try.underlying26 rfl (by kernel_rfl)) rfl ?_
  exact ⟨id_, bw_ HB⟩
set_option maxRecDepth 100000 in
set_option maxHeartbeats 2000000 in
theorem find10 : FindC 10 := by
  intro k A c l r1 r2 r3 r4 r5 r6 r7 r8 w hr hc h
  have h := find_up h
  have hx : effects_Find.f (k + 8) 10 l = effects_arithmetic.f 10 l true false := by
    cases hy : effects_arithmetic.f 10 l true false <;> simp [effects_Find.f, effects_Find.j0, effects_Find.j1, effects_Find.j2, effects_Find.j3, effects_Find.j4, effects_Find.j5, effects_Find.j6, Option.bind_eq_some_iff, hy]
  rw [hx] at h
  have A1 := Aside0.mk h
  have HR := Aside0.mk hr
  have HC := Aside0.mk hc
  have HB := Aside0.mk (Below.refl w.heap.size w)
  clear hr hc h
  go_enter Try.func35, Try.ntmps35
  go_upto_if 8 with (first | ((with_reducible refine gate_dst (N := 1) rfl ?_); refine bx_ (N := 1) (cs := #[.int .i64 10, .slice A l.length c]) (t := 24) ?_; intro g0 hg w3 hbox hb; have BK0 := Aside0.mk hbox; have GW0 := bs_ HB hg; replace HB := hs_ HB hb; clear hb hbox hg) | ((with_reducible refine gate_dst (N := 2) rfl ?_); refine bx_ (N := 2) (cs := #[.int .i64 0, .int .i64 0, .int .i64 0, .int .i64 0, .int .i64 0, .int .i64 0, .bool false, .bool false]) (t := 26) ?_; intro g1 hg w4 hbox hb; have BK1 := Aside0.mk hbox; have GW1 := bs_ HB hg; have N01 := nl_ BK0 hg; have N10 := ng_ BK0 hg; replace BK0 := bb_ BK0 hb; replace HB := hs_ HB hb; clear hb hbox hg; have hn1 := N10.out; have hn2 := N01.out; obtain ⟨c0, c1, e0, e1⟩ := cz2_ BK0; obtain ⟨d0, d1, d2, d3, d4, d5, d6, d7, f0, f1, f2, f3, f4, f5, f6, f7⟩ := cz8_ BK1))
  go_wp2_with (go_at_call 55; (with_reducible refine (effects_arithmetic.calls 10 A c l true false r1 r2 r3 r4 r5 r6 r7 r8 _ (cb_ HR HB) HC.out A1.out).mono ?_); rintro e w5 ⟨rfl, hb⟩; replace BK1 := bb_ BK1 hb; replace HB := hs_ HB hb; clear hb; obtain ⟨d0, d1, d2, d3, d4, d5, d6, d7, f0, f1, f2, f3, f4, f5, f6, f7⟩ := cz8_ BK1)
  refine bodyPost_ret (results_cell_row rfl _ _ g1 26 #[.int .i64 r1, .int .i64 r2, .int .i64 r3, .int .i64 r4, .int .i64 r5, .int .i64 r6, .bool r7, .bool r8] (0, 0) _ rfl (bk_ BK1) Try.underlying26 rfl (by kernel_rfl)) rfl ?_
  exact ⟨id_, bw_ HB⟩
set_option maxRecDepth 100000 in
set_option maxHeartbeats 2000000 in
theorem find14 : FindC 14 := by
  intro k A c l r1 r2 r3 r4 r5 r6 r7 r8 w hr hc h
  have h := find_up h
  have hx : effects_Find.f (k + 8) 14 l = effects_arithmetic.f 14 l true true := by
    cases hy : effects_arithmetic.f 14 l true true <;> simp [effects_Find.f, effects_Find.j0, effects_Find.j1, effects_Find.j2, effects_Find.j3, effects_Find.j4, effects_Find.j5, effects_Find.j6, Option.bind_eq_some_iff, hy]
  rw [hx] at h
  have A1 := Aside0.mk h
  have HR := Aside0.mk hr
  have HC := Aside0.mk hc
  have HB := Aside0.mk (Below.refl w.heap.size w)
  clear hr hc h
  go_enter Try.func35, Try.ntmps35
  go_upto_if 8 with (first | ((with_reducible refine gate_dst (N := 1) rfl ?_); refine bx_ (N := 1) (cs := #[.int .i64 14, .slice A l.length c]) (t := 24) ?_; intro g0 hg w3 hbox hb; have BK0 := Aside0.mk hbox; have GW0 := bs_ HB hg; replace HB := hs_ HB hb; clear hb hbox hg) | ((with_reducible refine gate_dst (N := 2) rfl ?_); refine bx_ (N := 2) (cs := #[.int .i64 0, .int .i64 0, .int .i64 0, .int .i64 0, .int .i64 0, .int .i64 0, .bool false, .bool false]) (t := 26) ?_; intro g1 hg w4 hbox hb; have BK1 := Aside0.mk hbox; have GW1 := bs_ HB hg; have N01 := nl_ BK0 hg; have N10 := ng_ BK0 hg; replace BK0 := bb_ BK0 hb; replace HB := hs_ HB hb; clear hb hbox hg; have hn1 := N10.out; have hn2 := N01.out; obtain ⟨c0, c1, e0, e1⟩ := cz2_ BK0; obtain ⟨d0, d1, d2, d3, d4, d5, d6, d7, f0, f1, f2, f3, f4, f5, f6, f7⟩ := cz8_ BK1))
  go_wp2_with (go_at_call 55; (with_reducible refine (effects_arithmetic.calls 14 A c l true true r1 r2 r3 r4 r5 r6 r7 r8 _ (cb_ HR HB) HC.out A1.out).mono ?_); rintro e w5 ⟨rfl, hb⟩; replace BK1 := bb_ BK1 hb; replace HB := hs_ HB hb; clear hb; obtain ⟨d0, d1, d2, d3, d4, d5, d6, d7, f0, f1, f2, f3, f4, f5, f6, f7⟩ := cz8_ BK1)
  refine bodyPost_ret (results_cell_row rfl _ _ g1 26 #[.int .i64 r1, .int .i64 r2, .int .i64 r3, .int .i64 r4, .int .i64 r5, .int .i64 r6, .bool r7, .bool r8] (0, 0) _ rfl (bk_ BK1) Try.underlying26 rfl (by kernel_rfl)) rfl ?_
  exact ⟨id_, bw_ HB⟩
set_option maxRecDepth 100000 in
set_option maxHeartbeats 2000000 in
theorem find18 : FindC 18 := by
  intro k A c l r1 r2 r3 r4 r5 r6 r7 r8 w hr hc h
  have h := find_up h
  have hx : effects_Find.f (k + 8) 18 l = effects_arithmetic.f 18 l true true := by
    cases hy : effects_arithmetic.f 18 l true true <;> simp [effects_Find.f, effects_Find.j0, effects_Find.j1, effects_Find.j2, effects_Find.j3, effects_Find.j4, effects_Find.j5, effects_Find.j6, Option.bind_eq_some_iff, hy]
  rw [hx] at h
  have A1 := Aside0.mk h
  have HR := Aside0.mk hr
  have HC := Aside0.mk hc
  have HB := Aside0.mk (Below.refl w.heap.size w)
  clear hr hc h
  go_enter Try.func35, Try.ntmps35
  go_upto_if 8 with (first | ((with_reducible refine gate_dst (N := 1) rfl ?_); refine bx_ (N := 1) (cs := #[.int .i64 18, .slice A l.length c]) (t := 24) ?_; intro g0 hg w3 hbox hb; have BK0 := Aside0.mk hbox; have GW0 := bs_ HB hg; replace HB := hs_ HB hb; clear hb hbox hg) | ((with_reducible refine gate_dst (N := 2) rfl ?_); refine bx_ (N := 2) (cs := #[.int .i64 0, .int .i64 0, .int .i64 0, .int .i64 0, .int .i64 0, .int .i64 0, .bool false, .bool false]) (t := 26) ?_; intro g1 hg w4 hbox hb; have BK1 := Aside0.mk hbox; have GW1 := bs_ HB hg; have N01 := nl_ BK0 hg; have N10 := ng_ BK0 hg; replace BK0 := bb_ BK0 hb; replace HB := hs_ HB hb; clear hb hbox hg; have hn1 := N10.out; have hn2 := N01.out; obtain ⟨c0, c1, e0, e1⟩ := cz2_ BK0; obtain ⟨d0, d1, d2, d3, d4, d5, d6, d7, f0, f1, f2, f3, f4, f5, f6, f7⟩ := cz8_ BK1))
  go_wp2_with (go_at_call 55; (with_reducible refine (effects_arithmetic.calls 18 A c l true true r1 r2 r3 r4 r5 r6 r7 r8 _ (cb_ HR HB) HC.out A1.out).mono ?_); rintro e w5 ⟨rfl, hb⟩; replace BK1 := bb_ BK1 hb; replace HB := hs_ HB hb; clear hb; obtain ⟨d0, d1, d2, d3, d4, d5, d6, d7, f0, f1, f2, f3, f4, f5, f6, f7⟩ := cz8_ BK1)
  refine bodyPost_ret (results_cell_row rfl _ _ g1 26 #[.int .i64 r1, .int .i64 r2, .int .i64 r3, .int .i64 r4, .int .i64 r5, .int .i64 r6, .bool r7, .bool r8] (0, 0) _ rfl (bk_ BK1) Try.underlying26 rfl (by kernel_rfl)) rfl ?_
  exact ⟨id_, bw_ HB⟩
set_option maxRecDepth 100000 in
set_option maxHeartbeats 2000000 in
theorem find22 : FindC 22 := by
  intro k A c l r1 r2 r3 r4 r5 r6 r7 r8 w hr hc h
  have h := find_up h
  simp [effects_Find.f, effects_Find.j0, effects_Find.j1, effects_Find.j2, effects_Find.j3, effects_Find.j4, effects_Find.j5, effects_Find.j6, Option.bind_eq_some_iff] at h
  obtain ⟨t0, b0, t1, b1, rfl, rfl, rfl, rfl, rfl, rfl, rfl, rfl⟩ := h
  have B0 := Aside0.mk b0
  have B1 := Aside0.mk b1
  have HR := Aside0.mk hr
  have HC := Aside0.mk hc
  have HB := Aside0.mk (Below.refl w.heap.size w)
  clear hr hc b0 b1
  go_enter Try.func35, Try.ntmps35
  go_upto_if 8 with (first | ((with_reducible refine gate_dst (N := 1) rfl ?_); refine bx_ (N := 1) (cs := #[.int .i64 22, .slice A l.length c]) (t := 24) ?_; intro g0 hg w3 hbox hb; have BK0 := Aside0.mk hbox; have GW0 := bs_ HB hg; replace HB := hs_ HB hb; clear hb hbox hg) | ((with_reducible refine gate_dst (N := 2) rfl ?_); refine bx_ (N := 2) (cs := #[.int .i64 0, .int .i64 0, .int .i64 0, .int .i64 0, .int .i64 0, .int .i64 0, .bool false, .bool false]) (t := 26) ?_; intro g1 hg w4 hbox hb; have BK1 := Aside0.mk hbox; have GW1 := bs_ HB hg; have N01 := nl_ BK0 hg; have N10 := ng_ BK0 hg; replace BK0 := bb_ BK0 hb; replace HB := hs_ HB hb; clear hb hbox hg; have hn1 := N10.out; have hn2 := N01.out; obtain ⟨c0, c1, e0, e1⟩ := cz2_ BK0; obtain ⟨d0, d1, d2, d3, d4, d5, d6, d7, f0, f1, f2, f3, f4, f5, f6, f7⟩ := cz8_ BK1))
  go_wp2_with (first | (go_at_call 54; (with_reducible refine (effects_Find_1.calls 0 g0 22 A c l t0 _ (bk_ BK0) (cb_ HR HB) HC.out B0.out).mono ?_); rintro e w' ⟨rfl, ⟨nd, rfl⟩⟩) | (go_at_call 54; (with_reducible refine (effects_Find_1.calls 1 g0 22 A c l t1 _ (bk_ BK0) (cb_ HR HB) HC.out B1.out).mono ?_); rintro e w' ⟨rfl, ⟨nd, rfl⟩⟩))
  refine bodyPost_ret (results_cell_row rfl _ _ g1 26 #[.int .i64 (Go.bits .or .i64 t0 t1), .int .i64 (0), .int .i64 (0), .int .i64 (0), .int .i64 (0), .int .i64 (0), .bool false, .bool true] (0, 0) _ rfl (bk_ BK1) Try.underlying26 rfl (by kernel_rfl)) rfl ?_
  exact ⟨id_, bw_ HB⟩
set_option maxRecDepth 100000 in
set_option maxHeartbeats 2000000 in
theorem find26 : FindC 26 := by
  intro k A c l r1 r2 r3 r4 r5 r6 r7 r8 w hr hc h
  have h := find_up h
  simp [effects_Find.f, effects_Find.j0, effects_Find.j1, effects_Find.j2, effects_Find.j3, effects_Find.j4, effects_Find.j5, effects_Find.j6, Option.bind_eq_some_iff] at h
  obtain ⟨t0, b0, rfl, rfl, rfl, rfl, rfl, rfl, rfl, rfl⟩ := h
  have B0 := Aside0.mk b0
  have HR := Aside0.mk hr
  have HC := Aside0.mk hc
  have HB := Aside0.mk (Below.refl w.heap.size w)
  clear hr hc b0
  go_enter Try.func35, Try.ntmps35
  go_upto_if 8 with (first | ((with_reducible refine gate_dst (N := 1) rfl ?_); refine bx_ (N := 1) (cs := #[.int .i64 26, .slice A l.length c]) (t := 24) ?_; intro g0 hg w3 hbox hb; have BK0 := Aside0.mk hbox; have GW0 := bs_ HB hg; replace HB := hs_ HB hb; clear hb hbox hg) | ((with_reducible refine gate_dst (N := 2) rfl ?_); refine bx_ (N := 2) (cs := #[.int .i64 0, .int .i64 0, .int .i64 0, .int .i64 0, .int .i64 0, .int .i64 0, .bool false, .bool false]) (t := 26) ?_; intro g1 hg w4 hbox hb; have BK1 := Aside0.mk hbox; have GW1 := bs_ HB hg; have N01 := nl_ BK0 hg; have N10 := ng_ BK0 hg; replace BK0 := bb_ BK0 hb; replace HB := hs_ HB hb; clear hb hbox hg; have hn1 := N10.out; have hn2 := N01.out; obtain ⟨c0, c1, e0, e1⟩ := cz2_ BK0; obtain ⟨d0, d1, d2, d3, d4, d5, d6, d7, f0, f1, f2, f3, f4, f5, f6, f7⟩ := cz8_ BK1))
  go_wp2_with (first | (go_at_call 54; (with_reducible refine (effects_Find_1.calls 0 g0 26 A c l t0 _ (bk_ BK0) (cb_ HR HB) HC.out B0.out).mono ?_); rintro e w' ⟨rfl, ⟨nd, rfl⟩⟩))
  refine bodyPost_ret (results_cell_row rfl _ _ g1 26 #[.int .i64 (128), .int .i64 (Go.bits .or .i64 t0 128), .int .i64 (0), .int .i64 (0), .int .i64 (0), .int .i64 (0), .bool true, .bool false] (0, 0) _ rfl (bk_ BK1) Try.underlying26 rfl (by kernel_rfl)) rfl ?_
  exact ⟨id_, bw_ HB⟩
set_option maxRecDepth 100000 in
set_option maxHeartbeats 2000000 in
theorem find41 : FindC 41 := by
  intro k A c l r1 r2 r3 r4 r5 r6 r7 r8 w hr hc h
  have h := find_up h
  simp [effects_Find.f, effects_Find.j0, effects_Find.j1, effects_Find.j2, effects_Find.j3, effects_Find.j4, effects_Find.j5, effects_Find.j6, Option.bind_eq_some_iff] at h
  obtain ⟨t0, b0, rfl, rfl, rfl, rfl, rfl, rfl, rfl, rfl⟩ := h
  have B0 := Aside0.mk b0
  have HR := Aside0.mk hr
  have HC := Aside0.mk hc
  have HB := Aside0.mk (Below.refl w.heap.size w)
  clear hr hc b0
  go_enter Try.func35, Try.ntmps35
  go_upto_if 8 with (first | ((with_reducible refine gate_dst (N := 1) rfl ?_); refine bx_ (N := 1) (cs := #[.int .i64 41, .slice A l.length c]) (t := 24) ?_; intro g0 hg w3 hbox hb; have BK0 := Aside0.mk hbox; have GW0 := bs_ HB hg; replace HB := hs_ HB hb; clear hb hbox hg) | ((with_reducible refine gate_dst (N := 2) rfl ?_); refine bx_ (N := 2) (cs := #[.int .i64 0, .int .i64 0, .int .i64 0, .int .i64 0, .int .i64 0, .int .i64 0, .bool false, .bool false]) (t := 26) ?_; intro g1 hg w4 hbox hb; have BK1 := Aside0.mk hbox; have GW1 := bs_ HB hg; have N01 := nl_ BK0 hg; have N10 := ng_ BK0 hg; replace BK0 := bb_ BK0 hb; replace HB := hs_ HB hb; clear hb hbox hg; have hn1 := N10.out; have hn2 := N01.out; obtain ⟨c0, c1, e0, e1⟩ := cz2_ BK0; obtain ⟨d0, d1, d2, d3, d4, d5, d6, d7, f0, f1, f2, f3, f4, f5, f6, f7⟩ := cz8_ BK1))
  go_wp2_with (first | (go_at_call 54; (with_reducible refine (effects_Find_1.calls 0 g0 41 A c l t0 _ (bk_ BK0) (cb_ HR HB) HC.out B0.out).mono ?_); rintro e w' ⟨rfl, ⟨nd, rfl⟩⟩))
  refine bodyPost_ret (results_cell_row rfl _ _ g1 26 #[.int .i64 (Go.bits .or .i64 t0 128), .int .i64 (128), .int .i64 (0), .int .i64 (0), .int .i64 (0), .int .i64 (0), .bool false, .bool true] (0, 0) _ rfl (bk_ BK1) Try.underlying26 rfl (by kernel_rfl)) rfl ?_
  exact ⟨id_, bw_ HB⟩
set_option maxRecDepth 100000 in
set_option maxHeartbeats 2000000 in
theorem find45 : FindC 45 := by
  intro k A c l r1 r2 r3 r4 r5 r6 r7 r8 w hr hc h
  have h := find_up h
  simp [effects_Find.f, effects_Find.j0, effects_Find.j1, effects_Find.j2, effects_Find.j3, effects_Find.j4, effects_Find.j5, effects_Find.j6, Option.bind_eq_some_iff] at h
  obtain ⟨t0, b0, t1, b1, rfl, rfl, rfl, rfl, rfl, rfl, rfl, rfl⟩ := h
  have B0 := Aside0.mk b0
  have B1 := Aside0.mk b1
  have HR := Aside0.mk hr
  have HC := Aside0.mk hc
  have HB := Aside0.mk (Below.refl w.heap.size w)
  clear hr hc b0 b1
  go_enter Try.func35, Try.ntmps35
  go_upto_if 8 with (first | ((with_reducible refine gate_dst (N := 1) rfl ?_); refine bx_ (N := 1) (cs := #[.int .i64 45, .slice A l.length c]) (t := 24) ?_; intro g0 hg w3 hbox hb; have BK0 := Aside0.mk hbox; have GW0 := bs_ HB hg; replace HB := hs_ HB hb; clear hb hbox hg) | ((with_reducible refine gate_dst (N := 2) rfl ?_); refine bx_ (N := 2) (cs := #[.int .i64 0, .int .i64 0, .int .i64 0, .int .i64 0, .int .i64 0, .int .i64 0, .bool false, .bool false]) (t := 26) ?_; intro g1 hg w4 hbox hb; have BK1 := Aside0.mk hbox; have GW1 := bs_ HB hg; have N01 := nl_ BK0 hg; have N10 := ng_ BK0 hg; replace BK0 := bb_ BK0 hb; replace HB := hs_ HB hb; clear hb hbox hg; have hn1 := N10.out; have hn2 := N01.out; obtain ⟨c0, c1, e0, e1⟩ := cz2_ BK0; obtain ⟨d0, d1, d2, d3, d4, d5, d6, d7, f0, f1, f2, f3, f4, f5, f6, f7⟩ := cz8_ BK1))
  go_wp2_with (first | (go_at_call 54; (with_reducible refine (effects_Find_1.calls 1 g0 45 A c l t0 _ (bk_ BK0) (cb_ HR HB) HC.out B0.out).mono ?_); rintro e w' ⟨rfl, ⟨nd, rfl⟩⟩) | (go_at_call 54; (with_reducible refine (effects_Find_1.calls 0 g0 45 A c l t1 _ (bk_ BK0) (cb_ HR HB) HC.out B1.out).mono ?_); rintro e w' ⟨rfl, ⟨nd, rfl⟩⟩))
  refine bodyPost_ret (results_cell_row rfl _ _ g1 26 #[.int .i64 (t0), .int .i64 (0), .int .i64 (t1), .int .i64 (0), .int .i64 (0), .int .i64 (0), .bool false, .bool true] (0, 0) _ rfl (bk_ BK1) Try.underlying26 rfl (by kernel_rfl)) rfl ?_
  exact ⟨id_, bw_ HB⟩
set_option maxRecDepth 100000 in
set_option maxHeartbeats 2000000 in
theorem find49 : FindC 49 := by
  intro k A c l r1 r2 r3 r4 r5 r6 r7 r8 w hr hc h
  have h := find_up h
  simp [effects_Find.f, effects_Find.j0, effects_Find.j1, effects_Find.j2, effects_Find.j3, effects_Find.j4, effects_Find.j5, effects_Find.j6, Option.bind_eq_some_iff] at h
  obtain ⟨t0, b0, t1, b1, rfl, rfl, rfl, rfl, rfl, rfl, rfl, rfl⟩ := h
  have B0 := Aside0.mk b0
  have B1 := Aside0.mk b1
  have HR := Aside0.mk hr
  have HC := Aside0.mk hc
  have HB := Aside0.mk (Below.refl w.heap.size w)
  clear hr hc b0 b1
  go_enter Try.func35, Try.ntmps35
  go_upto_if 8 with (first | ((with_reducible refine gate_dst (N := 1) rfl ?_); refine bx_ (N := 1) (cs := #[.int .i64 49, .slice A l.length c]) (t := 24) ?_; intro g0 hg w3 hbox hb; have BK0 := Aside0.mk hbox; have GW0 := bs_ HB hg; replace HB := hs_ HB hb; clear hb hbox hg) | ((with_reducible refine gate_dst (N := 2) rfl ?_); refine bx_ (N := 2) (cs := #[.int .i64 0, .int .i64 0, .int .i64 0, .int .i64 0, .int .i64 0, .int .i64 0, .bool false, .bool false]) (t := 26) ?_; intro g1 hg w4 hbox hb; have BK1 := Aside0.mk hbox; have GW1 := bs_ HB hg; have N01 := nl_ BK0 hg; have N10 := ng_ BK0 hg; replace BK0 := bb_ BK0 hb; replace HB := hs_ HB hb; clear hb hbox hg; have hn1 := N10.out; have hn2 := N01.out; obtain ⟨c0, c1, e0, e1⟩ := cz2_ BK0; obtain ⟨d0, d1, d2, d3, d4, d5, d6, d7, f0, f1, f2, f3, f4, f5, f6, f7⟩ := cz8_ BK1))
  go_wp2_with (first | (go_at_call 54; (with_reducible refine (effects_Find_1.calls 1 g0 49 A c l t0 _ (bk_ BK0) (cb_ HR HB) HC.out B0.out).mono ?_); rintro e w' ⟨rfl, ⟨nd, rfl⟩⟩) | (go_at_call 54; (with_reducible refine (effects_Find_1.calls 0 g0 49 A c l t1 _ (bk_ BK0) (cb_ HR HB) HC.out B1.out).mono ?_); rintro e w' ⟨rfl, ⟨nd, rfl⟩⟩))
  refine bodyPost_ret (results_cell_row rfl _ _ g1 26 #[.int .i64 (t0), .int .i64 (0), .int .i64 (0), .int .i64 (t1), .int .i64 (0), .int .i64 (0), .bool false, .bool false] (0, 0) _ rfl (bk_ BK1) Try.underlying26 rfl (by kernel_rfl)) rfl ?_
  exact ⟨id_, bw_ HB⟩
set_option maxRecDepth 100000 in
set_option maxHeartbeats 2000000 in
theorem find53 : FindC 53 := by
  intro k A c l r1 r2 r3 r4 r5 r6 r7 r8 w hr hc h
  have h := find_up h
  simp [effects_Find.f, effects_Find.j0, effects_Find.j1, effects_Find.j2, effects_Find.j3, effects_Find.j4, effects_Find.j5, effects_Find.j6, Option.bind_eq_some_iff] at h
  obtain ⟨t0, b0, rfl, rfl, rfl, rfl, rfl, rfl, rfl, rfl⟩ := h
  have B0 := Aside0.mk b0
  have HR := Aside0.mk hr
  have HC := Aside0.mk hc
  have HB := Aside0.mk (Below.refl w.heap.size w)
  clear hr hc b0
  go_enter Try.func35, Try.ntmps35
  go_upto_if 8 with (first | ((with_reducible refine gate_dst (N := 1) rfl ?_); refine bx_ (N := 1) (cs := #[.int .i64 53, .slice A l.length c]) (t := 24) ?_; intro g0 hg w3 hbox hb; have BK0 := Aside0.mk hbox; have GW0 := bs_ HB hg; replace HB := hs_ HB hb; clear hb hbox hg) | ((with_reducible refine gate_dst (N := 2) rfl ?_); refine bx_ (N := 2) (cs := #[.int .i64 0, .int .i64 0, .int .i64 0, .int .i64 0, .int .i64 0, .int .i64 0, .bool false, .bool false]) (t := 26) ?_; intro g1 hg w4 hbox hb; have BK1 := Aside0.mk hbox; have GW1 := bs_ HB hg; have N01 := nl_ BK0 hg; have N10 := ng_ BK0 hg; replace BK0 := bb_ BK0 hb; replace HB := hs_ HB hb; clear hb hbox hg; have hn1 := N10.out; have hn2 := N01.out; obtain ⟨c0, c1, e0, e1⟩ := cz2_ BK0; obtain ⟨d0, d1, d2, d3, d4, d5, d6, d7, f0, f1, f2, f3, f4, f5, f6, f7⟩ := cz8_ BK1))
  go_wp2_with (first | (go_at_call 54; (with_reducible refine (effects_Find_1.calls 0 g0 53 A c l t0 _ (bk_ BK0) (cb_ HR HB) HC.out B0.out).mono ?_); rintro e w' ⟨rfl, ⟨nd, rfl⟩⟩))
  refine bodyPost_ret (results_cell_row rfl _ _ g1 26 #[.int .i64 (0), .int .i64 (t0), .int .i64 (0), .int .i64 (0), .int .i64 (0), .int .i64 (0), .bool false, .bool false] (0, 0) _ rfl (bk_ BK1) Try.underlying26 rfl (by kernel_rfl)) rfl ?_
  exact ⟨id_, bw_ HB⟩
set_option maxRecDepth 100000 in
set_option maxHeartbeats 2000000 in
theorem find57 : FindC 57 := by
  intro k A c l r1 r2 r3 r4 r5 r6 r7 r8 w hr hc h
  have h := find_up h
  simp [effects_Find.f, effects_Find.j0, effects_Find.j1, effects_Find.j2, effects_Find.j3, effects_Find.j4, effects_Find.j5, effects_Find.j6, Option.bind_eq_some_iff] at h
  obtain ⟨t0, b0, rfl, rfl, rfl, rfl, rfl, rfl, rfl, rfl⟩ := h
  have B0 := Aside0.mk b0
  have HR := Aside0.mk hr
  have HC := Aside0.mk hc
  have HB := Aside0.mk (Below.refl w.heap.size w)
  clear hr hc b0
  go_enter Try.func35, Try.ntmps35
  go_upto_if 8 with (first | ((with_reducible refine gate_dst (N := 1) rfl ?_); refine bx_ (N := 1) (cs := #[.int .i64 57, .slice A l.length c]) (t := 24) ?_; intro g0 hg w3 hbox hb; have BK0 := Aside0.mk hbox; have GW0 := bs_ HB hg; replace HB := hs_ HB hb; clear hb hbox hg) | ((with_reducible refine gate_dst (N := 2) rfl ?_); refine bx_ (N := 2) (cs := #[.int .i64 0, .int .i64 0, .int .i64 0, .int .i64 0, .int .i64 0, .int .i64 0, .bool false, .bool false]) (t := 26) ?_; intro g1 hg w4 hbox hb; have BK1 := Aside0.mk hbox; have GW1 := bs_ HB hg; have N01 := nl_ BK0 hg; have N10 := ng_ BK0 hg; replace BK0 := bb_ BK0 hb; replace HB := hs_ HB hb; clear hb hbox hg; have hn1 := N10.out; have hn2 := N01.out; obtain ⟨c0, c1, e0, e1⟩ := cz2_ BK0; obtain ⟨d0, d1, d2, d3, d4, d5, d6, d7, f0, f1, f2, f3, f4, f5, f6, f7⟩ := cz8_ BK1))
  go_wp2_with (first | (go_at_call 54; (with_reducible refine (effects_Find_1.calls 0 g0 57 A c l t0 _ (bk_ BK0) (cb_ HR HB) HC.out B0.out).mono ?_); rintro e w' ⟨rfl, ⟨nd, rfl⟩⟩))
  refine bodyPost_ret (results_cell_row rfl _ _ g1 26 #[.int .i64 (t0), .int .i64 (0), .int .i64 (0), .int .i64 (0), .int .i64 (0), .int .i64 (0), .bool false, .bool false] (0, 0) _ rfl (bk_ BK1) Try.underlying26 rfl (by kernel_rfl)) rfl ?_
  exact ⟨id_, bw_ HB⟩
end Go.Proofs.Ytaellapacoikaaa.PA
