import Derived.Test.YtaellapacoikaaaNB8
namespace Go.Proofs.Ytaellapacoikaaa.PB
open Go.RowKit Go.Proofs.YtaellapacoikaaaW.PrintWords Go.Proofs.YtaellapacoikaaaW.PrintLast Go.Proofs.YtaellapacoikaaaW.PrintMore
theorem vis_root {k : Nat} {g : List S62} {root : Int} {s s' : List Bool × List Int} (h : vis k g s root = some s') : 0 ≤ root ∧ root < g.length := by
 cases k with
 | zero => cases h
 | succ k =>
  rw [vis_succ] at h
  split at h
  case isFalse => cases h
  rename_i hc
  exact ⟨hc.1, hc.2.2.1⟩
theorem flow_dominators.calls (k : Nat) (A0 : Option Addr) (c0 : Nat) (l0 : List S62) (a1 : Int) (r : List Int) (w : World) (hr0 : Kd.C k62 w A0 l0.length l0) (hc0 : l0.length ≤ c0) (h : flow_dominators.f k l0 a1 = some r) :
  Calls Try.prog 43 #[.slice A0 l0.length c0, .int .i64 a1] w fun e w' => ∃ v0_ : Value, e = .returned (v0_) ∧ Kd.R (Kd.int .i64) 3 w' w.heap.size (fun _ => True) v0_ r ∧ Below w.heap.size w w' := by
 unfold flow_dominators.f at h
 split at h
 case isFalse => cases h
 rename_i hg
 obtain ⟨s, hv, h⟩ := Option.bind_eq_some_iff.1 h
 split at h
 case isFalse => cases h
 rename_i hs
 have hg' : l0.length ≤ 100 ∧ ∀ b ∈ l0, b.f3.length ≤ 300 := by
  unfold gokB at hg
  simpa using hg
 refine callsIn_wide.1 (dominators.in_ k A0 c0 l0 a1 s r w hr0 hc0 hg'.1 (fun p hp => ?_) hv hs.1 hs.2 h (vis_root hv))
 have hm : rd_T62 l0 (p : Int) ∈ l0 := by
  unfold rd_T62
  rw [Int.toNat_natCast, List.getD_eq_getElem?_getD, List.getElem?_eq_getElem hp]
  exact List.getElem_mem hp
 have := hg'.2 _ hm
 omega
end Go.Proofs.Ytaellapacoikaaa.PB
