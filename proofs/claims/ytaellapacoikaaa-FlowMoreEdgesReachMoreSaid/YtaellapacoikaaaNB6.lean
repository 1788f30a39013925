import Derived.Test.YtaellapacoikaaaNB3
import Derived.Test.YtaellapacoikaaaNB4
import Derived.Test.YtaellapacoikaaaNB5
namespace Go.Proofs.Ytaellapacoikaaa.PB
open Go.RowKit Go.Proofs.YtaellapacoikaaaW.PrintWords Go.Proofs.YtaellapacoikaaaW.PrintLast Go.Proofs.YtaellapacoikaaaW.PrintMore
set_option linter.unusedVariables false
set_option linter.unusedSimpArgs false
/-! ### flow.dominators: what it computes -/
/-- the common dominator of two blocks -/
def isect : Nat → List Int → List Int → Int → Int → Option Int
 | 0, _, _, _, _ => none
 | k + 1, rank, idom, a, x => if a = x then some x else
   if 0 ≤ a ∧ a < rank.length ∧ a < idom.length ∧ 0 ≤ x ∧ x < rank.length ∧ x < idom.length then
    (if rd rank a < rd rank x then isect k rank idom (rd idom a) x else isect k rank idom a (rd idom x))
   else none
def nextP (k : Nat) (g : List S62) (rank idom : List Int) (b x : Int) (p : Nat) : Option Int :=
 if rd idom (p : Int) < 0 then some x else if b ∈ innerL g (p : Int) then (if x < 0 then some (p : Int) else isect k rank idom (p : Int) x) else some x
def nextL (k : Nat) (g : List S62) (rank idom : List Int) (b : Int) (n : Nat) : Option Int := (List.range n).foldlM (nextP k g rank idom b) (-1)
/-- one block of a pass -/
def stepB (k : Nat) (g : List S62) (rank : List Int) (root : Int) (s : List Int × Bool) (b : Int) : Option (List Int × Bool) :=
 if b = root then some s else (nextL k g rank s.1 b g.length).bind fun x => some (if x = rd s.1 b then s else (s.1.set b.toNat x, true))
def passB (k : Nat) (g : List S62) (rank : List Int) (root : Int) (order : List Int) (idom : List Int) : Option (List Int × Bool) := order.reverse.foldlM (stepB k g rank root) (idom, false)
def domL : Nat → List S62 → List Int → Int → List Int → List Int → Option (List Int)
 | 0, _, _, _, _, _ => none
 | k + 1, g, rank, root, order, idom => (passB k g rank root order idom).bind fun s => if s.2 = true then domL k g rank root order s.1 else some s.1
def rankL (order : List Int) (n : Nat) : List Int := order.zipIdx.foldl (fun r p => r.set p.1.toNat (p.2 : Int)) (List.replicate n (-1))
def gokB (g : List S62) : Bool := decide (g.length ≤ 100) && g.all fun b => decide (b.f3.length ≤ 300)
/-- the immediate dominators as they are computed -/
def flow_dominators.f (k : Nat) (g : List S62) (root : Int) : Option (List Int) :=
 if gokB g = true then (vis k g (List.replicate g.length false, []) root).bind fun s =>
  if s.2.length ≤ 1000 ∧ (∀ b ∈ s.2, 0 ≤ b ∧ b < g.length) then domL k g (rankL s.2 g.length) root s.2 ((List.replicate g.length (-1)).set root.toNat root) else none
 else none
theorem isect_mono : ∀ k rank idom a x, LeO (isect k rank idom a x) (isect (k + 1) rank idom a x)
 | 0, _, _, _, _ => fun r h => by cases h
 | k + 1, rank, idom, a, x => fun r h => by
  rw [isect] at h ⊢
  split at h
  ·
   rename_i hc; rw [if_pos hc]; exact h
  ·
   rename_i hc
   rw [if_neg hc]
   split at h
   ·
    rename_i hd
    rw [if_pos hd]
    split at h
    ·
     rename_i he; rw [if_pos he]; exact isect_mono k _ _ _ _ r h
    ·
     rename_i he; rw [if_neg he]; exact isect_mono k _ _ _ _ r h
   ·
    cases h
theorem LeO.foldlM {α β : Type} {f g : β → α → Option β} (h : ∀ b a, LeO (f b a) (g b a)) : ∀ (l : List α) (b : β), LeO (l.foldlM f b) (l.foldlM g b)
 | [], b => LeO.refl _
 | a :: l, b => by
  rw [List.foldlM_cons, List.foldlM_cons]
  exact LeO.bind (h b a) (fun b' => LeO.foldlM h l b')
theorem nextP_mono (k : Nat) (g : List S62) (rank idom : List Int) (b x : Int) (p : Nat) : LeO (nextP k g rank idom b x p) (nextP (k + 1) g rank idom b x p) := by
 unfold nextP
 repeat' split
 all_goals first | exact LeO.refl _ | exact isect_mono _ _ _ _ _
theorem stepB_mono (k : Nat) (g : List S62) (rank : List Int) (root : Int) (s : List Int × Bool) (b : Int) : LeO (stepB k g rank root s b) (stepB (k + 1) g rank root s b) := by
 unfold stepB
 split
 ·
  exact LeO.refl _
 ·
  exact LeO.bind (LeO.foldlM (fun x p => nextP_mono _ _ _ _ _ _ _) _ _) (fun _ => LeO.refl _)
theorem domL_mono : ∀ (k : Nat) (g : List S62) (rank : List Int) (root : Int) (order idom : List Int), LeO (domL k g rank root order idom) (domL (k + 1) g rank root order idom)
 | 0, _, _, _, _, _ => fun r h => by cases h
 | k + 1, g, rank, root, order, idom => by
  rw [domL, domL]
  refine LeO.bind (LeO.foldlM (fun s b => stepB_mono _ _ _ _ _ _) _ _) (fun s => ?_)
  split
  ·
   exact domL_mono k _ _ _ _ _
  ·
   exact LeO.refl _
theorem vis_mono : ∀ (k : Nat) (g : List S62) (s : List Bool × List Int) (i : Int), LeO (vis k g s i) (vis (k + 1) g s i)
 | 0, _, _, _ => fun r h => by cases h
 | k + 1, g, s, i => by
  rw [vis_succ, vis_succ]
  split
  ·
   refine LeO.bind (LeO.foldlM (fun s j => ?_) _ _) (fun _ => LeO.refl _)
   unfold visStep
   repeat' split
   all_goals first | exact LeO.refl _ | exact vis_mono k _ _ _
  ·
   exact LeO.refl _
theorem flow_dominators.mono : ∀ a0 a1 k, LeO (flow_dominators.f k a0 a1) (flow_dominators.f (k + 1) a0 a1) := by
 intro g root k
 unfold flow_dominators.f
 split
 ·
  refine LeO.bind (vis_mono _ _ _ _) (fun s => ?_)
  split
  ·
   exact domL_mono _ _ _ _ _ _
  ·
   exact LeO.refl _
 ·
  exact LeO.refl _
end Go.Proofs.Ytaellapacoikaaa.PB
