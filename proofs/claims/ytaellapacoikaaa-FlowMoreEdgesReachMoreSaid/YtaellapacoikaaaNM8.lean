import Derived.Test.YtaellapacoikaaaNSBx8
import Derived.Test.YtaellapacoikaaaNM7
namespace Go.Proofs.Ytaellapacoikaaa.PB
open Go.RowKit Go.Proofs.YtaellapacoikaaaW.PrintWords Go.Proofs.YtaellapacoikaaaW.PrintLast Go.Proofs.YtaellapacoikaaaW.PrintMore Dom
set_option linter.unusedVariables false
set_option linter.unusedSimpArgs false
/-! ### the reference's search: rounds over all pairs -/
def markB (g : List S62) (w : Int) (a : Nat) (o : List Bool) (b : Nat) : List Bool := if rdOf false o (a : Int) = true then (if (b : Int) = w then o else if (b : Int) ∈ innerL g (a : Int) then o.set b true else o) else o
def rowF (g : List S62) (w : Int) (a : Nat) (o : List Bool) (b m : Nat) : List Bool := (List.range' b m).foldl (markB g w a) o
def rndF (g : List S62) (w : Int) (o : List Bool) (a m : Nat) : List Bool := (List.range' a m).foldl (fun o a => rowF g w a o 0 g.length) o
def allF (g : List S62) (w : Int) : Nat → List Bool → List Bool
  | 0, o => o
  | m + 1, o => allF g w m (rndF g w o 0 g.length)
theorem markB_len (g : List S62) (w : Int) (a : Nat) (o : List Bool) (b : Nat) : (markB g w a o b).length = o.length := by
  unfold markB
  repeat' split
  all_goals simp
theorem rowF_len (g : List S62) (w : Int) (a : Nat) : ∀ (m b : Nat) (o : List Bool), (rowF g w a o b m).length = o.length
  | 0, b, o => rfl
  | m + 1, b, o => by
    have := rowF_len g w a m (b + 1) (markB g w a o b)
    rw [markB_len] at this
    exact this
theorem rndF_len (g : List S62) (w : Int) : ∀ (m a : Nat) (o : List Bool), (rndF g w o a m).length = o.length
  | 0, b, o => rfl
  | m + 1, a, o => by
    have := rndF_len g w m (a + 1) (rowF g w a o 0 g.length)
    rw [rowF_len] at this
    exact this
theorem rowF_no (g : List S62) (w : Int) (a : Nat) (o : List Bool) (h : ¬ rdOf false o (a : Int) = true) : ∀ (m b : Nat), rowF g w a o b m = o
  | 0, b => rfl
  | m + 1, b => by
    have := rowF_no g w a o h m (b + 1)
    unfold rowF at this ⊢
    rw [List.range'_succ, List.foldl_cons]
    have e : markB g w a o b = o := by unfold markB; rw [if_neg h]
    rw [e]; exact this
section
variable {g : List S62} (G : GV g) (w : Int)
include G
theorem rd_l2 {rr : Nat} {a : Nat} (ha : a < g.length) {r : List Bool} : ∀ (m b : Nat) (o : List Bool), o.length = g.length → b + m = g.length →
    Ev (fun k => linkhouseref7_Reached.l1 k g w (rowF g w a o b m) (rr : Int) ((a + 1 : Nat) : Int)) r → Ev (fun k => linkhouseref7_Reached.l2 k g w o (rr : Int) (a : Int) (b : Int)) r := by
  have hl := G.len
  have wa : wrap64 ((a : Int) + 1) = ((a + 1 : Nat) : Int) := ws (Nat.le_of_lt ha) (Nat.le_trans hl (by decide))
  intro m
  induction m with
  | zero =>
    intro b o ho hb h
    have hb' : ¬ ((b : Int) < (g.length : Int)) := by clear wa; omega
    refine Ev.step (fun k => by rw [linkhouseref7_Reached.l2, if_neg hb']) ?_
    exact Ev.step (fun k => by rw [linkhouseref7_Reached.j3, if_neg (by decide), wa]; rfl) h
  | succ m ih =>
    intro b o ho hb h
    have b1 : (b : Int) < (g.length : Int) := by clear wa; omega
    have a0 : (0 : Int) ≤ (a : Int) := by clear wa; omega
    have a1 : (a : Int) < (o.length : Int) := by clear wa; omega
    have a2 : (a : Int) < (g.length : Int) := by clear wa; omega
    have b0 : (0 : Int) ≤ (b : Int) := by clear wa; omega
    have b2 : (b : Int) < (o.length : Int) := by clear wa; omega
    have hblt : b ≤ g.length := by clear wa; omega
    have wb : wrap64 ((b : Int) + 1) = ((b + 1 : Nat) : Int) := ws hblt (Nat.le_trans hl (by decide))
    refine Ev.step (fun k => by rw [linkhouseref7_Reached.l2, if_pos b1, if_pos a0, if_pos a1]) ?_
    have hrow : rowF g w a o b (m + 1) = rowF g w a (markB g w a o b) (b + 1) m := by unfold rowF; rw [List.range'_succ, List.foldl_cons]
    have hbm : b + 1 + m = g.length := by clear wa wb; omega
    by_cases c : rdOf false o (a : Int) = true
    · have next := ih (b + 1) (markB g w a o b) ((markB_len _ _ _ _ _).trans ho) hbm (by rw [hrow] at h; exact h)
      by_cases c2 : (b : Int) = w
      · have e : markB g w a o b = o := by unfold markB; rw [if_pos c, if_pos c2]
        rw [e] at next
        exact Ev.step (fun k => by rw [linkhouseref7_Reached.j3, if_pos c, if_pos c2, wb]) next
      · have hL := leads_f G a0 a2 (b : Int)
        by_cases c3 : (b : Int) ∈ innerL g (a : Int)
        · have e : markB g w a o b = o.set b true := by unfold markB; rw [if_pos c, if_neg c2, if_pos c3]
          rw [e] at next
          rw [decide_eq_true c3] at hL
          refine Ev.step (fun k => by rw [linkhouseref7_Reached.j3, if_pos c, if_neg c2]) (Ev.bind hL ?_)
          refine Ev.congr (fun k => ?_) next
          rw [if_pos rfl, if_pos b0, if_pos b2, wb, Int.toNat_natCast]
        · have e : markB g w a o b = o := by unfold markB; rw [if_pos c, if_neg c2, if_neg c3]
          rw [e] at next
          rw [decide_eq_false c3] at hL
          refine Ev.step (fun k => by rw [linkhouseref7_Reached.j3, if_pos c, if_neg c2]) (Ev.bind hL ?_)
          refine Ev.congr (fun k => ?_) next
          rw [if_neg (by decide), wb]
    · rw [rowF_no g w a o c] at h
      exact Ev.step (fun k => by rw [linkhouseref7_Reached.j3, if_neg c, wa]) h
theorem rd_l1 {rr : Nat} (hrr : rr < g.length) {r : List Bool} : ∀ (m a : Nat) (o : List Bool), o.length = g.length → a + m = g.length →
    Ev (fun k => linkhouseref7_Reached.l0 k g w (rndF g w o a m) ((rr + 1 : Nat) : Int)) r → Ev (fun k => linkhouseref7_Reached.l1 k g w o (rr : Int) (a : Int)) r := by
  have hl := G.len
  have wr : wrap64 ((rr : Int) + 1) = ((rr + 1 : Nat) : Int) := ws (Nat.le_of_lt hrr) (Nat.le_trans hl (by decide))
  intro m
  induction m with
  | zero =>
    intro a o ho ha h
    have ha' : ¬ ((a : Int) < (g.length : Int)) := by clear wr; omega
    exact Ev.step (fun k => by rw [linkhouseref7_Reached.l1, if_neg ha', wr]; rfl) h
  | succ m ih =>
    intro a o ho ha h
    have a1 : (a : Int) < (g.length : Int) := by clear wr; omega
    have ha' : a < g.length := by clear wr; omega
    have ham : a + 1 + m = g.length := by clear wr; omega
    have hrnd : rndF g w o a (m + 1) = rndF g w (rowF g w a o 0 g.length) (a + 1) m := by unfold rndF; rw [List.range'_succ, List.foldl_cons]
    rw [hrnd] at h
    have next := ih (a + 1) (rowF g w a o 0 g.length) ((rowF_len _ _ _ _ _ _).trans ho) ham h
    exact Ev.step (fun k => by rw [linkhouseref7_Reached.l1, if_pos a1]; rfl) (rd_l2 G w ha' g.length 0 o ho (Nat.zero_add _) next)
theorem rd_l0 : ∀ (m rr : Nat) (o : List Bool), o.length = g.length → rr + m = g.length → Ev (fun k => linkhouseref7_Reached.l0 k g w o (rr : Int)) (allF g w m o) := by
  intro m
  induction m with
  | zero =>
    intro rr o ho hr
    exact Ev.step (fun k => by rw [linkhouseref7_Reached.l0, if_neg (by omega)]; rfl) (Ev.now _)
  | succ m ih =>
    intro rr o ho hr
    have next := ih (rr + 1) (rndF g w o 0 g.length) ((rndF_len _ _ _ _ _).trans ho) (by omega)
    exact Ev.step (fun k => by rw [linkhouseref7_Reached.l0, if_pos (by omega)]; rfl) (rd_l1 G w (by omega) g.length 0 o ho (Nat.zero_add _) next)
end
/-! ### what the rounds find -/
/-- o2 has all marks of o1 and no mark that is not earned -/
structure Gr (g : List S62) (w from_ : Int) (o1 o2 : List Bool) : Prop where
  len : o2.length = o1.length
  more : ∀ x, Sn o1 x → Sn o2 x
  ok : (∀ x, Sn o1 x → Rch (Ed g) w from_ x) → ∀ x, Sn o2 x → Rch (Ed g) w from_ x
  cnt : o2 = o1 ∨ cntF o2 < cntF o1
theorem Gr.refl {g : List S62} {w f : Int} (o : List Bool) : Gr g w f o o := ⟨rfl, fun _ h => h, fun h => h, .inl rfl⟩
theorem Gr.trans {g : List S62} {w f : Int} {o1 o2 o3 : List Bool} (h : Gr g w f o1 o2) (k : Gr g w f o2 o3) : Gr g w f o1 o3 :=
  ⟨k.len.trans h.len, fun x hx => k.more x (h.more x hx), fun hx => k.ok (h.ok hx), by
    rcases h.cnt with h | h <;> rcases k.cnt with k | k
    · exact .inl (k.trans h)
    · exact .inr (by rw [h] at k; exact k)
    · exact .inr (by rw [k]; exact h)
    · exact .inr (by omega)⟩
theorem markB_gr {g : List S62} {w f : Int} {a : Nat} (ha : a < g.length) (o : List Bool) (ho : o.length = g.length) {b : Nat} (hb : b < g.length) : Gr g w f o (markB g w a o b) ∧ (Sn o (a : Int) → Ed g (a : Int) (b : Int) → (b : Int) ≠ w → Sn (markB g w a o b) (b : Int)) := by
  unfold markB
  by_cases c : rdOf false o (a : Int) = true
  · rw [if_pos c]
    by_cases c2 : (b : Int) = w
    · rw [if_pos c2]; exact ⟨Gr.refl _, fun _ _ h => absurd c2 h⟩
    · rw [if_neg c2]
      by_cases c3 : (b : Int) ∈ innerL g (a : Int)
      · rw [if_pos c3]
        have b0 : (0 : Int) ≤ (b : Int) := by omega
        have b1 : (b : Int) < (o.length : Int) := by omega
        have hset := Sn.set b0 b1
        have hsa : Sn o (a : Int) := ⟨by omega, by omega, c⟩
        rw [Int.toNat_natCast] at hset
        refine ⟨⟨by simp, fun x hx => (hset x).2 (.inr hx), fun hx x h => ?_, ?_⟩, fun _ _ _ => (hset _).2 (.inl rfl)⟩
        · rcases (hset x).1 h with h | h
          · rw [h]; exact Rch.step (hx _ hsa) ⟨by omega, by omega, c3⟩ c2
          · exact hx x h
        · by_cases c4 : Sn o (b : Int)
          · left
            refine List.ext_getElem (by simp) fun i h1 h2 => ?_
            rw [List.getElem_set]
            split
            · rename_i e
              subst e
              have := c4.2.2
              rw [rdB h2] at this
              exact this.symm
            · rfl
          · right
            have := cntF_set b0 b1 c4
            rw [Int.toNat_natCast] at this
            omega
      · rw [if_neg c3]; exact ⟨Gr.refl _, fun _ h => absurd h.2.2 c3⟩
  · rw [if_neg c]; exact ⟨Gr.refl _, fun h => absurd h.2.2 c⟩
theorem rowF_gr {g : List S62} {w f : Int} {a : Nat} (ha : a < g.length) : ∀ (m b : Nat) (o : List Bool), o.length = g.length → b + m = g.length →
    Gr g w f o (rowF g w a o b m) ∧ (Sn o (a : Int) → ∀ y : Int, (b : Int) ≤ y → Ed g (a : Int) y → y < (g.length : Int) → y ≠ w → Sn (rowF g w a o b m) y)
  | 0, b, o, ho, hb => ⟨Gr.refl _, fun _ y h1 _ h2 => by omega⟩
  | m + 1, b, o, ho, hb => by
    obtain ⟨h1, h2⟩ := markB_gr (g := g) (w := w) (f := f) ha o ho (b := b) (by omega)
    obtain ⟨h3, h4⟩ := rowF_gr (f := f) ha m (b + 1) (markB g w a o b) ((markB_len _ _ _ _ _).trans ho) (by omega)
    have e : rowF g w a o b (m + 1) = rowF g w a (markB g w a o b) (b + 1) m := by unfold rowF; rw [List.range'_succ, List.foldl_cons]
    rw [e]
    refine ⟨h1.trans h3, fun hs y hy hE hy2 hw => ?_⟩
    by_cases c : y = (b : Int)
    · subst c; exact h3.more _ (h2 hs hE hw)
    · exact h4 (h1.more _ hs) y (by omega) hE hy2 hw
theorem rndF_gr {g : List S62} {w f : Int} : ∀ (m a : Nat) (o : List Bool), o.length = g.length → a + m = g.length →
    Gr g w f o (rndF g w o a m) ∧ (∀ x y : Int, (a : Int) ≤ x → Sn o x → Ed g x y → y < (g.length : Int) → y ≠ w → Sn (rndF g w o a m) y)
  | 0, a, o, ho, ha => ⟨Gr.refl _, fun x y h1 hs _ _ => by have := hs.2.1; omega⟩
  | m + 1, a, o, ho, ha => by
    obtain ⟨h1, h2⟩ := rowF_gr (g := g) (w := w) (f := f) (a := a) (by omega) g.length 0 o ho (Nat.zero_add _)
    obtain ⟨h3, h4⟩ := rndF_gr (w := w) (f := f) m (a + 1) (rowF g w a o 0 g.length) ((rowF_len _ _ _ _ _ _).trans ho) (by omega)
    have e : rndF g w o a (m + 1) = rndF g w (rowF g w a o 0 g.length) (a + 1) m := by unfold rndF; rw [List.range'_succ, List.foldl_cons]
    rw [e]
    refine ⟨h1.trans h3, fun x y hx hs hE hy hw => ?_⟩
    by_cases c : x = (a : Int)
    · subst c; exact h3.more _ (h2 hs y hE.pos hE hy hw)
    · exact h4 x y (by omega) (h1.more _ hs) hE hy hw
theorem allF_rs {g : List S62} (G : GV g) {w f : Int} : ∀ (m : Nat) (o : List Bool), o.length = g.length → Sn o f → (∀ x, Sn o x → Rch (Ed g) w f x) → ((∀ x y, Sn o x → Ed g x y → y ≠ w → Sn o y) ∨ cntF o < m) → Rs g w f (allF g w m o)
  | 0, o, ho, hf, hx, hc => by
    refine ⟨ho, fun x => ⟨hx x, fun h => ?_⟩⟩
    have hc := hc.resolve_right (by omega)
    induction h with
    | refl _ => exact hf
    | step _ e n ih => exact hc _ _ ih e n
  | m + 1, o, ho, hf, hx, hc => by
    obtain ⟨h1, h2⟩ := rndF_gr (g := g) (w := w) (f := f) g.length 0 o ho (Nat.zero_add _)
    refine allF_rs G m (rndF g w o 0 g.length) (h1.len.trans ho) (h1.more _ hf) (h1.ok hx) ?_
    have key : ∀ x y, Sn o x → Ed g x y → y ≠ w → Sn (rndF g w o 0 g.length) y := fun x y hs hE hw => h2 x y hs.1 hs hE (G.gok.into x y hE) hw
    rcases h1.cnt with e | e
    · left; rw [e] at key ⊢; exact key
    · rcases hc with hc | hc
      · left
        intro x y hs hE hw
        have hx' : Sn o x := by
          have all : ∀ z, Rch (Ed g) w f z → Sn o z := fun z hz => by
            induction hz with
            | refl _ => exact hf
            | step _ e n ih => exact hc _ _ ih e n
          exact all x (h1.ok hx x hs)
        exact key x y hx' hE hw
      · right; omega
theorem reached_f {g : List S62} (G : GV g) {from_ : Int} (h0 : 0 ≤ from_) (h1 : from_ < (g.length : Int)) (w : Int) : ∃ r, Ev (fun k => linkhouseref7_Reached.f k g from_ w) r ∧ Rs g w from_ r := by
  have hl := G.len
  have z0 : (0 : Int) ≤ (g.length : Int) := by omega
  have z1 : ((g.length : Int) : Int).toNat ≤ 281474976710656 := by omega
  by_cases c : from_ = w
  · refine ⟨List.replicate g.length false, Ev.congr (fun k => ?_) (Ev.now _), by simp, fun x => ⟨fun h => absurd h (no_rep x), fun h => absurd c h.head⟩⟩
    rw [linkhouseref7_Reached.f, if_pos z0, if_pos z1, Option.bind_some, if_pos c]
    simp
  · have hset := Sn.set (l := List.replicate g.length false) h0 (by simp; exact h1)
    have hc0 : cntF (List.replicate g.length false) = g.length := by unfold cntF; simp
    have hc1 := cntF_set (l := List.replicate g.length false) h0 (by simp; exact h1) (no_rep _)
    have hR := rd_l0 G w g.length 0 ((List.replicate g.length false).set from_.toNat true) (by simp) (Nat.zero_add _)
    refine ⟨_, Ev.congr (fun k => ?_) hR, allF_rs G g.length _ (by simp) ((hset _).2 (.inl rfl)) (fun x hx => ?_) (.inr (by omega))⟩
    · rw [linkhouseref7_Reached.f, if_pos z0, if_pos z1, Option.bind_some, if_neg c, if_pos h0, if_pos (by simp; exact h1)]
      simp
    · rcases (hset x).1 hx with h | h
      · rw [h]; exact Rch.refl c
      · exact absurd h (no_rep x)
end Go.Proofs.Ytaellapacoikaaa.PB
