/-
  No cell of these rows narrows 'for every input' (looked for: loops, veiled, ifaces, maps, wideKeys, modest, calm, conditions, laid).
  DERIVED. THE GIVEN ROWS OF THIS SEAT. 8 by the template 'for every input the law returns true; each argument reads behind the call as it read before'; 0 by the template 'total and deterministic' (their statements: YtaellapacoikaaaTotals.lean).
  GIVEN WITH THE SEED: the statements are not yours to turn. If you find one false, say at which input.
  Laid BY PROGRAM, IN A SANDBOX (cutbox-rows.mjs): the forced cells as the released guide's own fill.sh prints them over the translation 2444845f1a3f02a3… (all of the seat's roots in one cut). By AI agents, Wed Nov 11 2026. No macro, syntax, notation, axiom, sorry.
-/
import Derived.Test.YtaellapacoikaaaChecked
import GoSem.Claim
import GoSem.ClaimJoined
import GoSem.ClaimMapViews
import Derived.JoinedTies
import Derived.KernelRfl
namespace Go.Proofs.Ytaellapacoikaaa
/- THE CELL 'sum', in the pinned program and in every row, IS THE sha256 OF THE DUMP (.gsa) THAT YtaellapacoikaaaProg.lean LOADS. Nothing in Lean hashes anything: it is a label: what it is worth is what the hold of that sum in a sandbox is worth. -/
noncomputable def Try.pinned : Pinned := { name := "ytaellapacoikaaa", sum := "2444845f1a3f02a33481de6458477a206f95dfc726ad0615fd37e0e1372ad9b8", checked := Try.checked }
namespace Rows
def none {H : Type} : Left H := { results := [], args := [] }

/-- 'linkhouselaw7.EffectsMatchSpec': WHATEVER THE INPUT: true; the input reads as it did. -/
def effectsMatchSpecSpec : ChangeSpec := { name := "effectsMatchSpec", fn := fun _ => fun
  | [d] => { results := [.lit (.bool true)], args := [d] }
  | _ => none }
def effectsMatchSpecRow : OpenClaim := { program := "ytaellapacoikaaa", sum := "2444845f1a3f02a33481de6458477a206f95dfc726ad0615fd37e0e1372ad9b8", func := "linkhouse/linkhouselaw7.EffectsMatchSpec", spec := "effectsMatchSpec", unfollowed := true, recurses := true, apart := false }
def EffectsMatchSpecSaid : Prop := effectsMatchSpecRow.holds Try.pinned (OpenSpec.ofChange effectsMatchSpecSpec)

/-- ITS FALSE NEIGHBOUR: 'it returns false'. Refute it at one input. -/
def effectsMatchSpecWrong : ChangeSpec := { name := "effectsMatchSpec", fn := fun _ => fun
  | [d] => { results := [.lit (.bool false)], args := [d] }
  | _ => none }
def EffectsMatchSpecWrongFalsely : Prop := effectsMatchSpecRow.holds Try.pinned (OpenSpec.ofChange effectsMatchSpecWrong)

/-- 'linkhouselaw7.EffectsDeadMatchesSpec': WHATEVER THE INPUT: true; the input reads as it did. -/
def effectsDeadMatchesSpecSpec : ChangeSpec := { name := "effectsDeadMatchesSpec", fn := fun _ => fun
  | [d1, d2] => { results := [.lit (.bool true)], args := [d1, d2] }
  | _ => none }
def effectsDeadMatchesSpecRow : OpenClaim := { program := "ytaellapacoikaaa", sum := "2444845f1a3f02a33481de6458477a206f95dfc726ad0615fd37e0e1372ad9b8", func := "linkhouse/linkhouselaw7.EffectsDeadMatchesSpec", spec := "effectsDeadMatchesSpec", unfollowed := true, recurses := true, apart := false }
def EffectsDeadMatchesSpecSaid : Prop := effectsDeadMatchesSpecRow.holds Try.pinned (OpenSpec.ofChange effectsDeadMatchesSpecSpec)

/-- ITS FALSE NEIGHBOUR: 'it returns false'. Refute it at one input. -/
def effectsDeadMatchesSpecWrong : ChangeSpec := { name := "effectsDeadMatchesSpec", fn := fun _ => fun
  | [d1, d2] => { results := [.lit (.bool false)], args := [d1, d2] }
  | _ => none }
def EffectsDeadMatchesSpecWrongFalsely : Prop := effectsDeadMatchesSpecRow.holds Try.pinned (OpenSpec.ofChange effectsDeadMatchesSpecWrong)

/-- 'linkhouselaw7.FlowDominatorsMatchSpec': WHATEVER THE INPUT: true; the input reads as it did. -/
def flowDominatorsMatchSpecSpec : ChangeSpec := { name := "flowDominatorsMatchSpec", fn := fun _ => fun
  | [d1, d2] => { results := [.lit (.bool true)], args := [d1, d2] }
  | _ => none }
def flowDominatorsMatchSpecRow : OpenClaim := { program := "ytaellapacoikaaa", sum := "2444845f1a3f02a33481de6458477a206f95dfc726ad0615fd37e0e1372ad9b8", func := "linkhouse/linkhouselaw7.FlowDominatorsMatchSpec", spec := "flowDominatorsMatchSpec", unfollowed := true, recurses := true, apart := false }
def FlowDominatorsMatchSpecSaid : Prop := flowDominatorsMatchSpecRow.holds Try.pinned (OpenSpec.ofChange flowDominatorsMatchSpecSpec)

/-- ITS FALSE NEIGHBOUR: 'it returns false'. Refute it at one input. -/
def flowDominatorsMatchSpecWrong : ChangeSpec := { name := "flowDominatorsMatchSpec", fn := fun _ => fun
  | [d1, d2] => { results := [.lit (.bool false)], args := [d1, d2] }
  | _ => none }
def FlowDominatorsMatchSpecWrongFalsely : Prop := flowDominatorsMatchSpecRow.holds Try.pinned (OpenSpec.ofChange flowDominatorsMatchSpecWrong)

/-- 'linkhouselaw7.FlowLoopsMatchSpec': WHATEVER THE INPUT: true; the input reads as it did. -/
def flowLoopsMatchSpecSpec : ChangeSpec := { name := "flowLoopsMatchSpec", fn := fun _ => fun
  | [d1, d2] => { results := [.lit (.bool true)], args := [d1, d2] }
  | _ => none }
def flowLoopsMatchSpecRow : OpenClaim := { program := "ytaellapacoikaaa", sum := "2444845f1a3f02a33481de6458477a206f95dfc726ad0615fd37e0e1372ad9b8", func := "linkhouse/linkhouselaw7.FlowLoopsMatchSpec", spec := "flowLoopsMatchSpec", unfollowed := true, recurses := true, apart := false }
def FlowLoopsMatchSpecSaid : Prop := flowLoopsMatchSpecRow.holds Try.pinned (OpenSpec.ofChange flowLoopsMatchSpecSpec)

/-- ITS FALSE NEIGHBOUR: 'it returns false'. Refute it at one input. -/
def flowLoopsMatchSpecWrong : ChangeSpec := { name := "flowLoopsMatchSpec", fn := fun _ => fun
  | [d1, d2] => { results := [.lit (.bool false)], args := [d1, d2] }
  | _ => none }
def FlowLoopsMatchSpecWrongFalsely : Prop := flowLoopsMatchSpecRow.holds Try.pinned (OpenSpec.ofChange flowLoopsMatchSpecWrong)

/-- 'linkhouselaw7.FlowMatchesSpec': WHATEVER THE INPUT: true; the input reads as it did. -/
def flowMatchesSpecSpec : ChangeSpec := { name := "flowMatchesSpec", fn := fun _ => fun
  | [d1, d2] => { results := [.lit (.bool true)], args := [d1, d2] }
  | _ => none }
def flowMatchesSpecRow : OpenClaim := { program := "ytaellapacoikaaa", sum := "2444845f1a3f02a33481de6458477a206f95dfc726ad0615fd37e0e1372ad9b8", func := "linkhouse/linkhouselaw7.FlowMatchesSpec", spec := "flowMatchesSpec", unfollowed := true, recurses := true, apart := false }
def FlowMatchesSpecSaid : Prop := flowMatchesSpecRow.holds Try.pinned (OpenSpec.ofChange flowMatchesSpecSpec)

/-- ITS FALSE NEIGHBOUR: 'it returns false'. Refute it at one input. -/
def flowMatchesSpecWrong : ChangeSpec := { name := "flowMatchesSpec", fn := fun _ => fun
  | [d1, d2] => { results := [.lit (.bool false)], args := [d1, d2] }
  | _ => none }
def FlowMatchesSpecWrongFalsely : Prop := flowMatchesSpecRow.holds Try.pinned (OpenSpec.ofChange flowMatchesSpecWrong)

/-- 'linkhouselaw7.FlowDominatorsSeparate': WHATEVER THE INPUT: true; the input reads as it did. -/
def flowDominatorsSeparateSpec : ChangeSpec := { name := "flowDominatorsSeparate", fn := fun _ => fun
  | [d1, d2, d3] => { results := [.lit (.bool true)], args := [d1, d2, d3] }
  | _ => none }
def flowDominatorsSeparateRow : OpenClaim := { program := "ytaellapacoikaaa", sum := "2444845f1a3f02a33481de6458477a206f95dfc726ad0615fd37e0e1372ad9b8", func := "linkhouse/linkhouselaw7.FlowDominatorsSeparate", spec := "flowDominatorsSeparate", unfollowed := true, recurses := true, apart := false }
def FlowDominatorsSeparateSaid : Prop := flowDominatorsSeparateRow.holds Try.pinned (OpenSpec.ofChange flowDominatorsSeparateSpec)

/-- ITS FALSE NEIGHBOUR: 'it returns false'. Refute it at one input. -/
def flowDominatorsSeparateWrong : ChangeSpec := { name := "flowDominatorsSeparate", fn := fun _ => fun
  | [d1, d2, d3] => { results := [.lit (.bool false)], args := [d1, d2, d3] }
  | _ => none }
def FlowDominatorsSeparateWrongFalsely : Prop := flowDominatorsSeparateRow.holds Try.pinned (OpenSpec.ofChange flowDominatorsSeparateWrong)

/-- 'linkhouselaw7.FlowLoopsAreEnteredAtHeads': WHATEVER THE INPUT: true; the input reads as it did. -/
def flowLoopsAreEnteredAtHeadsSpec : ChangeSpec := { name := "flowLoopsAreEnteredAtHeads", fn := fun _ => fun
  | [d1, d2, d3, d4] => { results := [.lit (.bool true)], args := [d1, d2, d3, d4] }
  | _ => none }
def flowLoopsAreEnteredAtHeadsRow : OpenClaim := { program := "ytaellapacoikaaa", sum := "2444845f1a3f02a33481de6458477a206f95dfc726ad0615fd37e0e1372ad9b8", func := "linkhouse/linkhouselaw7.FlowLoopsAreEnteredAtHeads", spec := "flowLoopsAreEnteredAtHeads", unfollowed := true, recurses := true, apart := false }
def FlowLoopsAreEnteredAtHeadsSaid : Prop := flowLoopsAreEnteredAtHeadsRow.holds Try.pinned (OpenSpec.ofChange flowLoopsAreEnteredAtHeadsSpec)

/-- ITS FALSE NEIGHBOUR: 'it returns false'. Refute it at one input. -/
def flowLoopsAreEnteredAtHeadsWrong : ChangeSpec := { name := "flowLoopsAreEnteredAtHeads", fn := fun _ => fun
  | [d1, d2, d3, d4] => { results := [.lit (.bool false)], args := [d1, d2, d3, d4] }
  | _ => none }
def FlowLoopsAreEnteredAtHeadsWrongFalsely : Prop := flowLoopsAreEnteredAtHeadsRow.holds Try.pinned (OpenSpec.ofChange flowLoopsAreEnteredAtHeadsWrong)

/-- 'linkhouselaw7.FlowMoreEdgesReachMore': WHATEVER THE INPUT: true; the input reads as it did. -/
def flowMoreEdgesReachMoreSpec : ChangeSpec := { name := "flowMoreEdgesReachMore", fn := fun _ => fun
  | [d1, d2, d3, d4] => { results := [.lit (.bool true)], args := [d1, d2, d3, d4] }
  | _ => none }
def flowMoreEdgesReachMoreRow : OpenClaim := { program := "ytaellapacoikaaa", sum := "2444845f1a3f02a33481de6458477a206f95dfc726ad0615fd37e0e1372ad9b8", func := "linkhouse/linkhouselaw7.FlowMoreEdgesReachMore", spec := "flowMoreEdgesReachMore", unfollowed := true, recurses := true, apart := false }
def FlowMoreEdgesReachMoreSaid : Prop := flowMoreEdgesReachMoreRow.holds Try.pinned (OpenSpec.ofChange flowMoreEdgesReachMoreSpec)

/-- ITS FALSE NEIGHBOUR: 'it returns false'. Refute it at one input. -/
def flowMoreEdgesReachMoreWrong : ChangeSpec := { name := "flowMoreEdgesReachMore", fn := fun _ => fun
  | [d1, d2, d3, d4] => { results := [.lit (.bool false)], args := [d1, d2, d3, d4] }
  | _ => none }
def FlowMoreEdgesReachMoreWrongFalsely : Prop := flowMoreEdgesReachMoreRow.holds Try.pinned (OpenSpec.ofChange flowMoreEdgesReachMoreWrong)

/- THE SECOND FORM. 'bulk': how many values and letters a reading holds, each counted each time it is reached (what is shared counts as often as it is met; a slice's spare places count too). A statement '..UptoSaid' is the law's where the arguments, and the package variables that the reading takes, are together of bulk at most 1048576: NARROWER than '..Said'. Prove '..Said' where nothing that the law and all that it calls make is longer than what came in: it says more and counts as full. Else prove '..UptoSaid'. A law counts once. -/
mutual
def uptoBulk {H : Type} : DataW H → Nat
  | .lit (.string bytes) => bytes.length + 1
  | .lit _ => 1
  | .nil => 1
  | .ptr d => uptoBulk d + 1
  | .slice elems spare => uptoBulkAll elems + uptoBulkAll spare + 1
  | .agg parts => uptoBulkAll parts + 1
  | .iface _ d => uptoBulk d + 1
  | .map entries => uptoBulkEntries entries + 1
  | .held _ => 1
def uptoBulkAll {H : Type} : List (DataW H) → Nat
  | [] => 0
  | d :: r => uptoBulk d + uptoBulkAll r
def uptoBulkEntries {H : Type} : List (Lit × DataW H) → Nat
  | [] => 0
  | x :: r => uptoBulkEntry x + uptoBulkEntries r
def uptoBulkEntry {H : Type} : Lit × DataW H → Nat
  | (.string bytes, d) => bytes.length + uptoBulk d + 1
  | (_, d) => uptoBulk d + 1
 end
def uptoSmall : (H : Type) → List (DataW H) → Bool := fun _ ds => decide (uptoBulkAll ds ≤ 1048576)
def OpenSpec.upto (s : _root_.Go.ChangeSpec) : _root_.Go.OpenSpec := { _root_.Go.OpenSpec.ofChange s with cond := some uptoSmall }

/-- 'linkhouselaw7.EffectsMatchSpec', WHERE WHAT IT READS IS OF BULK AT MOST 1048576: true; the input reads as it did. -/
def effectsMatchSpecUptoRow : OpenClaim := { program := "ytaellapacoikaaa", sum := "2444845f1a3f02a33481de6458477a206f95dfc726ad0615fd37e0e1372ad9b8", func := "linkhouse/linkhouselaw7.EffectsMatchSpec", spec := "effectsMatchSpec", unfollowed := true, recurses := true, apart := false, narrowed := true }
def EffectsMatchSpecUptoSaid : Prop := effectsMatchSpecUptoRow.holds Try.pinned (OpenSpec.upto effectsMatchSpecSpec)

/-- 'linkhouselaw7.EffectsDeadMatchesSpec', WHERE WHAT IT READS IS OF BULK AT MOST 1048576: true; the input reads as it did. -/
def effectsDeadMatchesSpecUptoRow : OpenClaim := { program := "ytaellapacoikaaa", sum := "2444845f1a3f02a33481de6458477a206f95dfc726ad0615fd37e0e1372ad9b8", func := "linkhouse/linkhouselaw7.EffectsDeadMatchesSpec", spec := "effectsDeadMatchesSpec", unfollowed := true, recurses := true, apart := false, narrowed := true }
def EffectsDeadMatchesSpecUptoSaid : Prop := effectsDeadMatchesSpecUptoRow.holds Try.pinned (OpenSpec.upto effectsDeadMatchesSpecSpec)

/-- 'linkhouselaw7.FlowDominatorsMatchSpec', WHERE WHAT IT READS IS OF BULK AT MOST 1048576: true; the input reads as it did. -/
def flowDominatorsMatchSpecUptoRow : OpenClaim := { program := "ytaellapacoikaaa", sum := "2444845f1a3f02a33481de6458477a206f95dfc726ad0615fd37e0e1372ad9b8", func := "linkhouse/linkhouselaw7.FlowDominatorsMatchSpec", spec := "flowDominatorsMatchSpec", unfollowed := true, recurses := true, apart := false, narrowed := true }
def FlowDominatorsMatchSpecUptoSaid : Prop := flowDominatorsMatchSpecUptoRow.holds Try.pinned (OpenSpec.upto flowDominatorsMatchSpecSpec)

/-- 'linkhouselaw7.FlowLoopsMatchSpec', WHERE WHAT IT READS IS OF BULK AT MOST 1048576: true; the input reads as it did. -/
def flowLoopsMatchSpecUptoRow : OpenClaim := { program := "ytaellapacoikaaa", sum := "2444845f1a3f02a33481de6458477a206f95dfc726ad0615fd37e0e1372ad9b8", func := "linkhouse/linkhouselaw7.FlowLoopsMatchSpec", spec := "flowLoopsMatchSpec", unfollowed := true, recurses := true, apart := false, narrowed := true }
def FlowLoopsMatchSpecUptoSaid : Prop := flowLoopsMatchSpecUptoRow.holds Try.pinned (OpenSpec.upto flowLoopsMatchSpecSpec)

/-- 'linkhouselaw7.FlowMatchesSpec', WHERE WHAT IT READS IS OF BULK AT MOST 1048576: true; the input reads as it did. -/
def flowMatchesSpecUptoRow : OpenClaim := { program := "ytaellapacoikaaa", sum := "2444845f1a3f02a33481de6458477a206f95dfc726ad0615fd37e0e1372ad9b8", func := "linkhouse/linkhouselaw7.FlowMatchesSpec", spec := "flowMatchesSpec", unfollowed := true, recurses := true, apart := false, narrowed := true }
def FlowMatchesSpecUptoSaid : Prop := flowMatchesSpecUptoRow.holds Try.pinned (OpenSpec.upto flowMatchesSpecSpec)

/-- 'linkhouselaw7.FlowDominatorsSeparate', WHERE WHAT IT READS IS OF BULK AT MOST 1048576: true; the input reads as it did. -/
def flowDominatorsSeparateUptoRow : OpenClaim := { program := "ytaellapacoikaaa", sum := "2444845f1a3f02a33481de6458477a206f95dfc726ad0615fd37e0e1372ad9b8", func := "linkhouse/linkhouselaw7.FlowDominatorsSeparate", spec := "flowDominatorsSeparate", unfollowed := true, recurses := true, apart := false, narrowed := true }
def FlowDominatorsSeparateUptoSaid : Prop := flowDominatorsSeparateUptoRow.holds Try.pinned (OpenSpec.upto flowDominatorsSeparateSpec)

/-- 'linkhouselaw7.FlowLoopsAreEnteredAtHeads', WHERE WHAT IT READS IS OF BULK AT MOST 1048576: true; the input reads as it did. -/
def flowLoopsAreEnteredAtHeadsUptoRow : OpenClaim := { program := "ytaellapacoikaaa", sum := "2444845f1a3f02a33481de6458477a206f95dfc726ad0615fd37e0e1372ad9b8", func := "linkhouse/linkhouselaw7.FlowLoopsAreEnteredAtHeads", spec := "flowLoopsAreEnteredAtHeads", unfollowed := true, recurses := true, apart := false, narrowed := true }
def FlowLoopsAreEnteredAtHeadsUptoSaid : Prop := flowLoopsAreEnteredAtHeadsUptoRow.holds Try.pinned (OpenSpec.upto flowLoopsAreEnteredAtHeadsSpec)

/-- 'linkhouselaw7.FlowMoreEdgesReachMore', WHERE WHAT IT READS IS OF BULK AT MOST 1048576: true; the input reads as it did. -/
def flowMoreEdgesReachMoreUptoRow : OpenClaim := { program := "ytaellapacoikaaa", sum := "2444845f1a3f02a33481de6458477a206f95dfc726ad0615fd37e0e1372ad9b8", func := "linkhouse/linkhouselaw7.FlowMoreEdgesReachMore", spec := "flowMoreEdgesReachMore", unfollowed := true, recurses := true, apart := false, narrowed := true }
def FlowMoreEdgesReachMoreUptoSaid : Prop := flowMoreEdgesReachMoreUptoRow.holds Try.pinned (OpenSpec.upto flowMoreEdgesReachMoreSpec)

end Rows
end Go.Proofs.Ytaellapacoikaaa
