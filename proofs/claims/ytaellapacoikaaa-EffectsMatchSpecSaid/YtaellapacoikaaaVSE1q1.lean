import Derived.Test.YtaellapacoikaaaVSE1
namespace Go.Proofs.Ytaellapacoikaaa.PA
open Go.RowKit Go.Proofs.YtaellapacoikaaaW.PrintWords Go.Proofs.YtaellapacoikaaaW.PrintLast Go.Proofs.YtaellapacoikaaaW.PrintMore
set_option linter.unusedVariables false
set_option linter.unusedSimpArgs false
set_option maxRecDepth 100000 in
theorem sameF1  : sameE 700 1 [] = true := by
  kernel_rfl
set_option maxRecDepth 100000 in
theorem sameF5  : sameE 700 5 [] = true := by
  kernel_rfl
set_option maxRecDepth 100000 in
theorem sameF9  (a : Nat) (ha : a < 8) (b : Nat) (hb : b < 8) : sameE 700 9 [(a : Int), (b : Int)] = true := by
  have h : ((List.range 8).all fun (a : Nat) => (List.range 8).all fun (b : Nat) => sameE 700 9 [(a : Int), (b : Int)]) = true := by kernel_rfl
  exact (all8 (all8 h a ha) b hb)
set_option maxRecDepth 100000 in
theorem sameF13  (a : Nat) (ha : a < 8) (b : Nat) (hb : b < 8) : sameE 700 13 [(a : Int), (b : Int)] = true := by
  have h : ((List.range 8).all fun (a : Nat) => (List.range 8).all fun (b : Nat) => sameE 700 13 [(a : Int), (b : Int)]) = true := by kernel_rfl
  exact (all8 (all8 h a ha) b hb)
set_option maxRecDepth 100000 in
theorem sameF17  (a : Nat) (ha : a < 8) (b : Nat) (hb : b < 8) : sameE 700 17 [(a : Int), (b : Int)] = true := by
  have h : ((List.range 8).all fun (a : Nat) => (List.range 8).all fun (b : Nat) => sameE 700 17 [(a : Int), (b : Int)]) = true := by kernel_rfl
  exact (all8 (all8 h a ha) b hb)
set_option maxRecDepth 100000 in
theorem sameF21 (c : Int) (a : Nat) (ha : a < 8) (b : Nat) (hb : b < 8) : sameE 700 21 [(a : Int), (b : Int), (c : Int)] = true := by
  have h : ((List.range 8).all fun (a : Nat) => (List.range 8).all fun (b : Nat) => sameE 700 21 [(a : Int), (b : Int), (c : Int)]) = true := by kernel_rfl
  exact (all8 (all8 h a ha) b hb)
set_option maxRecDepth 100000 in
theorem sameF25  (a : Nat) (ha : a < 8) : sameE 700 25 [(a : Int)] = true := by
  have h : ((List.range 8).all fun (a : Nat) => sameE 700 25 [(a : Int)]) = true := by kernel_rfl
  exact (all8 h a ha)
set_option maxRecDepth 100000 in
theorem sameF29 (a : Int) : sameE 700 29 [(a : Int)] = true := by
  kernel_rfl
set_option maxRecDepth 100000 in
theorem sameF33 (a : Int) : sameE 700 33 [(a : Int)] = true := by
  kernel_rfl
set_option maxRecDepth 100000 in
theorem sameF37  (a : Nat) (ha : a < 8) : sameE 700 37 [(a : Int)] = true := by
  have h : ((List.range 8).all fun (a : Nat) => sameE 700 37 [(a : Int)]) = true := by kernel_rfl
  exact (all8 h a ha)
set_option maxRecDepth 100000 in
theorem sameF41  (a : Nat) (ha : a < 8) : sameE 700 41 [(a : Int)] = true := by
  have h : ((List.range 8).all fun (a : Nat) => sameE 700 41 [(a : Int)]) = true := by kernel_rfl
  exact (all8 h a ha)
set_option maxRecDepth 100000 in
theorem sameF45  (a : Nat) (ha : a < 4) (b : Nat) (hb : b < 8) : sameE 700 45 [(a : Int), (b : Int)] = true := by
  have h : ((List.range 4).all fun (a : Nat) => (List.range 8).all fun (b : Nat) => sameE 700 45 [(a : Int), (b : Int)]) = true := by kernel_rfl
  exact (all8 (all8 h a ha) b hb)
set_option maxRecDepth 100000 in
theorem sameF49  (a : Nat) (ha : a < 4) (b : Nat) (hb : b < 8) : sameE 700 49 [(a : Int), (b : Int)] = true := by
  have h : ((List.range 4).all fun (a : Nat) => (List.range 8).all fun (b : Nat) => sameE 700 49 [(a : Int), (b : Int)]) = true := by kernel_rfl
  exact (all8 (all8 h a ha) b hb)
set_option maxRecDepth 100000 in
theorem sameF54  (a : Nat) (ha : a < 8) : sameE 700 54 [(a : Int)] = true := by
  have h : ((List.range 8).all fun (a : Nat) => sameE 700 54 [(a : Int)]) = true := by kernel_rfl
  exact (all8 h a ha)
set_option maxRecDepth 100000 in
theorem sameF58 (a : Int) : sameE 700 58 [(a : Int)] = true := by
  kernel_rfl
set_option maxRecDepth 100000 in
theorem sameF52_3 : ((List.range 8).all fun (b : Nat) => (List.range 8).all fun (c : Nat) => sameE 700 52 [((3 : Nat) : Int), (b : Int), (c : Int)]) = true := by kernel_rfl
set_option maxRecDepth 100000 in
theorem sameF52_7 : ((List.range 8).all fun (b : Nat) => (List.range 8).all fun (c : Nat) => sameE 700 52 [((7 : Nat) : Int), (b : Int), (c : Int)]) = true := by kernel_rfl
end Go.Proofs.Ytaellapacoikaaa.PA
