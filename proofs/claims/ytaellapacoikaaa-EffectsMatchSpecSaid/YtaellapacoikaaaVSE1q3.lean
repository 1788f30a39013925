import Derived.Test.YtaellapacoikaaaVSE1
namespace Go.Proofs.Ytaellapacoikaaa.PA
open Go.RowKit Go.Proofs.YtaellapacoikaaaW.PrintWords Go.Proofs.YtaellapacoikaaaW.PrintLast Go.Proofs.YtaellapacoikaaaW.PrintMore
set_option linter.unusedVariables false
set_option linter.unusedSimpArgs false
set_option maxRecDepth 100000 in
theorem sameF3 (a : Int) : sameE 700 3 [(a : Int)] = true := by
  kernel_rfl
set_option maxRecDepth 100000 in
theorem sameF7 (b : Int) (a : Nat) (ha : a < 8) : sameE 700 7 [(a : Int), (b : Int)] = true := by
  have h : ((List.range 8).all fun (a : Nat) => sameE 700 7 [(a : Int), (b : Int)]) = true := by kernel_rfl
  exact (all8 h a ha)
set_option maxRecDepth 100000 in
theorem sameF11  (a : Nat) (ha : a < 8) (b : Nat) (hb : b < 8) : sameE 700 11 [(a : Int), (b : Int)] = true := by
  have h : ((List.range 8).all fun (a : Nat) => (List.range 8).all fun (b : Nat) => sameE 700 11 [(a : Int), (b : Int)]) = true := by kernel_rfl
  exact (all8 (all8 h a ha) b hb)
set_option maxRecDepth 100000 in
theorem sameF15  (a : Nat) (ha : a < 8) (b : Nat) (hb : b < 8) : sameE 700 15 [(a : Int), (b : Int)] = true := by
  have h : ((List.range 8).all fun (a : Nat) => (List.range 8).all fun (b : Nat) => sameE 700 15 [(a : Int), (b : Int)]) = true := by kernel_rfl
  exact (all8 (all8 h a ha) b hb)
set_option maxRecDepth 100000 in
theorem sameF19  (a : Nat) (ha : a < 8) (b : Nat) (hb : b < 8) : sameE 700 19 [(a : Int), (b : Int)] = true := by
  have h : ((List.range 8).all fun (a : Nat) => (List.range 8).all fun (b : Nat) => sameE 700 19 [(a : Int), (b : Int)]) = true := by kernel_rfl
  exact (all8 (all8 h a ha) b hb)
set_option maxRecDepth 100000 in
theorem sameF23 (c : Int) (a : Nat) (ha : a < 8) (b : Nat) (hb : b < 8) : sameE 700 23 [(a : Int), (b : Int), (c : Int)] = true := by
  have h : ((List.range 8).all fun (a : Nat) => (List.range 8).all fun (b : Nat) => sameE 700 23 [(a : Int), (b : Int), (c : Int)]) = true := by kernel_rfl
  exact (all8 (all8 h a ha) b hb)
set_option maxRecDepth 100000 in
theorem sameF27 (a : Int) : sameE 700 27 [(a : Int)] = true := by
  kernel_rfl
set_option maxRecDepth 100000 in
theorem sameF31 (a : Int) : sameE 700 31 [(a : Int)] = true := by
  kernel_rfl
set_option maxRecDepth 100000 in
theorem sameF35 (a : Int) : sameE 700 35 [(a : Int)] = true := by
  kernel_rfl
set_option maxRecDepth 100000 in
theorem sameF39 (a : Int) : sameE 700 39 [(a : Int)] = true := by
  kernel_rfl
set_option maxRecDepth 100000 in
theorem sameF43 (b : Int) (a : Nat) (ha : a < 8) : sameE 700 43 [(a : Int), (b : Int)] = true := by
  have h : ((List.range 8).all fun (a : Nat) => sameE 700 43 [(a : Int), (b : Int)]) = true := by kernel_rfl
  exact (all8 h a ha)
set_option maxRecDepth 100000 in
theorem sameF47  (a : Nat) (ha : a < 4) (b : Nat) (hb : b < 4) : sameE 700 47 [(a : Int), (b : Int)] = true := by
  have h : ((List.range 4).all fun (a : Nat) => (List.range 4).all fun (b : Nat) => sameE 700 47 [(a : Int), (b : Int)]) = true := by kernel_rfl
  exact (all8 (all8 h a ha) b hb)
set_option maxRecDepth 100000 in
theorem sameF51  (a : Nat) (ha : a < 8) (b : Nat) (hb : b < 8) : sameE 700 51 [(a : Int), (b : Int)] = true := by
  have h : ((List.range 8).all fun (a : Nat) => (List.range 8).all fun (b : Nat) => sameE 700 51 [(a : Int), (b : Int)]) = true := by kernel_rfl
  exact (all8 (all8 h a ha) b hb)
set_option maxRecDepth 100000 in
theorem sameF56  (a : Nat) (ha : a < 8) : sameE 700 56 [(a : Int)] = true := by
  have h : ((List.range 8).all fun (a : Nat) => sameE 700 56 [(a : Int)]) = true := by kernel_rfl
  exact (all8 h a ha)
set_option maxRecDepth 100000 in
theorem sameF52_1 : ((List.range 8).all fun (b : Nat) => (List.range 8).all fun (c : Nat) => sameE 700 52 [((1 : Nat) : Int), (b : Int), (c : Int)]) = true := by kernel_rfl
set_option maxRecDepth 100000 in
theorem sameF52_5 : ((List.range 8).all fun (b : Nat) => (List.range 8).all fun (c : Nat) => sameE 700 52 [((5 : Nat) : Int), (b : Int), (c : Int)]) = true := by kernel_rfl
end Go.Proofs.Ytaellapacoikaaa.PA
