import Derived.Test.YtaellapacoikaaaVSE1
namespace Go.Proofs.Ytaellapacoikaaa.PA
open Go.RowKit Go.Proofs.YtaellapacoikaaaW.PrintWords Go.Proofs.YtaellapacoikaaaW.PrintLast Go.Proofs.YtaellapacoikaaaW.PrintMore
set_option linter.unusedVariables false
set_option linter.unusedSimpArgs false
set_option maxRecDepth 100000 in
theorem sameF0  : sameE 700 0 [] = true := by
  kernel_rfl
set_option maxRecDepth 100000 in
theorem sameF4  : sameE 700 4 [] = true := by
  kernel_rfl
set_option maxRecDepth 100000 in
theorem sameF8 (b : Int) (a : Nat) (ha : a < 8) : sameE 700 8 [(a : Int), (b : Int)] = true := by
  have h : ((List.range 8).all fun (a : Nat) => sameE 700 8 [(a : Int), (b : Int)]) = true := by kernel_rfl
  exact (all8 h a ha)
set_option maxRecDepth 100000 in
theorem sameF12  (a : Nat) (ha : a < 8) (b : Nat) (hb : b < 8) : sameE 700 12 [(a : Int), (b : Int)] = true := by
  have h : ((List.range 8).all fun (a : Nat) => (List.range 8).all fun (b : Nat) => sameE 700 12 [(a : Int), (b : Int)]) = true := by kernel_rfl
  exact (all8 (all8 h a ha) b hb)
set_option maxRecDepth 100000 in
theorem sameF16  (a : Nat) (ha : a < 8) (b : Nat) (hb : b < 8) : sameE 700 16 [(a : Int), (b : Int)] = true := by
  have h : ((List.range 8).all fun (a : Nat) => (List.range 8).all fun (b : Nat) => sameE 700 16 [(a : Int), (b : Int)]) = true := by kernel_rfl
  exact (all8 (all8 h a ha) b hb)
set_option maxRecDepth 100000 in
theorem sameF20 (b : Int) (a : Nat) (ha : a < 8) : sameE 700 20 [(a : Int), (b : Int)] = true := by
  have h : ((List.range 8).all fun (a : Nat) => sameE 700 20 [(a : Int), (b : Int)]) = true := by kernel_rfl
  exact (all8 h a ha)
set_option maxRecDepth 100000 in
theorem sameF24 (c : Int) (a : Nat) (ha : a < 8) (b : Nat) (hb : b < 8) : sameE 700 24 [(a : Int), (b : Int), (c : Int)] = true := by
  have h : ((List.range 8).all fun (a : Nat) => (List.range 8).all fun (b : Nat) => sameE 700 24 [(a : Int), (b : Int), (c : Int)]) = true := by kernel_rfl
  exact (all8 (all8 h a ha) b hb)
set_option maxRecDepth 100000 in
theorem sameF28 (a : Int) : sameE 700 28 [(a : Int)] = true := by
  kernel_rfl
set_option maxRecDepth 100000 in
theorem sameF32 (a : Int) : sameE 700 32 [(a : Int)] = true := by
  kernel_rfl
set_option maxRecDepth 100000 in
theorem sameF36 (a : Int) : sameE 700 36 [(a : Int)] = true := by
  kernel_rfl
set_option maxRecDepth 100000 in
theorem sameF40 (a : Int) : sameE 700 40 [(a : Int)] = true := by
  kernel_rfl
set_option maxRecDepth 100000 in
theorem sameF44  (a : Nat) (ha : a < 4) (b : Nat) (hb : b < 8) : sameE 700 44 [(a : Int), (b : Int)] = true := by
  have h : ((List.range 4).all fun (a : Nat) => (List.range 8).all fun (b : Nat) => sameE 700 44 [(a : Int), (b : Int)]) = true := by kernel_rfl
  exact (all8 (all8 h a ha) b hb)
set_option maxRecDepth 100000 in
theorem sameF48  (a : Nat) (ha : a < 8) (b : Nat) (hb : b < 4) : sameE 700 48 [(a : Int), (b : Int)] = true := by
  have h : ((List.range 8).all fun (a : Nat) => (List.range 4).all fun (b : Nat) => sameE 700 48 [(a : Int), (b : Int)]) = true := by kernel_rfl
  exact (all8 (all8 h a ha) b hb)
set_option maxRecDepth 100000 in
theorem sameF53  (a : Nat) (ha : a < 8) : sameE 700 53 [(a : Int)] = true := by
  have h : ((List.range 8).all fun (a : Nat) => sameE 700 53 [(a : Int)]) = true := by kernel_rfl
  exact (all8 h a ha)
set_option maxRecDepth 100000 in
theorem sameF57  (a : Nat) (ha : a < 8) : sameE 700 57 [(a : Int)] = true := by
  have h : ((List.range 8).all fun (a : Nat) => sameE 700 57 [(a : Int)]) = true := by kernel_rfl
  exact (all8 h a ha)
set_option maxRecDepth 100000 in
theorem sameF52_2 : ((List.range 8).all fun (b : Nat) => (List.range 8).all fun (c : Nat) => sameE 700 52 [((2 : Nat) : Int), (b : Int), (c : Int)]) = true := by kernel_rfl
set_option maxRecDepth 100000 in
theorem sameF52_6 : ((List.range 8).all fun (b : Nat) => (List.range 8).all fun (c : Nat) => sameE 700 52 [((6 : Nat) : Int), (b : Int), (c : Int)]) = true := by kernel_rfl
end Go.Proofs.Ytaellapacoikaaa.PA
