import Derived.Test.YtaellapacoikaaaVSE1
namespace Go.Proofs.Ytaellapacoikaaa.PA
open Go.RowKit Go.Proofs.YtaellapacoikaaaW.PrintWords Go.Proofs.YtaellapacoikaaaW.PrintLast Go.Proofs.YtaellapacoikaaaW.PrintMore
set_option linter.unusedVariables false
set_option linter.unusedSimpArgs false
set_option maxRecDepth 100000 in
theorem sameF2  : sameE 700 2 [] = true := by
  kernel_rfl
set_option maxRecDepth 100000 in
theorem sameF6  (a : Nat) (ha : a < 8) (b : Nat) (hb : b < 8) : sameE 700 6 [(a : Int), (b : Int)] = true := by
  have h : ((List.range 8).all fun (a : Nat) => (List.range 8).all fun (b : Nat) => sameE 700 6 [(a : Int), (b : Int)]) = true := by kernel_rfl
  exact (all8 (all8 h a ha) b hb)
set_option maxRecDepth 100000 in
theorem sameF10 (b : Int) (a : Nat) (ha : a < 8) : sameE 700 10 [(a : Int), (b : Int)] = true := by
  have h : ((List.range 8).all fun (a : Nat) => sameE 700 10 [(a : Int), (b : Int)]) = true := by kernel_rfl
  exact (all8 h a ha)
set_option maxRecDepth 100000 in
theorem sameF14  (a : Nat) (ha : a < 8) (b : Nat) (hb : b < 8) : sameE 700 14 [(a : Int), (b : Int)] = true := by
  have h : ((List.range 8).all fun (a : Nat) => (List.range 8).all fun (b : Nat) => sameE 700 14 [(a : Int), (b : Int)]) = true := by kernel_rfl
  exact (all8 (all8 h a ha) b hb)
set_option maxRecDepth 100000 in
theorem sameF18  (a : Nat) (ha : a < 8) (b : Nat) (hb : b < 8) : sameE 700 18 [(a : Int), (b : Int)] = true := by
  have h : ((List.range 8).all fun (a : Nat) => (List.range 8).all fun (b : Nat) => sameE 700 18 [(a : Int), (b : Int)]) = true := by kernel_rfl
  exact (all8 (all8 h a ha) b hb)
set_option maxRecDepth 100000 in
theorem sameF22 (c : Int) (a : Nat) (ha : a < 8) (b : Nat) (hb : b < 8) : sameE 700 22 [(a : Int), (b : Int), (c : Int)] = true := by
  have h : ((List.range 8).all fun (a : Nat) => (List.range 8).all fun (b : Nat) => sameE 700 22 [(a : Int), (b : Int), (c : Int)]) = true := by kernel_rfl
  exact (all8 (all8 h a ha) b hb)
set_option maxRecDepth 100000 in
theorem sameF26  (a : Nat) (ha : a < 8) : sameE 700 26 [(a : Int)] = true := by
  have h : ((List.range 8).all fun (a : Nat) => sameE 700 26 [(a : Int)]) = true := by kernel_rfl
  exact (all8 h a ha)
set_option maxRecDepth 100000 in
theorem sameF30 (a : Int) : sameE 700 30 [(a : Int)] = true := by
  kernel_rfl
set_option maxRecDepth 100000 in
theorem sameF34 (a : Int) : sameE 700 34 [(a : Int)] = true := by
  kernel_rfl
set_option maxRecDepth 100000 in
theorem sameF38 (a : Int) : sameE 700 38 [(a : Int)] = true := by
  kernel_rfl
set_option maxRecDepth 100000 in
theorem sameF42  : sameE 700 42 [] = true := by
  kernel_rfl
set_option maxRecDepth 100000 in
theorem sameF46  (a : Nat) (ha : a < 4) (b : Nat) (hb : b < 4) : sameE 700 46 [(a : Int), (b : Int)] = true := by
  have h : ((List.range 4).all fun (a : Nat) => (List.range 4).all fun (b : Nat) => sameE 700 46 [(a : Int), (b : Int)]) = true := by kernel_rfl
  exact (all8 (all8 h a ha) b hb)
set_option maxRecDepth 100000 in
theorem sameF50  (a : Nat) (ha : a < 8) (b : Nat) (hb : b < 8) : sameE 700 50 [(a : Int), (b : Int)] = true := by
  have h : ((List.range 8).all fun (a : Nat) => (List.range 8).all fun (b : Nat) => sameE 700 50 [(a : Int), (b : Int)]) = true := by kernel_rfl
  exact (all8 (all8 h a ha) b hb)
set_option maxRecDepth 100000 in
theorem sameF55  (a : Nat) (ha : a < 8) : sameE 700 55 [(a : Int)] = true := by
  have h : ((List.range 8).all fun (a : Nat) => sameE 700 55 [(a : Int)]) = true := by kernel_rfl
  exact (all8 h a ha)
set_option maxRecDepth 100000 in
theorem sameF52_0 : ((List.range 8).all fun (b : Nat) => (List.range 8).all fun (c : Nat) => sameE 700 52 [((0 : Nat) : Int), (b : Int), (c : Int)]) = true := by kernel_rfl
set_option maxRecDepth 100000 in
theorem sameF52_4 : ((List.range 8).all fun (b : Nat) => (List.range 8).all fun (c : Nat) => sameE 700 52 [((4 : Nat) : Int), (b : Int), (c : Int)]) = true := by kernel_rfl
end Go.Proofs.Ytaellapacoikaaa.PA
