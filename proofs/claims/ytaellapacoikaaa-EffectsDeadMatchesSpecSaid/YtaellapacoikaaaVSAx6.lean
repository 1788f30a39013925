import Derived.Test.YtaellapacoikaaaVSAx6df0
import Derived.Test.YtaellapacoikaaaVSAx6df1
import Derived.Test.YtaellapacoikaaaVSAx6df2
import Derived.Test.YtaellapacoikaaaVSAx6df3
namespace Go.Proofs.Ytaellapacoikaaa.PA
open Go.RowKit Go.Proofs.YtaellapacoikaaaW.PrintWords Go.Proofs.YtaellapacoikaaaW.PrintLast Go.Proofs.YtaellapacoikaaaW.PrintMore
set_option linter.unusedVariables false
set_option linter.unusedSimpArgs false
theorem effects_Find.calls (k : Nat) (a0_0 : Int) (A0_1 : Option Addr) (c0_1 : Nat) (l0_1 : List Int) (r1 : Int) (r2 : Int) (r3 : Int) (r4 : Int) (r5 : Int) (r6 : Int) (r7 : Bool) (r8 : Bool) (w : World) (hr0_1 : Kd.C (Kd.int .i64) w A0_1 l0_1.length l0_1) (hc0_1 : l0_1.length ≤ c0_1) (h : effects_Find.f k a0_0 l0_1 = some (r1, r2, r3, r4, r5, r6, r7, r8)) :
    Calls Try.prog 35 #[.agg #[.int .i64 a0_0, .slice A0_1 l0_1.length c0_1]] w fun e w' => e = .returned (.agg #[.int .i64 r1, .int .i64 r2, .int .i64 r3, .int .i64 r4, .int .i64 r5, .int .i64 r6, .bool r7, .bool r8]) ∧ Below w.heap.size w w' := by
  suffices FindC a0_0 from this k A0_1 c0_1 l0_1 r1 r2 r3 r4 r5 r6 r7 r8 w hr0_1 hc0_1 h
  by_cases n3 : a0_0 = 3
  · subst n3; exact find3
  by_cases n6 : a0_0 = 6
  · subst n6; exact find6
  by_cases n7 : a0_0 = 7
  · subst n7; exact find7
  by_cases n8 : a0_0 = 8
  · subst n8; exact find8
  by_cases n9 : a0_0 = 9
  · subst n9; exact find9
  by_cases n10 : a0_0 = 10
  · subst n10; exact find10
  by_cases n11 : a0_0 = 11
  · subst n11; exact find11
  by_cases n12 : a0_0 = 12
  · subst n12; exact find12
  by_cases n13 : a0_0 = 13
  · subst n13; exact find13
  by_cases n14 : a0_0 = 14
  · subst n14; exact find14
  by_cases n15 : a0_0 = 15
  · subst n15; exact find15
  by_cases n16 : a0_0 = 16
  · subst n16; exact find16
  by_cases n17 : a0_0 = 17
  · subst n17; exact find17
  by_cases n18 : a0_0 = 18
  · subst n18; exact find18
  by_cases n19 : a0_0 = 19
  · subst n19; exact find19
  by_cases n20 : a0_0 = 20
  · subst n20; exact find20
  by_cases n21 : a0_0 = 21
  · subst n21; exact find21
  by_cases n22 : a0_0 = 22
  · subst n22; exact find22
  by_cases n23 : a0_0 = 23
  · subst n23; exact find23
  by_cases n24 : a0_0 = 24
  · subst n24; exact find24
  by_cases n25 : a0_0 = 25
  · subst n25; exact find25
  by_cases n26 : a0_0 = 26
  · subst n26; exact find26
  by_cases n37 : a0_0 = 37
  · subst n37; exact find37
  by_cases n38 : a0_0 = 38
  · subst n38; exact find38
  by_cases n40 : a0_0 = 40
  · subst n40; exact find40
  by_cases n41 : a0_0 = 41
  · subst n41; exact find41
  by_cases n42 : a0_0 = 42
  · subst n42; exact find42
  by_cases n43 : a0_0 = 43
  · subst n43; exact find43
  by_cases n44 : a0_0 = 44
  · subst n44; exact find44
  by_cases n45 : a0_0 = 45
  · subst n45; exact find45
  by_cases n46 : a0_0 = 46
  · subst n46; exact find46
  by_cases n47 : a0_0 = 47
  · subst n47; exact find47
  by_cases n48 : a0_0 = 48
  · subst n48; exact find48
  by_cases n49 : a0_0 = 49
  · subst n49; exact find49
  by_cases n50 : a0_0 = 50
  · subst n50; exact find50
  by_cases n51 : a0_0 = 51
  · subst n51; exact find51
  by_cases n52 : a0_0 = 52
  · subst n52; exact find52
  by_cases n53 : a0_0 = 53
  · subst n53; exact find53
  by_cases n54 : a0_0 = 54
  · subst n54; exact find54
  by_cases n55 : a0_0 = 55
  · subst n55; exact find55
  by_cases n56 : a0_0 = 56
  · subst n56; exact find56
  by_cases n57 : a0_0 = 57
  · subst n57; exact find57
  by_cases n58 : a0_0 = 58
  · subst n58; exact find58
  exact findRest a0_0 n3 n6 n7 n8 n9 n10 n11 n12 n13 n14 n15 n16 n17 n18 n19 n20 n21 n22 n23 n24 n25 n26 n37 n38 n40 n41 n42 n43 n44 n45 n46 n47 n48 n49 n50 n51 n52 n53 n54 n55 n56 n57 n58
end Go.Proofs.Ytaellapacoikaaa.PA
