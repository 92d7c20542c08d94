/- The walk's evaluator and its laws (over whatever program), and contracts of the program's functions. -/
import Derived.Test.YtmhnajhokkieoaaDoorAe4
import Derived.KernelRfl
set_option linter.all false
set_option maxRecDepth 100000
namespace PF
open Go Go.AE Go.Proofs PE
def biU (b : Bool) : Int := bif b then 1 else 0
def wkU (n : Int) : Int := if Int.tmod (IntKind.wrap .i64 (n - 3)) 7 < 0 then IntKind.wrap .i64 (Int.tmod (IntKind.wrap .i64 (n - 3)) 7 + 7) else Int.tmod (IntKind.wrap .i64 (n - 3)) 7
def leapU (n : Int) : Bool := Int.tmod n 400 == 0 || (Int.tmod n 4 == 0 && Int.tmod n 100 != 0)
def eraK (n : Int) : Int := if Int.tmod (IntKind.wrap .i64 (n - 2000)) 400 < 0 then IntKind.wrap .i64 (IntKind.wrap .i64 (Int.tdiv (IntKind.wrap .i64 (n - 2000)) 400) - 1) else IntKind.wrap .i64 (Int.tdiv (IntKind.wrap .i64 (n - 2000)) 400)
def eraR (n : Int) : Int := if Int.tmod (IntKind.wrap .i64 (n - 2000)) 400 < 0 then IntKind.wrap .i64 (Int.tmod (IntKind.wrap .i64 (n - 2000)) 400 + 400) else Int.tmod (IntKind.wrap .i64 (n - 2000)) 400
def cmpU (a b c d : Int) : Int := if (decide (a < c) || a == c && decide (b < d)) = true then -1 else if (a == c && (b == d && true)) = true then 0 else 1
def minU (t c : Int) : Int := if (decide (c > 0) && decide (t < IntKind.wrap .i64 (-9223372036854775808 + c))) = true then -9223372036854775808 else if (decide (c < 0) && decide (t > IntKind.wrap .i64 (9223372036854775807 + c))) = true then 9223372036854775807 else IntKind.wrap .i64 (t - c)
def vDay (a b c d e f : Int) : Bool := if (decide (f < -604799) || decide (f > 604799)) = true then false else if (a == 1) = true then (decide (b ≥ 1) && decide (b ≤ 365) && c == 0 && d == 0 && e == 0) else if (a == 2) = true then (decide (b ≥ 0) && decide (b ≤ 365) && c == 0 && d == 0 && e == 0) else (a == 3 && b == 0 && decide (c ≥ 1) && decide (c ≤ 12) && decide (d ≥ 1) && decide (d ≤ 5) && decide (e ≥ 0) && decide (e ≤ 6))
def sBI : List AV → Option (List Prop × List AV)
  | [.imm (.bool b)] => some ([], [i64 (biU b)])
  | _ => none
def sWk : List AV → Option (List Prop × List AV)
  | [.imm (.int .i64 n)] => some ([], [i64 (wkU n)])
  | _ => none
def sLeap : List AV → Option (List Prop × List AV)
  | [.imm (.int .i64 n)] => some ([], [bo (leapU n)])
  | _ => none
def sEra : List AV → Option (List Prop × List AV)
  | [.imm (.int .i64 n)] => some ([], [i64 (eraK n), i64 (eraR n)])
  | _ => none
def sCmp : List AV → Option (List Prop × List AV)
  | [.agg [.imm (.int .i64 a), .imm (.int .i64 b)], .agg [.imm (.int .i64 c), .imm (.int .i64 d)]] => some ([], [i64 (cmpU a b c d)])
  | _ => none
def sMinus : List AV → Option (List Prop × List AV)
  | [.imm (.int .i64 t), .imm (.int .i64 c)] => some ([], [i64 (minU t c)])
  | _ => none
noncomputable def N0 : Cx := ⟨Tryd.prog, F13, noCall, G16, 4020⟩
noncomputable def F20 := addE (addE (addE (addE (addE (addE F13 82 sBI) 86 sWk) 95 sLeap) 101 sEra) 84 sCmp) 43 sMinus
noncomputable def N1 : Cx := ⟨Tryd.prog, F20, noCall, G16, 4020⟩
def mdU (y m : Int) : Int := if (m == 4 || m == 6 || m == 9 || m == 11) = true then 30 else if (m == 2) = true then (bif leapU y then 29 else 28) else 31
def splD (t : Int) : Int := IntKind.wrap .i64 (IntKind.wrap .i64 (Int.tdiv (IntKind.wrap .i64 (t - Int.tmod t 86400)) 86400) - biU (decide (Int.tmod t 86400 < 0)))
def splS (t : Int) : Int := if Int.tmod t 86400 < 0 then IntKind.wrap .i64 (Int.tmod t 86400 + 86400) else Int.tmod t 86400
def sMD : List AV → Option (List Prop × List AV)
  | [.imm (.int .i64 y), .imm (.int .i64 m)] => some ([], [i64 (mdU y m)])
  | _ => none
def sSplit : List AV → Option (List Prop × List AV)
  | [.imm (.int .i64 t)] => some ([], [i64 (splD t), i64 (splS t)])
  | _ => none
noncomputable def F21 := addE (addE F20 96 sMD) 63 sSplit
noncomputable def N2 : Cx := ⟨Tryd.prog, F21, noCall, G16, 4020⟩
def h141 (y m n k : Int) : St := ⟨spr [(0, i64 y), (1, i64 m), (7, i64 n), (8, i64 k)] 0 22, [], 0, []⟩
def o141 (y m n k : Int) : St := ⟨spr [(0, i64 y), (1, i64 m), (7, i64 n), (8, i64 k), (11, i64 k), (12, i64 m), (13, bo (decide (k < m)))] 0 22, [], 0, []⟩
def p141 : Plan := ⟨[], msk [0, 1, 7, 8] 0 22, []⟩
def h139 (y m d r n i : Int) : St := ⟨spr [(0, i64 y), (1, i64 m), (2, i64 d), (8, i64 r), (9, i64 n), (10, i64 i)] 0 36, [], 0, []⟩
def o139 (y m d r n i : Int) : St := ⟨spr [(0, i64 y), (1, i64 m), (2, i64 d), (8, i64 r), (9, i64 n), (10, i64 i), (19, i64 i), (20, i64 r), (21, bo (decide (i < r)))] 0 36, [], 0, []⟩
def p139 : Plan := ⟨[], msk [0, 1, 2, 8, 9, 10] 0 36, []⟩
def h132 (a b : Int) : St := ⟨spr [(0, i64 a), (1, i64 b), (4, .ptr 0 0)] 0 20, [(0, ⟨true, 0, .cells [i64 0, i64 0]⟩)], 1, []⟩
def o132 (a b : Int) : St := ⟨spr [(0, i64 a), (1, i64 b), (4, .ptr 0 0), (5, i64 b), (6, bo (decide (b < 0)))] 0 20, [(0, ⟨true, 0, .cells [i64 0, i64 0]⟩)], 1, []⟩
def q132 (a b : Int) : St := ⟨spr [(0, i64 a), (1, i64 b), (4, .ptr 0 0), (11, i64 b), (12, bo (decide (b ≥ 86400)))] 0 20, [(0, ⟨true, 0, .cells [i64 0, i64 0]⟩)], 1, []⟩
def p132 : Plan := ⟨[], msk [0, 1, 4] 0 20, [0]⟩
def h122 (k n y : Int) : St := ⟨spr [(5, i64 k), (6, i64 n), (7, i64 y)] 0 52, [], 0, []⟩
def o122 (k n y l : Int) (lp : Bool) : St := ⟨spr [(5, i64 k), (6, i64 n), (7, i64 y), (8, i64 l), (22, i64 y), (23, bo lp), (24, i64 n), (25, i64 l), (26, bo (decide (n < l)))] 0 52, [], 0, []⟩
def p122 : Plan := ⟨[], msk [5, 6, 7] 0 52, []⟩
def h122b (k n y m : Int) : St := ⟨spr [(5, i64 k), (6, i64 n), (7, i64 y), (9, i64 m)] 0 52, [], 0, []⟩
def o122b (k n y m : Int) : St := ⟨spr [(5, i64 k), (6, i64 n), (7, i64 y), (9, i64 m), (32, i64 n), (33, i64 y), (34, i64 m), (35, i64 (mdU y m)), (36, bo (decide (n ≥ mdU y m)))] 0 52, [], 0, []⟩
def p122b : Plan := ⟨[], msk [5, 6, 7, 9] 0 52, []⟩
attribute [local irreducible] evCode evSpec loopB loopK norm
theorem g119_in (b : Bool) (K : List AV → Prop) : evSpec N0 Tryd.f82 [bo b] K =
  (brn b (K [AV.imm (IV.int IntKind.i64 (1 : Int))]) (K [AV.imm (IV.int IntKind.i64 (0 : Int))])) := by kernel_rfl
theorem g123_in (n : Int) (K : List AV → Prop) : evSpec N0 Tryd.f86 [i64 n] K = ((7 : Int) ≠ 0 ∧ brn (decide (Int.tmod (IntKind.wrap .i64 (n - 3)) (7 : Int) < 0)) (K [i64 (IntKind.wrap .i64 (Int.tmod (IntKind.wrap .i64 (n - 3)) (7 : Int) + 7))]) (K [i64 (Int.tmod (IntKind.wrap .i64 (n - 3)) (7 : Int))])) := by kernel_rfl
theorem g134_in (n : Int) (K : List AV → Prop) : evSpec N0 Tryd.f95 [i64 n] K = ((400 : Int) ≠ 0 ∧ brn (Int.tmod n (400 : Int) == 0) (K [bo true]) ((4 : Int) ≠ 0 ∧ ((Int.tmod n (4 : Int) == 0) = true → (100 : Int) ≠ 0) ∧ K [bo (Int.tmod n (4 : Int) == 0 && Int.tmod n (100 : Int) != 0)])) := by kernel_rfl
theorem g140_in (n : Int) (K : List AV → Prop) : evSpec N0 Tryd.f101 [i64 n] K = ((400 : Int) ≠ 0 ∧ (400 : Int) ≠ 0 ∧ brn (decide (Int.tmod (IntKind.wrap .i64 (n - 2000)) (400 : Int) < 0)) (K [i64 (IntKind.wrap .i64 (IntKind.wrap .i64 (Int.tdiv (IntKind.wrap .i64 (n - 2000)) (400 : Int)) - 1)), i64 (IntKind.wrap .i64 (Int.tmod (IntKind.wrap .i64 (n - 2000)) (400 : Int) + 400))]) (K [i64 (IntKind.wrap .i64 (Int.tdiv (IntKind.wrap .i64 (n - 2000)) (400 : Int))), i64 (Int.tmod (IntKind.wrap .i64 (n - 2000)) (400 : Int))])) := by kernel_rfl
theorem g121_in (a : Int) (b : Int) (c : Int) (d : Int) (K : List AV → Prop) : evSpec N0 Tryd.f84 [.agg [i64 a, i64 b], .agg [i64 c, i64 d]] K = (brn (decide (a < c) || a == c && decide (b < d)) (K [i64 (-1 : Int)]) (brn (a == c && (b == d && true)) (K [i64 0]) (K [i64 1]))) := by kernel_rfl
theorem g69_in (t : Int) (c : Int) (K : List AV → Prop) : evSpec N0 Tryd.f43 [i64 t, i64 c] K = (brn (decide (c > 0) && decide (t < IntKind.wrap .i64 ((-9223372036854775808 : Int) + c))) (K [i64 (-9223372036854775808 : Int)]) (brn (decide (c < 0) && decide (t > IntKind.wrap .i64 ((9223372036854775807 : Int) + c))) (K [i64 9223372036854775807]) (K [i64 (IntKind.wrap .i64 (t - c))]))) := by kernel_rfl
theorem g135_in (y : Int) (m : Int) (K : List AV → Prop) : evSpec N1 Tryd.f96 [i64 y, i64 m] K = (brn (m == 4) (brn (m == 4) (K [i64 30]) (brn (m == 2) (brn (leapU y) (K [i64 29]) (K [i64 28])) (K [i64 31]))) (brn (m == 6) (brn (m == 6) (K [i64 30]) (brn (m == 2) (brn (leapU y) (K [i64 29]) (K [i64 28])) (K [i64 31]))) (brn (m == 9) (brn (m == 9) (K [i64 30]) (brn (m == 2) (brn (leapU y) (K [i64 29]) (K [i64 28])) (K [i64 31]))) (brn (m == 11) (K [i64 30]) (brn (m == 2) (brn (leapU y) (K [i64 29]) (K [i64 28])) (K [i64 31])))))) := by kernel_rfl
theorem g100_in (t : Int) (K : List AV → Prop) : evSpec N1 Tryd.f63 [i64 t] K = ((86400 : Int) ≠ 0 ∧ brn (decide (Int.tmod t (86400 : Int) < 0)) ((86400 : Int) ≠ 0 ∧ (86400 : Int) ≠ 0 ∧ (86400 : Int) ≠ 0 ∧ K [i64 (IntKind.wrap .i64 (IntKind.wrap .i64 (Int.tdiv (IntKind.wrap .i64 (t - Int.tmod t (86400 : Int))) (86400 : Int)) - biU (decide (Int.tmod t (86400 : Int) < 0)))), i64 (IntKind.wrap .i64 (Int.tmod t (86400 : Int) + 86400))]) ((86400 : Int) ≠ 0 ∧ (86400 : Int) ≠ 0 ∧ (86400 : Int) ≠ 0 ∧ K [i64 (IntKind.wrap .i64 (IntKind.wrap .i64 (Int.tdiv (IntKind.wrap .i64 (t - Int.tmod t (86400 : Int))) (86400 : Int)) - biU (decide (Int.tmod t (86400 : Int) < 0)))), i64 (Int.tmod t (86400 : Int))])) := by kernel_rfl
theorem g141_in (y : Int) (m : Int) (d : Int) (K : List AV → Prop) : evSpec N2 Tryd.f102 [i64 y, i64 m, i64 d] K = (LoopI N2 (bodyOf Tryd.f102) 0 (St.mk (lapp [i64 y, i64 m, i64 d, .dead, .dead, .dead, i64 0, i64 (IntKind.wrap .i64 (d - 1)), i64 1, i64 d, i64 (IntKind.wrap .i64 (d - 1))] (dN 11)) [] 0 []) (finK N2 Tryd.f102 K)) := by kernel_rfl
theorem g132_in (a : Int) (b : Int) (K : List AV → Prop) : evSpec N2 Tryd.f93 [i64 a, i64 b] K = (LoopI N2 (bodyOf Tryd.f93) 0 (St.mk (lapp [i64 a, i64 b, .dead, .dead, .ptr 0 0] (dN 15)) [(0, Ob.mk true 0 (AObj.cells [i64 0, i64 0]))] 1 []) (finK N2 Tryd.f93 K)) := by kernel_rfl
theorem g122_in (a : Int) (K : List AV → Prop) : evSpec N2 Tryd.f85 [i64 a] K = ((146097 : Int) ≠ 0 ∧ (146097 : Int) ≠ 0 ∧ brn (decide (Int.tmod (IntKind.wrap .i64 (a - 10957)) (146097 : Int) < 0)) (LoopI N2 (bodyOf Tryd.f85) 0 (St.mk (lapp [i64 a, .dead, i64 0, i64 0, i64 0, i64 (IntKind.wrap .i64 (IntKind.wrap .i64 (Int.tdiv (IntKind.wrap .i64 (a - 10957)) (146097 : Int)) - 1)), i64 (IntKind.wrap .i64 (Int.tmod (IntKind.wrap .i64 (a - 10957)) (146097 : Int) + 146097)), i64 0, .dead, .dead, i64 a, i64 (IntKind.wrap .i64 (a - 10957)), i64 (IntKind.wrap .i64 (Int.tdiv (IntKind.wrap .i64 (a - 10957)) (146097 : Int))), i64 a, i64 (IntKind.wrap .i64 (a - 10957)), i64 (Int.tmod (IntKind.wrap .i64 (a - 10957)) (146097 : Int)), i64 (Int.tmod (IntKind.wrap .i64 (a - 10957)) (146097 : Int)), bo (decide (Int.tmod (IntKind.wrap .i64 (a - 10957)) (146097 : Int) < 0)), i64 (IntKind.wrap .i64 (Int.tdiv (IntKind.wrap .i64 (a - 10957)) (146097 : Int))), i64 (IntKind.wrap .i64 (IntKind.wrap .i64 (Int.tdiv (IntKind.wrap .i64 (a - 10957)) (146097 : Int)) - 1))] (dN 32)) [] 0 []) (finK N2 Tryd.f85 K)) (LoopI N2 (bodyOf Tryd.f85) 0 (St.mk (lapp [i64 a, .dead, i64 0, i64 0, i64 0, i64 (IntKind.wrap .i64
 (Int.tdiv (IntKind.wrap .i64 (a - 10957)) (146097 : Int))), i64 (Int.tmod (IntKind.wrap .i64 (a - 10957)) (146097 : Int)), i64 0, .dead, .dead, i64 a, i64 (IntKind.wrap .i64 (a - 10957)), i64 (IntKind.wrap .i64 (Int.tdiv (IntKind.wrap .i64 (a - 10957)) (146097 : Int))), i64 a, i64 (IntKind.wrap .i64 (a - 10957)), i64 (Int.tmod (IntKind.wrap .i64 (a - 10957)) (146097 : Int)), i64 (Int.tmod (IntKind.wrap .i64 (a - 10957)) (146097 : Int)), bo (decide (Int.tmod (IntKind.wrap .i64 (a - 10957)) (146097 : Int) < 0))] (dN 34)) [] 0 []) (finK N2 Tryd.f85 K))) := by kernel_rfl
theorem g141_lp (y : Int) (m : Int) (n : Int) (i : Int) (k : AX → St → Prop) : evCode N2 (loopB (bodyOf Tryd.f102) 0) (h141 y m n i) k = (brn (decide (i < m)) (k AX.normal (St.mk (lapp [i64 y, i64 m] (lapp (dN 5) [i64 (IntKind.wrap .i64 (n + mdU y i)), i64 (IntKind.wrap .i64 (i + 1)), .dead, .dead, i64 i, i64 m, bo (decide (i < m)), i64 i, i64 (IntKind.wrap .i64 (i + 1)), i64 n, i64 y, i64 i, i64 (mdU y i), .dead, .dead])) [] 0 [])) (k (AX.exit 0) (St.mk (lapp [i64 y, i64 m] (lapp (dN 5) (lapp [i64 n, i64 i, .dead, .dead, i64 i, i64 m, bo (decide (i < m))] (dN 8)))) [] 0 []))) := by kernel_rfl
theorem g141_out (y : Int) (m : Int) (n : Int) (i : Int) (K : List AV → Prop) : loopK N2 (bodyOf Tryd.f102) 0 (finK N2 Tryd.f102 K) (AX.exit 0) (o141 y m n i) = (K [i64 n]) := by kernel_rfl
theorem g132_lp (a : Int) (b : Int) (k : AX → St → Prop) : evCode N2 (loopB (bodyOf Tryd.f93) 0) (h132 a b) k = (brn (decide (b < 0)) (k AX.normal (St.mk (lapp [i64 (IntKind.wrap .i64 (a - 1)), i64 (IntKind.wrap .i64 (b + 86400)), .dead, .dead, .ptr 0 0, i64 b, bo (decide (b < 0)), i64 b, i64 (IntKind.wrap .i64 (b + 86400)), i64 a, i64 (IntKind.wrap .i64 (a - 1))] (dN 9)) [(0, Ob.mk true 0 (AObj.cells [i64 0, i64 0]))] 1 [])) (k (AX.exit 0) (St.mk (lapp [i64 a, i64 b, .dead, .dead, .ptr 0 0, i64 b, bo (decide (b < 0))] (dN 13)) [(0, Ob.mk true 0 (AObj.cells [i64 0, i64 0]))] 1 []))) := by kernel_rfl
theorem g132_out (a : Int) (b : Int) (K : List AV → Prop) : loopK N2 (bodyOf Tryd.f93) 0 (finK N2 Tryd.f93 K) (AX.exit 0) (o132 a b) = (LoopI N2 (bodyOf Tryd.f93) 1 (St.mk (lapp [i64 a, i64 b, .dead, .dead, .ptr 0 0, i64 b, bo (decide (b < 0))] (dN 13)) [(0, Ob.mk true 0 (AObj.cells [i64 0, i64 0]))] 1 []) (finK N2 Tryd.f93 K)) := by kernel_rfl
theorem g132_lp2 (a : Int) (b : Int) (k : AX → St → Prop) : evCode N2 (loopB (bodyOf Tryd.f93) 1) (h132 a b) k = (brn (decide (b ≥ 86400)) (k AX.normal (St.mk (lapp [i64 (IntKind.wrap .i64 (a + 1)), i64 (IntKind.wrap .i64 (b - 86400)), .dead, .dead, .ptr 0 0] (lapp (dN 6) [i64 b, bo (decide (b ≥ 86400)), i64 b, i64 (IntKind.wrap .i64 (b - 86400)), i64 a, i64 (IntKind.wrap .i64 (a + 1)), .dead, .dead, .dead])) [(0, Ob.mk true 0 (AObj.cells [i64 0, i64 0]))] 1 [])) (k (AX.exit 2) (St.mk (lapp [i64 a, i64 b, .dead, .dead, .ptr 0 0] (lapp (dN 6) (lapp [i64 b, bo (decide (b ≥ 86400))] (dN 7)))) [(0, Ob.mk true 0 (AObj.cells [i64 0, i64 0]))] 1 []))) := by kernel_rfl
theorem g132_out2 (a : Int) (b : Int) (K : List AV → Prop) : loopK N2 (bodyOf Tryd.f93) 1 (finK N2 Tryd.f93 K) (AX.exit 2) (q132 a b) = (K [.agg [i64 a, i64 b]]) := by kernel_rfl
theorem g122_lp (q : Int) (n : Int) (y : Int) (k : AX → St → Prop) : evCode N2 (loopB (bodyOf Tryd.f85) 0) (h122 q n y) k = (brn (leapU y) (brn (decide (n < 366)) (k (AX.exit 0) (St.mk (lapp (dN 5) (lapp [i64 q, i64 n, i64 y, i64 366] (lapp (dN 15) (lapp [i64 n, i64 366, bo (decide (n < 366))] (dN 25))))) [] 0 [])) (k AX.normal (St.mk (lapp (dN 5) (lapp [i64 q, i64 (IntKind.wrap .i64 (n - 366)), i64 (IntKind.wrap .i64 (y + 1)), i64 366] (lapp (dN 21) (lapp [i64 y, i64 (IntKind.wrap .i64 (y + 1))] (dN 20))))) [] 0 []))) (brn (decide (n < 365)) (k (AX.exit 0) (St.mk (lapp (dN 5) (lapp [i64 q, i64 n, i64 y, i64 365] (lapp (dN 15) (lapp [i64 n, i64 365, bo (decide (n < 365))] (dN 25))))) [] 0 [])) (k AX.normal (St.mk (lapp (dN 5) (lapp [i64 q, i64 (IntKind.wrap .i64 (n - 365)), i64 (IntKind.wrap .i64 (y + 1)), i64 365] (lapp (dN 21) (lapp [i64 y, i64 (IntKind.wrap .i64 (y + 1))] (dN 20))))) [] 0 [])))) := by kernel_rfl
theorem g122_out (q : Int) (n : Int) (y : Int) (l : Int) (b : Bool) (K : List AV → Prop) : loopK N2 (bodyOf Tryd.f85) 0 (finK N2 Tryd.f85 K) (AX.exit 0) (o122 q n y l b) = (LoopI N2 (bodyOf Tryd.f85) 1 (St.mk (lapp (dN 5) (lapp [i64 q, i64 n, i64 y, i64 l, i64 1] (dN 42))) [] 0 []) (finK N2 Tryd.f85 K)) := by kernel_rfl
theorem g122_lp2 (q : Int) (n : Int) (y : Int) (m : Int) (k : AX → St → Prop) : evCode N2 (loopB (bodyOf Tryd.f85) 1) (h122b q n y m) k = (brn (decide (n ≥ mdU y m)) (k AX.normal (St.mk (lapp (dN 5) (lapp [i64 q, i64 (IntKind.wrap .i64 (n - mdU y m)), i64 y, .dead, i64 (IntKind.wrap .i64 (m + 1))] (lapp (dN 32) (lapp [i64 m, i64 (IntKind.wrap .i64 (m + 1))] (dN 8))))) [] 0 [])) (k (AX.exit 2) (St.mk (lapp (dN 5) (lapp [i64 q, i64 n, i64 y, .dead, i64 m] (lapp (dN 22) (lapp [i64 n, i64 y, i64 m, i64 (mdU y m), bo (decide (n ≥ mdU y m))] (dN 15))))) [] 0 []))) := by kernel_rfl
theorem g122_out2 (q : Int) (n : Int) (y : Int) (m : Int) (K : List AV → Prop) : loopK N2 (bodyOf Tryd.f85) 1 (finK N2 Tryd.f85 K) (AX.exit 2) (o122b q n y m) = (K [i64 (IntKind.wrap .i64 (IntKind.wrap .i64 ((2000 : Int) + IntKind.wrap .i64 ((400 : Int) * q)) + y)), i64 m, i64 (IntKind.wrap .i64 (n + 1))]) := by kernel_rfl
theorem loop_det {C : Cx} {c : Code} {σ α : Type} (I : σ → St) (Gd : σ → Prop) (μ : σ → Nat) (P : α → Prop) (r : α → List AV) (k : (List AV → Prop) → AX → St → Prop) (hu : C.rounds = 0)
    (step : ∀ s, Gd s → (∃ s' p st1, Gd s' ∧ μ s' < μ s ∧ norm p st1 = some (I s') ∧ ∀ K' : AX → St → Prop, K' .normal st1 → evCode C c (I s) K') ∨
      (∃ x st1, x ≠ .normal ∧ (∀ K' : AX → St → Prop, K' x st1 → evCode C c (I s) K') ∧ ∃ v, P v ∧ ∀ K, K (r v) → k K x st1)) :
    ∀ s, Gd s → ∃ v, P v ∧ ∀ K, K (r v) → ∀ p st, norm p st = some (I s) → evCode C (.loop c) st (k K) := by
  have key : ∀ n s, μ s < n → Gd s → ∃ v, P v ∧ ∀ K, K (r v) → ∀ p st, norm p st = some (I s) → ∃ m, LoopN (evCode C c) (k K) m st := by
    intro n
    induction n with
    | zero => intro s h; omega
    | succ n ih =>
      intro s hμ hs
      rcases step s hs with ⟨s', p', st1, hs', hμ', hn', hb⟩ | ⟨x, st1, hx, hb, v, hv, hk⟩
      · obtain ⟨v, hv, hk⟩ := ih s' (by omega) hs'
        refine ⟨v, hv, fun K hK p st hn => ?_⟩
        obtain ⟨m, hm⟩ := hk K hK p' st1 hn'
        exact ⟨m + 1, p, I s, hn, hb _ hm⟩
      · refine ⟨v, hv, fun K hK p st hn => ⟨1, p, I s, hn, hb _ ?_⟩⟩
        cases x with
        | normal => exact absurd rfl hx
        | _ => exact hk K hK
  intro s hs
  obtain ⟨v, hv, hk⟩ := key (μ s + 1) s (by omega) hs
  refine ⟨v, hv, fun K hK p st hn => ?_⟩
  unfold evCode
  simp only [hu]
  exact hk K hK p st hn
theorem brn_T {b : Bool} {x y : Prop} (h : b = true) (hx : x) : brn b x y := by rw [h]; exact hx
theorem brn_Fa {b : Bool} {x y : Prop} (h : b = false) (hy : y) : brn b x y := by rw [h]; exact hy
theorem ok119e : ∀ args pres res, sBI args = some (pres, res) → SpecOK Tryd.prog G16 82 args pres res := by
  intro args pres res h
  unfold sBI at h
  split at h
  case h_2 => cases h
  cases h
  rename_i b
  exact spec_ok (C := N0) okF13 noCall_ok Tryd.func82 (by kernel_rfl) (by kernel_rfl) (fun hp => Eq.mpr (g119_in _ _) (by cases b <;> rfl))
theorem ok123e : ∀ args pres res, sWk args = some (pres, res) → SpecOK Tryd.prog G16 86 args pres res := by
  intro args pres res h
  unfold sWk at h
  split at h
  case h_2 => cases h
  cases h
  rename_i n
  refine spec_ok (C := N0) okF13 noCall_ok Tryd.func86 (by kernel_rfl) (by kernel_rfl) (fun hp => Eq.mpr (g123_in _ _) ⟨by decide, brn_intro (fun h => ?_) (fun h => ?_)⟩)
  · have h' := of_decide_eq_true h
    unfold wkU
    rw [if_pos h']
    first | done | rfl
  · have h' := of_decide_eq_false h
    unfold wkU
    rw [if_neg h']
    first | done | rfl
theorem ok134e : ∀ args pres res, sLeap args = some (pres, res) → SpecOK Tryd.prog G16 95 args pres res := by
  intro args pres res h
  unfold sLeap at h
  split at h
  case h_2 => cases h
  cases h
  rename_i n
  refine spec_ok (C := N0) okF13 noCall_ok Tryd.func95 (by kernel_rfl) (by kernel_rfl) (fun hp => Eq.mpr (g134_in _ _) ⟨by decide, brn_intro (fun h => ?_) (fun h => ⟨by decide, fun _ => by decide, ?_⟩)⟩)
  · unfold leapU
    rw [h]; first | done | rfl
  · unfold leapU
    rw [h]; first | done | rfl
theorem ok140e : ∀ args pres res, sEra args = some (pres, res) → SpecOK Tryd.prog G16 101 args pres res := by
  intro args pres res h
  unfold sEra at h
  split at h
  case h_2 => cases h
  cases h
  rename_i n
  refine spec_ok (C := N0) okF13 noCall_ok Tryd.func101 (by kernel_rfl) (by kernel_rfl) (fun hp => Eq.mpr (g140_in _ _) ⟨by decide, by decide, brn_intro (fun h => ?_) (fun h => ?_)⟩)
  · have h' := of_decide_eq_true h
    unfold eraK eraR
    rw [if_pos h', if_pos h']
    first | done | rfl
  · have h' := of_decide_eq_false h
    unfold eraK eraR
    rw [if_neg h', if_neg h']
    first | done | rfl
theorem ok121e : ∀ args pres res, sCmp args = some (pres, res) → SpecOK Tryd.prog G16 84 args pres res := by
  intro args pres res h
  unfold sCmp at h
  split at h
  case h_2 => cases h
  cases h
  rename_i a b c d
  refine spec_ok (C := N0) okF13 noCall_ok Tryd.func84 (by kernel_rfl) (by kernel_rfl) (fun hp => Eq.mpr (g121_in _ _ _ _ _) (brn_intro (fun h => ?_) (fun h => brn_intro (fun h2 => ?_) (fun h2 => ?_))))
  · unfold cmpU; rw [if_pos h]; first | done | rfl
  · unfold cmpU; rw [if_neg (by rw [h]; decide), if_pos h2]; first | done | rfl
  · unfold cmpU; rw [if_neg (by rw [h]; decide), if_neg (by rw [h2]; decide)]; first | done | rfl
theorem ok69e : ∀ args pres res, sMinus args = some (pres, res) → SpecOK Tryd.prog G16 43 args pres res := by
  intro args pres res h
  unfold sMinus at h
  split at h
  case h_2 => cases h
  cases h
  rename_i t c
  refine spec_ok (C := N0) okF13 noCall_ok Tryd.func43 (by kernel_rfl) (by kernel_rfl) (fun hp => Eq.mpr (g69_in _ _ _) (brn_intro (fun h => ?_) (fun h => brn_intro (fun h2 => ?_) (fun h2 => ?_))))
  · unfold minU; rw [if_pos h]; first | done | rfl
  · unfold minU; rw [if_neg (by rw [h]; decide), if_pos h2]; first | done | rfl
  · unfold minU; rw [if_neg (by rw [h]; decide), if_neg (by rw [h2]; decide)]; first | done | rfl
theorem okF20 : EOK Tryd.prog F20 G16 := addE_ok (addE_ok (addE_ok (addE_ok (addE_ok (addE_ok okF13 ok119e) ok123e) ok134e) ok140e) ok121e) ok69e
theorem ok135e : ∀ args pres res, sMD args = some (pres, res) → SpecOK Tryd.prog G16 96 args pres res := by
  intro args pres res h
  unfold sMD at h
  split at h
  case h_2 => cases h
  cases h
  rename_i y m
  refine spec_ok (C := N1) okF20 noCall_ok Tryd.func96 (by kernel_rfl) (by kernel_rfl) (fun hp => Eq.mpr (g135_in _ _ _) ?_)
  unfold mdU
  cases h4 : (m == 4 : Bool) with
  | true => exact brn_T rfl (brn_T rfl rfl)
  | false =>
    cases h6 : (m == 6 : Bool) with
    | true => exact brn_Fa rfl (brn_T rfl (brn_T rfl rfl))
    | false =>
      cases h9 : (m == 9 : Bool) with
      | true => exact brn_Fa rfl (brn_Fa rfl (brn_T rfl (brn_T rfl rfl)))
      | false =>
        cases h11 : (m == 11 : Bool) with
        | true => exact brn_Fa rfl (brn_Fa rfl (brn_Fa rfl (brn_T rfl rfl)))
        | false =>
          refine brn_Fa rfl (brn_Fa rfl (brn_Fa rfl (brn_Fa rfl ?_)))
          cases h2 : (m == 2 : Bool) with
          | true =>
            refine brn_T rfl ?_
            cases leapU y with
            | true => exact brn_T rfl rfl
            | false => exact brn_Fa rfl rfl
          | false => exact brn_Fa rfl rfl
theorem ok100e : ∀ args pres res, sSplit args = some (pres, res) → SpecOK Tryd.prog G16 63 args pres res := by
  intro args pres res h
  unfold sSplit at h
  split at h
  case h_2 => cases h
  cases h
  rename_i t
  refine spec_ok (C := N1) okF20 noCall_ok Tryd.func63 (by kernel_rfl) (by kernel_rfl) (fun hp => Eq.mpr (g100_in _ _) ⟨by decide, brn_intro (fun h => ⟨by decide, by decide, by decide, ?_⟩) (fun h => ⟨by decide, by decide, by decide, ?_⟩)⟩)
  · have h' := of_decide_eq_true h
    unfold splD splS; rw [if_pos h']; first | done | rfl
  · have h' := of_decide_eq_false h
    unfold splD splS; rw [if_neg h']; first | done | rfl
theorem okF21 : EOK Tryd.prog F21 G16 := addE_ok (addE_ok okF20 ok135e) ok100e
theorem md_rng (y m : Int) : 28 ≤ mdU y m ∧ mdU y m ≤ 31 := by
  unfold mdU
  split
  · omega
  · split
    · cases leapU y
      · exact ⟨by decide, by decide⟩
      · exact ⟨by decide, by decide⟩
    · omega
theorem yd_ex (y m d : Int) (m1 : 1 ≤ m) (m2 : m ≤ 14) (d1 : -1000000 ≤ d) (d2 : d ≤ 1000000) : ∃ v : Int, (-2000000 ≤ v ∧ v ≤ 2000000) ∧ ∀ K : List AV → Prop, K [i64 v] → evSpec N2 Tryd.f102 [i64 y, i64 m, i64 d] K := by
  have w1 : IntKind.wrap .i64 (d - 1) = d - 1 := wrap64 (by omega) (by omega)
  refine Exists.elim (loop_det (C := N2) (c := loopB (bodyOf Tryd.f102) 0) (fun s : Int × Int => h141 y m s.2 s.1) (fun s => 1 ≤ s.1 ∧ s.1 ≤ m ∧ -1000001 ≤ s.2 ∧ s.2 ≤ 1000000 + 31 * (s.1 - 1)) (fun s => (m - s.1).toNat) (fun v : Int => -2000000 ≤ v ∧ v ≤ 2000000) (fun v => [i64 v])
    (fun K => loopK N2 (bodyOf Tryd.f102) 0 (finK N2 Tryd.f102 K)) rfl (fun s hs => ?_) (1, d - 1) ⟨Int.le_refl 1, m1, by show -1000001 ≤ d - 1; omega, by show d - 1 ≤ _; omega⟩) (fun v hv' => ?_)
  · obtain ⟨i, n⟩ := s
    obtain ⟨a1, a2, a3, a4⟩ := hs
    simp only at a1 a2 a3 a4
    have hm := md_rng y i
    by_cases h : i < m
    · have e1 : IntKind.wrap .i64 (n + mdU y i) = n + mdU y i := wrap64 (by omega) (by omega)
      have e2 : IntKind.wrap .i64 (i + 1) = i + 1 := wrap64 (by omega) (by omega)
      refine .inl ⟨(i + 1, n + mdU y i), p141, _, ⟨by show 1 ≤ i + 1; omega, by show i + 1 ≤ m; omega, by show _ ≤ n + _; omega, by show n + _ ≤ 1000000 + 31 * (i + 1 - 1); omega⟩, by show (m - (i + 1)).toNat < (m - i).toNat; omega, ?_, fun K' hK' => by
        rw [g141_lp]
        exact brn_T (decide_eq_true h) hK'⟩
      rw [e1, e2]
      kernel_rfl
    · refine .inr ⟨.exit 0, _, by simp, fun K' hK' => by
        rw [g141_lp]
        exact brn_Fa (decide_eq_false h) hK', n, ⟨by omega, by omega⟩, fun K hK => ?_⟩
      have key : loopK N2 (bodyOf Tryd.f102) 0 (finK N2 Tryd.f102 K) (AX.exit 0) (o141 y m n i) := Eq.mpr (g141_out y m n i K) hK
      exact Eq.mp (by kernel_rfl) key
  · obtain ⟨hv, hk⟩ := hv'
    refine ⟨v, hv, fun K hK => ?_⟩
    rw [g141_in]
    unfold LoopI
    exact hk K hK p141 _ (by rw [w1]; kernel_rfl)
theorem sh_ex (a b : Int) (a1 : -1000000000000000 ≤ a) (a2 : a ≤ 1000000000000000) (b1 : -1000000 ≤ b) (b2 : b ≤ 1000000) : ∃ v : Int × Int, True ∧ ∀ K : List AV → Prop, K [.agg [i64 v.1, i64 v.2]] → evSpec N2 Tryd.f93 [i64 a, i64 b] K := by
  have second : ∀ a b : Int, -2000000000000000 ≤ a → a ≤ 2000000000000000 → 0 ≤ b → b ≤ 1000000 → ∃ v : Int × Int, True ∧ ∀ K : List AV → Prop, K [.agg [i64 v.1, i64 v.2]] → ∀ p st, norm p st = some (h132 a b) → evCode N2 (.loop (loopB (bodyOf Tryd.f93) 1)) st (loopK N2 (bodyOf Tryd.f93) 1 (finK N2 Tryd.f93 K)) := by
    intro a b a1 a2 b1 b2
    refine loop_det (C := N2) (c := loopB (bodyOf Tryd.f93) 1) (fun s : Int × Int => h132 s.1 s.2) (fun s => -2000000000000000 ≤ s.1 ∧ s.1 + s.2 ≤ 2000000001000000 ∧ 0 ≤ s.2 ∧ s.2 ≤ 1000000) (fun s => s.2.toNat) (fun _ : Int × Int => True) (fun v => [.agg [i64 v.1, i64 v.2]])
      (fun K => loopK N2 (bodyOf Tryd.f93) 1 (finK N2 Tryd.f93 K)) rfl (fun s hs => ?_) (a, b) ⟨a1, by show a + b ≤ _; omega, b1, b2⟩
    obtain ⟨a, b⟩ := s
    obtain ⟨q1, q2, q3, q4⟩ := hs
    simp only at q1 q2 q3 q4
    by_cases h : b ≥ 86400
    · have e1 : IntKind.wrap .i64 (a + 1) = a + 1 := wrap64 (by omega) (by omega)
      have e2 : IntKind.wrap .i64 (b - 86400) = b - 86400 := wrap64 (by omega) (by omega)
      refine .inl ⟨(a + 1, b - 86400), p132, _, ⟨by show _ ≤ a + 1; omega, by show a + 1 + (b - 86400) ≤ _; omega, by show 0 ≤ b - 86400; omega, by show b - 86400 ≤ _; omega⟩, by show (b - 86400).toNat < b.toNat; omega, ?_, fun K' hK' => by
        rw [g132_lp2]
        exact brn_T (decide_eq_true h) hK'⟩
      rw [e1, e2]
      kernel_rfl
    · refine .inr ⟨.exit 2, _, by simp, fun K' hK' => by
        rw [g132_lp2]
        exact brn_Fa (decide_eq_false h) hK', (a, b), trivial, fun K hK => ?_⟩
      have key : loopK N2 (bodyOf Tryd.f93) 1 (finK N2 Tryd.f93 K) (AX.exit 2) (q132 a b) := Eq.mpr (g132_out2 a b K) hK
      exact Eq.mp (by kernel_rfl) key
  refine Exists.elim (loop_det (C := N2) (c := loopB (bodyOf Tryd.f93) 0) (fun s : Int × Int => h132 s.1 s.2) (fun s => s.1 ≤ 1000000000000000 ∧ -1100000000000000 ≤ s.1 + s.2 ∧ -1000000 ≤ s.2 ∧ s.2 ≤ 1000000) (fun s => (1000000 - s.2).toNat) (fun _ : Int × Int => True) (fun v => [.agg [i64 v.1, i64 v.2]])
    (fun K => loopK N2 (bodyOf Tryd.f93) 0 (finK N2 Tryd.f93 K)) rfl (fun s hs => ?_) (a, b) ⟨a2, by show _ ≤ a + b; omega, b1, b2⟩) (fun v hv' => ?_)
  · obtain ⟨a, b⟩ := s
    obtain ⟨q1, q2, q3, q4⟩ := hs
    simp only at q1 q2 q3 q4
    by_cases h : b < 0
    · have e1 : IntKind.wrap .i64 (a - 1) = a - 1 := wrap64 (by omega) (by omega)
      have e2 : IntKind.wrap .i64 (b + 86400) = b + 86400 := wrap64 (by omega) (by omega)
      refine .inl ⟨(a - 1, b + 86400), p132, _, ⟨by show a - 1 ≤ _; omega, by show _ ≤ a - 1 + (b + 86400); omega, by show _ ≤ b + 86400; omega, by show b + 86400 ≤ _; omega⟩, by show (1000000 - (b + 86400)).toNat < (1000000 - b).toNat; omega, ?_, fun K' hK' => by
        rw [g132_lp]
        exact brn_T (decide_eq_true h) hK'⟩
      rw [e1, e2]
      kernel_rfl
    · obtain ⟨v, hv, hk⟩ := second a b (by omega) (by omega) (by omega) q4
      refine .inr ⟨.exit 0, _, by simp, fun K' hK' => by
        rw [g132_lp]
        exact brn_Fa (decide_eq_false h) hK', v, trivial, fun K hK => ?_⟩
      have key : loopK N2 (bodyOf Tryd.f93) 0 (finK N2 Tryd.f93 K) (AX.exit 0) (o132 a b) := by
        refine Eq.mpr (g132_out a b K) ?_
        unfold LoopI
        exact hk K hK p132 _ (by kernel_rfl)
      exact Eq.mp (by kernel_rfl) key
  · obtain ⟨hv, hk⟩ := hv'
    refine ⟨v, hv, fun K hK => ?_⟩
    rw [g132_in]
    unfold LoopI
    exact hk K hK p132 _ (by kernel_rfl)
theorem tdiv_rng {a b n : Int} (hb : 0 < b) (h1 : -(b * n) ≤ a) (h2 : a ≤ b * n) : -n ≤ a.tdiv b ∧ a.tdiv b ≤ n := by
  have hb' : b ≠ 0 := by omega
  have e := Int.tmod_add_mul_tdiv a b
  have m1 := Int.tmod_lt_of_pos a hb
  have m2 : -b < a.tmod b := by
    have := Int.lt_tmod_of_pos a hb
    omega
  generalize a.tdiv b = q at *
  generalize a.tmod b = r at *
  constructor
  · rcases Int.lt_or_le q (-n) with h | h
    · exfalso
      have : b * q ≤ b * (-n - 1) := Int.mul_le_mul_of_nonneg_left (by omega) (by omega)
      have e2 : b * (-n - 1) = -(b * n) - b := by rw [Int.mul_sub, Int.mul_neg, Int.mul_one]
      omega
    · exact h
  · rcases Int.lt_or_le n q with h | h
    · exfalso
      have : b * (n + 1) ≤ b * q := Int.mul_le_mul_of_nonneg_left (by omega) (by omega)
      have e2 : b * (n + 1) = b * n + b := by rw [Int.mul_add, Int.mul_one]
      omega
    · exact h
theorem date_ex (a : Int) (a1 : -200000000000000 ≤ a) (a2 : a ≤ 200000000000000) : ∃ v : Int × Int × Int, (-900000000000 ≤ v.1 ∧ v.1 ≤ 900000000000) ∧ ∀ K : List AV → Prop, K [i64 v.1, i64 v.2.1, i64 v.2.2] → evSpec N2 Tryd.f85 [i64 a] K := by
  have second : ∀ q n y : Int, -2000000000 ≤ q → q ≤ 2000000000 → 0 ≤ n → n ≤ 400 → 0 ≤ y → y ≤ 1000 → ∃ v : Int × Int × Int, (-900000000000 ≤ v.1 ∧ v.1 ≤ 900000000000) ∧ ∀ K : List AV → Prop, K [i64 v.1, i64 v.2.1, i64 v.2.2] → ∀ p st, norm p st = some (h122b q n y 1) →
      evCode N2 (.loop (loopB (bodyOf Tryd.f85) 1)) st (loopK N2 (bodyOf Tryd.f85) 1 (finK N2 Tryd.f85 K)) := by
    intro q n y q1 q2 n1 n2 y1 y2
    refine loop_det (C := N2) (c := loopB (bodyOf Tryd.f85) 1) (fun s : Int × Int => h122b q s.1 y s.2) (fun s => 0 ≤ s.1 ∧ s.1 ≤ 400 ∧ 1 ≤ s.2 ∧ s.2 + s.1 ≤ 500) (fun s => s.1.toNat) (fun v : Int × Int × Int => -900000000000 ≤ v.1 ∧ v.1 ≤ 900000000000) (fun v => [i64 v.1, i64 v.2.1, i64 v.2.2])
      (fun K => loopK N2 (bodyOf Tryd.f85) 1 (finK N2 Tryd.f85 K)) rfl (fun s hs => ?_) (n, 1) ⟨n1, n2, Int.le_refl 1, by show 1 + n ≤ 500; omega⟩
    obtain ⟨n, m⟩ := s
    obtain ⟨r1, r2, r3, r4⟩ := hs
    simp only at r1 r2 r3 r4
    have hm := md_rng y m
    by_cases h : n ≥ mdU y m
    · have e1 : IntKind.wrap .i64 (n - mdU y m) = n - mdU y m := wrap64 (by omega) (by omega)
      have e2 : IntKind.wrap .i64 (m + 1) = m + 1 := wrap64 (by omega) (by omega)
      refine .inl ⟨(n - mdU y m, m + 1), p122b, _, ⟨by show 0 ≤ n - _; omega, by show n - _ ≤ 400; omega, by show 1 ≤ m + 1; omega, by show m + 1 + (n - _) ≤ 500; omega⟩, by show (n - mdU y m).toNat < n.toNat; omega, ?_, fun K' hK' => by
        rw [g122_lp2]
        exact brn_T (decide_eq_true h) hK'⟩
      rw [e1, e2]
      kernel_rfl
    · have e1 : IntKind.wrap .i64 (400 * q) = 400 * q := wrap64 (by omega) (by omega)
      have e2 : IntKind.wrap .i64 (2000 + 400 * q) = 2000 + 400 * q := wrap64 (by omega) (by omega)
      have e3 : IntKind.wrap .i64 (2000 + 400 * q + y) = 2000 + 400 * q + y := wrap64 (by omega) (by omega)
      refine .inr ⟨.exit 2, _, by simp, fun K' hK' => by
        rw [g122_lp2]
        exact brn_Fa (decide_eq_false h) hK', (2000 + 400 * q + y, m, IntKind.wrap .i64 (n + 1)), ⟨by show _ ≤ 2000 + 400 * q + y; omega, by show 2000 + 400 * q + y ≤ _; omega⟩, fun K hK => ?_⟩
      have key : loopK N2 (bodyOf Tryd.f85) 1 (finK N2 Tryd.f85 K) (AX.exit 2) (o122b q n y m) := by
        refine Eq.mpr (g122_out2 q n y m K) ?_
        rw [e1, e2, e3]
        exact hK
      exact Eq.mp (by kernel_rfl) key
  have first : ∀ q n : Int, -2000000000 ≤ q → q ≤ 2000000000 → 0 ≤ n → n ≤ 146097 → ∃ v : Int × Int × Int, (-900000000000 ≤ v.1 ∧ v.1 ≤ 900000000000) ∧ ∀ K : List AV → Prop, K [i64 v.1, i64 v.2.1, i64 v.2.2] → ∀ p st, norm p st = some (h122 q n 0) →
      evCode N2 (.loop (loopB (bodyOf Tryd.f85) 0)) st (loopK N2 (bodyOf Tryd.f85) 0 (finK N2 Tryd.f85 K)) := by
    intro q n q1 q2 n1 n2
    refine loop_det (C := N2) (c := loopB (bodyOf Tryd.f85) 0) (fun s : Int × Int => h122 q s.1 s.2) (fun s => 0 ≤ s.1 ∧ s.1 ≤ 146097 ∧ 0 ≤ s.2 ∧ 365 * s.2 + s.1 ≤ 146097) (fun s => s.1.toNat) (fun v : Int × Int × Int => -900000000000 ≤ v.1 ∧ v.1 ≤ 900000000000) (fun v => [i64 v.1, i64 v.2.1, i64 v.2.2])
      (fun K => loopK N2 (bodyOf Tryd.f85) 0 (finK N2 Tryd.f85 K)) rfl (fun s hs => ?_) (n, 0) ⟨n1, n2, Int.le_refl 0, by show 365 * 0 + n ≤ _; omega⟩
    obtain ⟨n, y⟩ := s
    obtain ⟨r1, r2, r3, r4⟩ := hs
    simp only at r1 r2 r3 r4
    have e2 : IntKind.wrap .i64 (y + 1) = y + 1 := wrap64 (by omega) (by omega)
    have out : ∀ (l : Int) (b : Bool), n < 366 → ∃ v : Int × Int × Int, (-900000000000 ≤ v.1 ∧ v.1 ≤ 900000000000) ∧ ∀ K : List AV → Prop, K [i64 v.1, i64 v.2.1, i64 v.2.2] → loopK N2 (bodyOf Tryd.f85) 0 (finK N2 Tryd.f85 K) (AX.exit 0) (o122 q n y l b) := by
      intro l b hn
      obtain ⟨v, hv, hk⟩ := second q n y q1 q2 r1 (by omega) r3 (by omega)
      refine ⟨v, hv, fun K hK => ?_⟩
      refine Eq.mpr (g122_out q n y l b K) ?_
      unfold LoopI
      exact hk K hK p122b _ (by kernel_rfl)
    cases hl : leapU y with
    | true =>
      by_cases h : n < 366
      · obtain ⟨v, hv, hk⟩ := out 366 true h
        refine .inr ⟨.exit 0, _, by simp, fun K' hK' => by
          rw [g122_lp, hl]
          exact brn_T rfl (brn_T (decide_eq_true h) hK'), v, hv, fun K hK => ?_⟩
        exact Eq.mp (by kernel_rfl) (hk K hK)
      · have e1 : IntKind.wrap .i64 (n - 366) = n - 366 := wrap64 (by omega) (by omega)
        refine .inl ⟨(n - 366, y + 1), p122, _, ⟨by show 0 ≤ n - 366; omega, by show n - 366 ≤ _; omega, by show 0 ≤ y + 1; omega, by show 365 * (y + 1) + (n - 366) ≤ _; omega⟩, by show (n - 366).toNat < n.toNat; omega, ?_, fun K' hK' => by
          rw [g122_lp, hl]
          exact brn_T rfl (brn_Fa (decide_eq_false h) hK')⟩
        rw [e1, e2]
        kernel_rfl
    | false =>
      by_cases h : n < 365
      · obtain ⟨v, hv, hk⟩ := out 365 false (by omega)
        refine .inr ⟨.exit 0, _, by simp, fun K' hK' => by
          rw [g122_lp, hl]
          exact brn_Fa rfl (brn_T (decide_eq_true h) hK'), v, hv, fun K hK => ?_⟩
        exact Eq.mp (by kernel_rfl) (hk K hK)
      · have e1 : IntKind.wrap .i64 (n - 365) = n - 365 := wrap64 (by omega) (by omega)
        refine .inl ⟨(n - 365, y + 1), p122, _, ⟨by show 0 ≤ n - 365; omega, by show n - 365 ≤ _; omega, by show 0 ≤ y + 1; omega, by show 365 * (y + 1) + (n - 365) ≤ _; omega⟩, by show (n - 365).toNat < n.toNat; omega, ?_, fun K' hK' => by
          rw [g122_lp, hl]
          exact brn_Fa rfl (brn_Fa (decide_eq_false h) hK')⟩
        rw [e1, e2]
        kernel_rfl
  have w0 : IntKind.wrap .i64 (a - 10957) = a - 10957 := wrap64 (by omega) (by omega)
  obtain ⟨t1, t2⟩ := tdiv_rng (a := a - 10957) (b := 146097) (n := 1999999990) (by decide) (by omega) (by omega)
  have m1 := Int.tmod_lt_of_pos (a - 10957) (show (0 : Int) < 146097 by decide)
  have m2 := Int.lt_tmod_of_pos (a - 10957) (show (0 : Int) < 146097 by decide)
  have w1 : IntKind.wrap .i64 (Int.tdiv (a - 10957) 146097) = Int.tdiv (a - 10957) 146097 := wrap64 (by omega) (by omega)
  have w2 : IntKind.wrap .i64 (Int.tdiv (a - 10957) 146097 - 1) = Int.tdiv (a - 10957) 146097 - 1 := wrap64 (by omega) (by omega)
  have w3 : IntKind.wrap .i64 (Int.tmod (a - 10957) 146097 + 146097) = Int.tmod (a - 10957) 146097 + 146097 := wrap64 (by omega) (by omega)
  by_cases h : Int.tmod (a - 10957) 146097 < 0
  · obtain ⟨v, hv, hk⟩ := first (Int.tdiv (a - 10957) 146097 - 1) (Int.tmod (a - 10957) 146097 + 146097) (by omega) (by omega) (by omega) (by omega)
    refine ⟨v, hv, fun K hK => ?_⟩
    rw [g122_in, w0, w1, w2, w3]
    refine ⟨by decide, by decide, brn_T (decide_eq_true h) ?_⟩
    unfold LoopI
    exact hk K hK p122 _ (by kernel_rfl)
  · obtain ⟨v, hv, hk⟩ := first (Int.tdiv (a - 10957) 146097) (Int.tmod (a - 10957) 146097) (by omega) (by omega) (by omega) (by omega)
    refine ⟨v, hv, fun K hK => ?_⟩
    rw [g122_in, w0, w1, w2, w3]
    refine ⟨by decide, by decide, brn_Fa (decide_eq_false h) ?_⟩
    unfold LoopI
    exact hk K hK p122 _ (by kernel_rfl)
end PF
set_option maxRecDepth 100000
namespace PF
open Go Go.AE Go.Proofs PE
noncomputable def ydV (y m d : Int) : Int := Classical.epsilon fun v : Int => (-2000000 ≤ v ∧ v ≤ 2000000) ∧ ∀ K : List AV → Prop, K [i64 v] → evSpec N2 Tryd.f102 [i64 y, i64 m, i64 d] K
noncomputable def shV (a b : Int) : Int × Int := Classical.epsilon fun v : Int × Int => True ∧ ∀ K : List AV → Prop, K [.agg [i64 v.1, i64 v.2]] → evSpec N2 Tryd.f93 [i64 a, i64 b] K
noncomputable def dtV (a : Int) : Int × Int × Int := Classical.epsilon fun v : Int × Int × Int => (-900000000000 ≤ v.1 ∧ v.1 ≤ 900000000000) ∧ ∀ K : List AV → Prop, K [i64 v.1, i64 v.2.1, i64 v.2.2] → evSpec N2 Tryd.f85 [i64 a] K
noncomputable def sYD : List AV → Option (List Prop × List AV)
  | [.imm (.int .i64 y), .imm (.int .i64 m), .imm (.int .i64 d)] => some ([1 ≤ m, m ≤ 14, -1000000 ≤ d, d ≤ 1000000], [i64 (ydV y m d)])
  | _ => none
noncomputable def sShift : List AV → Option (List Prop × List AV)
  | [.imm (.int .i64 a), .imm (.int .i64 b)] => some ([-1000000000000000 ≤ a, a ≤ 1000000000000000, -1000000 ≤ b, b ≤ 1000000], [.agg [i64 (shV a b).1, i64 (shV a b).2]])
  | _ => none
noncomputable def sDate : List AV → Option (List Prop × List AV)
  | [.imm (.int .i64 a)] => some ([-200000000000000 ≤ a, a ≤ 200000000000000], [i64 (dtV a).1, i64 (dtV a).2.1, i64 (dtV a).2.2])
  | _ => none
noncomputable def F22 := addE (addE (addE F21 102 sYD) 93 sShift) 85 sDate
noncomputable def N3 : Cx := ⟨Tryd.prog, F22, noCall, G16, 4020⟩
theorem yd_spec {y m d : Int} (m1 : 1 ≤ m) (m2 : m ≤ 14) (d1 : -1000000 ≤ d) (d2 : d ≤ 1000000) : (-2000000 ≤ ydV y m d ∧ ydV y m d ≤ 2000000) ∧ ∀ K : List AV → Prop, K [i64 (ydV y m d)] → evSpec N2 Tryd.f102 [i64 y, i64 m, i64 d] K :=
  Classical.epsilon_spec (yd_ex y m d m1 m2 d1 d2)
theorem sh_spec {a b : Int} (a1 : -1000000000000000 ≤ a) (a2 : a ≤ 1000000000000000) (b1 : -1000000 ≤ b) (b2 : b ≤ 1000000) : True ∧ ∀ K : List AV → Prop, K [.agg [i64 (shV a b).1, i64 (shV a b).2]] → evSpec N2 Tryd.f93 [i64 a, i64 b] K :=
  Classical.epsilon_spec (sh_ex a b a1 a2 b1 b2)
theorem dt_spec {a : Int} (a1 : -200000000000000 ≤ a) (a2 : a ≤ 200000000000000) : (-900000000000 ≤ (dtV a).1 ∧ (dtV a).1 ≤ 900000000000) ∧ ∀ K : List AV → Prop, K [i64 (dtV a).1, i64 (dtV a).2.1, i64 (dtV a).2.2] → evSpec N2 Tryd.f85 [i64 a] K :=
  Classical.epsilon_spec (date_ex a a1 a2)
theorem ok141e : ∀ args pres res, sYD args = some (pres, res) → SpecOK Tryd.prog G16 102 args pres res := by
  intro args pres res h
  unfold sYD at h
  split at h
  case h_2 => cases h
  cases h
  exact spec_ok (C := N2) okF21 noCall_ok Tryd.func102 (by kernel_rfl) (by kernel_rfl) (fun hp => (yd_spec (hp _ (by simp)) (hp _ (by simp)) (hp _ (by simp)) (hp _ (by simp))).2 _ rfl)
theorem ok132e : ∀ args pres res, sShift args = some (pres, res) → SpecOK Tryd.prog G16 93 args pres res := by
  intro args pres res h
  unfold sShift at h
  split at h
  case h_2 => cases h
  cases h
  exact spec_ok (C := N2) okF21 noCall_ok Tryd.func93 (by kernel_rfl) (by kernel_rfl) (fun hp => (sh_spec (hp _ (by simp)) (hp _ (by simp)) (hp _ (by simp)) (hp _ (by simp))).2 _ rfl)
theorem ok122e : ∀ args pres res, sDate args = some (pres, res) → SpecOK Tryd.prog G16 85 args pres res := by
  intro args pres res h
  unfold sDate at h
  split at h
  case h_2 => cases h
  cases h
  exact spec_ok (C := N2) okF21 noCall_ok Tryd.func85 (by kernel_rfl) (by kernel_rfl) (fun hp => (dt_spec (hp _ (by simp)) (hp _ (by simp))).2 _ rfl)
theorem okF22 : EOK Tryd.prog F22 G16 := addE_ok (addE_ok (addE_ok okF21 ok141e) ok132e) ok122e
attribute [local irreducible] evCode evSpec loopB loopK norm
theorem g139_in (y : Int) (m : Int) (d : Int) (K : List AV → Prop) : evSpec N3 Tryd.f100 [i64 y, i64 m, i64 d] K = (LoopI N3 (bodyOf Tryd.f100) 0 (St.mk (lapp [i64 y, i64 m, i64 d, .dead, .dead, .dead, i64 0, i64 (eraK y), i64 (eraR y), i64 (IntKind.wrap .i64 ((10957 : Int) + IntKind.wrap .i64 (eraK y * 146097))), i64 0, .tup [i64 (eraK y), i64 (eraR y)], i64 y, .tup [i64 (eraK y), i64 (eraR y)], i64 (eraK y), i64 (eraR y), i64 (eraK y), i64 (IntKind.wrap .i64 (eraK y * 146097)), i64 (IntKind.wrap .i64 ((10957 : Int) + IntKind.wrap .i64 (eraK y * 146097)))] (dN 17)) [] 0 []) (finK N3 Tryd.f100 K)) := by kernel_rfl
theorem g139_lp (y : Int) (m : Int) (d : Int) (r : Int) (n : Int) (i : Int) (k : AX → St → Prop) : evCode N3 (loopB (bodyOf Tryd.f100) 0) (h139 y m d r n i) k = (brn (decide (i < r)) (brn (leapU i) (k AX.normal (St.mk (lapp [i64 y, i64 m, i64 d] (lapp (dN 5) (lapp [i64 r, i64 (IntKind.wrap .i64 (IntKind.wrap .i64 (n + 365) + 1)), i64 (IntKind.wrap .i64 (i + 1))] (lapp (dN 8) (lapp [i64 i, .dead, .dead, i64 i, i64 (IntKind.wrap .i64 (i + 1))] (dN 12)))))) [] 0 [])) (k AX.normal (St.mk (lapp [i64 y, i64 m, i64 d] (lapp (dN 5) (lapp [i64 r, i64 (IntKind.wrap .i64 (n + 365)), i64 (IntKind.wrap .i64 (i + 1))] (lapp (dN 8) (lapp [i64 i, .dead, .dead, i64 i, i64 (IntKind.wrap .i64 (i + 1))] (dN 12)))))) [] 0 []))) (k (AX.exit 0) (St.mk (lapp [i64 y, i64 m, i64 d] (lapp (dN 5) (lapp [i64 r, i64 n, i64 i] (lapp (dN 8) (lapp [i64 i, i64 r, bo (decide (i < r))] (dN 14)))))) [] 0 []))) := by kernel_rfl
theorem g139_out (y : Int) (m : Int) (d : Int) (r : Int) (n : Int) (i : Int) (K : List AV → Prop) : loopK N3 (bodyOf Tryd.f100) 0 (finK N3 Tryd.f100 K) (AX.exit 0) (o139 y m d r n i) = ((1 : Int) ≤ m ∧ m ≤ 14 ∧ (-1000000 : Int) ≤ d ∧ d ≤ 1000000 ∧ K [i64 (IntKind.wrap .i64 (n + ydV y m d))]) := by kernel_rfl
theorem g102_in (t : Int) (K : List AV → Prop) : evSpec N3 Tryd.f65 [i64 t] K = ((-200000000000000 : Int) ≤ splD t ∧ splD t ≤ 200000000000000 ∧ (3600 : Int) ≠ 0 ∧ (3600 : Int) ≠ 0 ∧ (60 : Int) ≠ 0 ∧ (60 : Int) ≠ 0 ∧ K [.agg [i64 ((dtV (splD t)).1), i64 ((dtV (splD t)).2.1), i64 ((dtV (splD t)).2.2), i64 (IntKind.wrap .i64 (Int.tdiv (splS t) (3600 : Int))), i64 (IntKind.wrap .i64 (Int.tdiv (Int.tmod (splS t) (3600 : Int)) (60 : Int))), i64 (Int.tmod (splS t) (60 : Int)), i64 (wkU (splD t))]]) := by kernel_rfl
end PF
set_option maxRecDepth 100000
namespace PF
open Go Go.AE Go.Proofs PE
noncomputable def dyV (y m d : Int) : Int := Classical.epsilon fun v : Int => (-500000000000000 ≤ v ∧ v ≤ 500000000000000) ∧ ∀ K : List AV → Prop, K [i64 v] → evSpec N3 Tryd.f100 [i64 y, i64 m, i64 d] K
noncomputable def ofC (t : Int) : List AV := [i64 (dtV (splD t)).1, i64 (dtV (splD t)).2.1, i64 (dtV (splD t)).2.2, i64 (IntKind.wrap .i64 (Int.tdiv (splS t) 3600)), i64 (IntKind.wrap .i64 (Int.tdiv (Int.tmod (splS t) 3600) 60)), i64 (Int.tmod (splS t) 60), i64 (wkU (splD t))]
noncomputable def sDays : List AV → Option (List Prop × List AV)
  | [.imm (.int .i64 y), .imm (.int .i64 m), .imm (.int .i64 d)] => some ([-1000000000000 ≤ y, y ≤ 1000000000000, 1 ≤ m, m ≤ 14, -1000000 ≤ d, d ≤ 1000000], [i64 (dyV y m d)])
  | _ => none
noncomputable def sOf : List AV → Option (List Prop × List AV)
  | [.imm (.int .i64 t)] => some ([-9223372036854775808 ≤ t, t ≤ 9223372036854775807], [.agg (ofC t)])
  | _ => none
noncomputable def F23 := addE (addE F22 100 sDays) 65 sOf
noncomputable def N4 : Cx := ⟨Tryd.prog, F23, noCall, G16, 4012⟩
def rdO (a b c d e f : Int) : List (Nat × Ob) := [(0, ⟨true, 0, .cells (rdC a b c d e f)⟩)]
def h133 (a b c d e f y m g : Int) : St := ⟨spr [(1, i64 y), (2, .ptr 0 0), (6, i64 m), (7, i64 g)] 0 71, rdO a b c d e f, 1, []⟩
def o133 (a b c d e f y m g : Int) : St := ⟨spr [(1, i64 y), (2, .ptr 0 0), (6, i64 m), (7, i64 g), (26, i64 g), (27, i64 m), (28, i64 (mdU 2001 m)), (29, bo (decide (g > mdU 2001 m)))] 0 71, rdO a b c d e f, 1, []⟩
def p133 : Plan := ⟨[], msk [1, 2, 6, 7] 0 71, [0]⟩
def h133b (a b c d e f y s u x n : Int) : St := ⟨spr [(1, i64 y), (2, .ptr 0 0), (8, i64 s), (9, i64 u), (10, i64 x), (11, i64 n)] 0 71, rdO a b c d e f, 1, []⟩
def o133b (a b c d e f y s u x n : Int) : St := ⟨spr [(1, i64 y), (2, .ptr 0 0), (8, i64 s), (9, i64 u), (10, i64 x), (11, i64 n), (46, i64 n), (47, i64 s), (48, i64 y), (49, .ptr 0 2), (50, i64 c), (51, i64 (mdU y c)), (52, i64 (IntKind.wrap .i64 (s + mdU y c))), (53, bo (decide (n < IntKind.wrap .i64 (s + mdU y c))))] 0 71, rdO a b c d e f, 1, []⟩
def p133b : Plan := ⟨[], msk [1, 2, 8, 9, 10, 11] 0 71, [0]⟩
attribute [local irreducible] loopK evCode evSpec loopB norm
theorem era_rng {y : Int} (y1 : -1000000000000 ≤ y) (y2 : y ≤ 1000000000000) : -2600000000 ≤ eraK y ∧ eraK y ≤ 2600000000 ∧ 0 ≤ eraR y ∧ eraR y < 400 := by
  have w0 : IntKind.wrap .i64 (y - 2000) = y - 2000 := wrap64 (by omega) (by omega)
  obtain ⟨t1, t2⟩ := tdiv_rng (a := y - 2000) (b := 400) (n := 2500000010) (by decide) (by omega) (by omega)
  have m1 := Int.tmod_lt_of_pos (y - 2000) (show (0 : Int) < 400 by decide)
  have m2 := Int.lt_tmod_of_pos (y - 2000) (show (0 : Int) < 400 by decide)
  unfold eraK eraR
  rw [w0]
  have w1 : IntKind.wrap .i64 (Int.tdiv (y - 2000) 400) = Int.tdiv (y - 2000) 400 := wrap64 (by omega) (by omega)
  have w2 : IntKind.wrap .i64 (Int.tdiv (y - 2000) 400 - 1) = Int.tdiv (y - 2000) 400 - 1 := wrap64 (by omega) (by omega)
  have w3 : IntKind.wrap .i64 (Int.tmod (y - 2000) 400 + 400) = Int.tmod (y - 2000) 400 + 400 := wrap64 (by omega) (by omega)
  rw [w1, w2, w3]
  split <;> omega
theorem days_ex (y m d : Int) (y1 : -1000000000000 ≤ y) (y2 : y ≤ 1000000000000) (m1 : 1 ≤ m) (m2 : m ≤ 14) (d1 : -1000000 ≤ d) (d2 : d ≤ 1000000) : ∃ v : Int, (-500000000000000 ≤ v ∧ v ≤ 500000000000000) ∧ ∀ K : List AV → Prop, K [i64 v] → evSpec N3 Tryd.f100 [i64 y, i64 m, i64 d] K := by
  obtain ⟨k1, k2, r1, r2⟩ := era_rng y1 y2
  have w1 : IntKind.wrap .i64 (eraK y * 146097) = eraK y * 146097 := wrap64 (by omega) (by omega)
  have w2 : IntKind.wrap .i64 (10957 + eraK y * 146097) = 10957 + eraK y * 146097 := wrap64 (by omega) (by omega)
  obtain ⟨⟨v1, v2⟩, _⟩ := yd_spec (y := y) m1 m2 d1 d2
  refine Exists.elim (loop_det (C := N3) (c := loopB (bodyOf Tryd.f100) 0) (fun s : Int × Int => h139 y m d (eraR y) s.2 s.1) (fun s => 0 ≤ s.1 ∧ s.1 ≤ eraR y ∧ -400000000000000 ≤ s.2 ∧ s.2 ≤ 400000000000000 + 366 * s.1) (fun s => (eraR y - s.1).toNat) (fun v : Int => -500000000000000 ≤ v ∧ v ≤ 500000000000000) (fun v => [i64 v])
    (fun K => loopK N3 (bodyOf Tryd.f100) 0 (finK N3 Tryd.f100 K)) rfl (fun s hs => ?_) (0, 10957 + eraK y * 146097) ⟨Int.le_refl 0, r1, by show _ ≤ 10957 + _; omega, by show 10957 + _ ≤ _; omega⟩) (fun v hv' => ?_)
  · obtain ⟨i, n⟩ := s
    obtain ⟨a1, a2, a3, a4⟩ := hs
    simp only at a1 a2 a3 a4
    have e0 : IntKind.wrap .i64 (i + 1) = i + 1 := wrap64 (by omega) (by omega)
    have e1 : IntKind.wrap .i64 (n + 365) = n + 365 := wrap64 (by omega) (by omega)
    have e2 : IntKind.wrap .i64 (n + 365 + 1) = n + 365 + 1 := wrap64 (by omega) (by omega)
    by_cases h : i < eraR y
    · cases hl : leapU i with
      | true =>
        refine .inl ⟨(i + 1, n + 365 + 1), p139, _, ⟨by show 0 ≤ i + 1; omega, by show i + 1 ≤ _; omega, by show _ ≤ n + 365 + 1; omega, by show n + 365 + 1 ≤ _ + 366 * (i + 1); omega⟩, by show (eraR y - (i + 1)).toNat < (eraR y - i).toNat; omega, ?_, fun K' hK' => by
          rw [g139_lp, hl]
          exact brn_T (decide_eq_true h) (brn_T rfl hK')⟩
        rw [e0, e1, e2]
        kernel_rfl
      | false =>
        refine .inl ⟨(i + 1, n + 365), p139, _, ⟨by show 0 ≤ i + 1; omega, by show i + 1 ≤ _; omega, by show _ ≤ n + 365; omega, by show n + 365 ≤ _ + 366 * (i + 1); omega⟩, by show (eraR y - (i + 1)).toNat < (eraR y - i).toNat; omega, ?_, fun K' hK' => by
          rw [g139_lp, hl]
          exact brn_T (decide_eq_true h) (brn_Fa rfl hK')⟩
        rw [e0, e1]
        kernel_rfl
    · have e3 : IntKind.wrap .i64 (n + ydV y m d) = n + ydV y m d := wrap64 (by omega) (by omega)
      refine .inr ⟨.exit 0, _, by simp, fun K' hK' => by
        rw [g139_lp]
        exact brn_Fa (decide_eq_false h) hK', n + ydV y m d, ⟨by omega, by omega⟩, fun K hK => ?_⟩
      have key : loopK N3 (bodyOf Tryd.f100) 0 (finK N3 Tryd.f100 K) (AX.exit 0) (o139 y m d (eraR y) n i) := Eq.mpr (g139_out y m d (eraR y) n i K) ⟨m1, m2, d1, d2, by rw [e3]; exact hK⟩
      exact Eq.mp (by kernel_rfl) key
  · obtain ⟨hv, hk⟩ := hv'
    refine ⟨v, hv, fun K hK => ?_⟩
    rw [g139_in]
    unfold LoopI
    exact hk K hK p139 _ (by rw [w1, w2]; kernel_rfl)
theorem dy_spec {y m d : Int} (y1 : -1000000000000 ≤ y) (y2 : y ≤ 1000000000000) (m1 : 1 ≤ m) (m2 : m ≤ 14) (d1 : -1000000 ≤ d) (d2 : d ≤ 1000000) : (-500000000000000 ≤ dyV y m d ∧ dyV y m d ≤ 500000000000000) ∧ ∀ K : List AV → Prop, K [i64 (dyV y m d)] → evSpec N3 Tryd.f100 [i64 y, i64 m, i64 d] K :=
  Classical.epsilon_spec (days_ex y m d y1 y2 m1 m2 d1 d2)
theorem spl_rng {t : Int} (t1 : -9223372036854775808 ≤ t) (t2 : t ≤ 9223372036854775807) : -200000000000000 ≤ splD t ∧ splD t ≤ 200000000000000 := by
  have m1 := Int.tmod_lt_of_pos t (show (0 : Int) < 86400 by decide)
  have m2 := Int.lt_tmod_of_pos t (show (0 : Int) < 86400 by decide)
  have e := Int.tmod_add_mul_tdiv t 86400
  have b0 : 0 ≤ biU (decide (Int.tmod t 86400 < 0)) ∧ biU (decide (Int.tmod t 86400 < 0)) ≤ 1 := by
    cases decide (Int.tmod t 86400 < 0)
    · exact ⟨by decide, by decide⟩
    · exact ⟨by decide, by decide⟩
  have hs : t - Int.tmod t 86400 = 86400 * Int.tdiv t 86400 := by omega
  have w0 : IntKind.wrap .i64 (t - Int.tmod t 86400) = t - Int.tmod t 86400 := by
    refine wrap64 ?_ ?_
    · rcases Int.lt_or_le t 0 with h | h
      · have : Int.tmod t 86400 ≤ 0 := by
          have := Int.tmod_nonneg (a := -t) 86400 (by omega)
          rw [Int.neg_tmod] at this
          omega
        omega
      · omega
    · rcases Int.lt_or_le t 0 with h | h
      · omega
      · have : 0 ≤ Int.tmod t 86400 := Int.tmod_nonneg 86400 h
        omega
  obtain ⟨q1, q2⟩ := tdiv_rng (a := t - Int.tmod t 86400) (b := 86400) (n := 110000000000000) (by decide) (by omega) (by omega)
  have w1 : IntKind.wrap .i64 (Int.tdiv (t - Int.tmod t 86400) 86400) = Int.tdiv (t - Int.tmod t 86400) 86400 := wrap64 (by omega) (by omega)
  unfold splD
  rw [w0, w1, wrap64 (by omega) (by omega)]
  omega
theorem ok139e : ∀ args pres res, sDays args = some (pres, res) → SpecOK Tryd.prog G16 100 args pres res := by
  intro args pres res h
  unfold sDays at h
  split at h
  case h_2 => cases h
  cases h
  exact spec_ok (C := N3) okF22 noCall_ok Tryd.func100 (by kernel_rfl) (by kernel_rfl) (fun hp => (dy_spec (hp _ (by simp)) (hp _ (by simp)) (hp _ (by simp)) (hp _ (by simp)) (hp _ (by simp)) (hp _ (by simp))).2 _ rfl)
theorem ok102e : ∀ args pres res, sOf args = some (pres, res) → SpecOK Tryd.prog G16 65 args pres res := by
  intro args pres res h
  unfold sOf at h
  split at h
  case h_2 => cases h
  cases h
  rename_i t
  exact spec_ok (C := N3) okF22 noCall_ok Tryd.func65 (by kernel_rfl) (by kernel_rfl) (fun hp => by
    obtain ⟨q1, q2⟩ := spl_rng (t := t) (hp _ (by simp)) (hp _ (by simp))
    exact Eq.mpr (g102_in t _) ⟨q1, q2, by decide, by decide, by decide, by decide, rfl⟩)
theorem okF23 : EOK Tryd.prog F23 G16 := addE_ok (addE_ok okF22 ok139e) ok102e
end PF
set_option maxRecDepth 100000
namespace PF
open Go Go.AE Go.Proofs PE
attribute [local irreducible] loopK evCode evSpec loopB norm
theorem g133_in (a : Int) (b : Int) (c : Int) (d : Int) (e : Int) (f : Int) (y : Int) (K : List AV → Prop) : evSpec N4 Tryd.f94 [.agg (rdC a b c d e f), i64 y] K = ((-1000000000000 : Int) ≤ y ∧ y ≤ 1000000000000 ∧ (1 : Int) ≤ 1 ∧ (1 : Int) ≤ 14 ∧ (-1000000 : Int) ≤ 1 ∧ (1 : Int) ≤ 1000000 ∧ brn (a == 2) (K [i64 (IntKind.wrap .i64 (dyV y (1 : Int) (1 : Int) + b))]) (brn (a == 1) (LoopI N4 (bodyOf Tryd.f94) 0 (St.mk (lapp [.agg [i64 a, i64 b, i64 c, i64 d, i64 e, i64 f], i64 y, .ptr 0 0, .dead, i64 0, i64 (dyV y (1 : Int) (1 : Int)), i64 1, i64 b] (lapp (dN 16) (lapp [.ptr 0 1, i64 b] (dN 45)))) [(0, Ob.mk true 0 (AObj.cells [i64 a, i64 b, i64 c, i64 d, i64 e, i64 f]))] 1 []) (finK N4 Tryd.f94 K)) ((-1000000000000 : Int) ≤ y ∧ y ≤ 1000000000000 ∧ (1 : Int) ≤ c ∧ c ≤ 14 ∧ (-1000000 : Int) ≤ 1 ∧ (1 : Int) ≤ 1000000 ∧ LoopI N4 (bodyOf Tryd.f94) 1 (St.mk (lapp [.agg [i64 a, i64 b, i64 c, i64 d, i64 e, i64 f], i64 y, .ptr 0 0, .dead, i64 0, i64 (dyV y (1 : Int) (1 : Int)), .dead, .dead, i64 (dyV y c (1 : Int)), i64 0, i64 (dyV y c (1 : Int)), i64 (dyV y c (1 : Int))] (lapp (dN 33) (lapp [i64 (dyV y c (1 : Int))] (dN 25)))) [(0, Ob.mk true 0 (AObj.cells [i64 a, i64 b, i64 c, i64 d, i64 e,
 i64 f]))] 1 []) (finK N4 Tryd.f94 K)))) := by kernel_rfl
theorem g133_lp (a : Int) (b : Int) (c : Int) (d : Int) (e : Int) (f : Int) (y : Int) (m : Int) (g : Int) (k : AX → St → Prop) : evCode N4 (loopB (bodyOf Tryd.f94) 0) (h133 a b c d e f y m g) k = (brn (decide (g > mdU (2001 : Int) m)) (k AX.normal (St.mk (lapp [.dead, i64 y, .ptr 0 0, .dead, .dead, .dead, i64 (IntKind.wrap .i64 (m + 1)), i64 (IntKind.wrap .i64 (g - mdU (2001 : Int) m))] (lapp (dN 26) (lapp [i64 m, i64 (IntKind.wrap .i64 (m + 1))] (dN 35)))) [(0, Ob.mk true 0 (AObj.cells [i64 a, i64 b, i64 c, i64 d, i64 e, i64 f]))] 1 [])) (k (AX.exit 0) (St.mk (lapp [.dead, i64 y, .ptr 0 0, .dead, .dead, .dead, i64 m, i64 g] (lapp (dN 18) (lapp [i64 g, i64 m, i64 (mdU (2001 : Int) m), bo (decide (g > mdU (2001 : Int) m))] (dN 41)))) [(0, Ob.mk true 0 (AObj.cells [i64 a, i64 b, i64 c, i64 d, i64 e, i64 f]))] 1 []))) := by kernel_rfl
theorem g133_out (a : Int) (b : Int) (c : Int) (d : Int) (e : Int) (f : Int) (y : Int) (m : Int) (g : Int) (K : List AV → Prop) : loopK N4 (bodyOf Tryd.f94) 0 (finK N4 Tryd.f94 K) (AX.exit 0) (o133 a b c d e f y m g) = ((-1000000000000 : Int) ≤ y ∧ y ≤ 1000000000000 ∧ (1 : Int) ≤ m ∧ m ≤ 14 ∧ (-1000000 : Int) ≤ g ∧ g ≤ 1000000 ∧ K [i64 (dyV y m g)]) := by kernel_rfl
theorem g133_lp2 (a : Int) (b : Int) (c : Int) (d : Int) (e : Int) (f : Int) (y : Int) (s : Int) (u : Int) (x : Int) (n : Int) (k : AX → St → Prop) : evCode N4 (loopB (bodyOf Tryd.f94) 1) (h133b a b c d e f y s u x n) k = (let A4 : Prop := ((k AX.normal (St.mk (lapp [.dead, i64 y, .ptr 0 0] (lapp (dN 5) (lapp [i64 s, i64 u, i64 x, i64 (IntKind.wrap .i64 (n + 1))] (lapp (dN 42) (lapp [i64 n, i64 (IntKind.wrap .i64 (n + 1))] (dN 15)))))) [(0, Ob.mk true 0 (AObj.cells [i64 a, i64 b, i64 c, i64 d, i64 e, i64 f]))] 1 []))); let A17 : Prop := ((brn (wkU n == e) (brn (decide (u < d)) (k AX.normal (St.mk (lapp [.dead, i64 y, .ptr 0 0] (lapp (dN 5) (lapp [i64 s, i64 (IntKind.wrap .i64 (u + 1)), i64 n, i64 (IntKind.wrap .i64 (n + 1))] (lapp (dN 42) (lapp [i64 n, i64 (IntKind.wrap .i64 (n + 1))] (dN 15)))))) [(0, Ob.mk true 0 (AObj.cells [i64 a, i64 b, i64 c, i64 d, i64 e, i64 f]))] 1 [])) A4) A4)); brn (decide (n < IntKind.wrap .i64 (s + mdU y c))) (A17 ∧ A17) (k (AX.exit 2) (St.mk (lapp [.dead, i64 y, .ptr 0 0] (lapp (dN 5) (lapp [i64 s, i64 u, i64 x, i64 n] (lapp (dN 34) (lapp [i64 n, i64 s, i64 y, .ptr 0 2, i64 c, i64 (mdU y c), i64 (IntKind.wrap .i64 (s + mdU y c)), bo (decide (n <
 IntKind.wrap .i64 (s + mdU y c)))] (dN 17)))))) [(0, Ob.mk true 0 (AObj.cells [i64 a, i64 b, i64 c, i64 d, i64 e, i64 f]))] 1 []))) := by kernel_rfl
theorem g133_out2 (a : Int) (b : Int) (c : Int) (d : Int) (e : Int) (f : Int) (y : Int) (s : Int) (u : Int) (x : Int) (n : Int) (K : List AV → Prop) : loopK N4 (bodyOf Tryd.f94) 1 (finK N4 Tryd.f94 K) (AX.exit 2) (o133b a b c d e f y s u x n) = (K [i64 x]) := by kernel_rfl
theorem vDay_elim {a b c d e f : Int} (h : vDay a b c d e f = true) : (-604799 ≤ f ∧ f ≤ 604799) ∧ ((a = 1 ∧ 1 ≤ b ∧ b ≤ 365) ∨ (a = 2 ∧ 0 ≤ b ∧ b ≤ 365) ∨ (a = 3 ∧ 1 ≤ c ∧ c ≤ 12)) := by
  unfold vDay at h
  split at h
  · cases h
  · rename_i h0
    simp only [Bool.or_eq_true, decide_eq_true_eq, not_or] at h0
    refine ⟨by omega, ?_⟩
    split at h
    · rename_i h1
      simp only [Bool.and_eq_true, decide_eq_true_eq, beq_iff_eq] at h h1
      exact .inl ⟨h1, h.1.1.1.1, h.1.1.1.2⟩
    · split at h
      · rename_i h2
        simp only [Bool.and_eq_true, decide_eq_true_eq, beq_iff_eq] at h h2
        exact .inr (.inl ⟨h2, h.1.1.1.1, h.1.1.1.2⟩)
      · simp only [Bool.and_eq_true, decide_eq_true_eq, beq_iff_eq] at h
        exact .inr (.inr ⟨h.1.1.1.1.1.1.1, h.1.1.1.1.1.2, h.1.1.1.1.2⟩)
theorem rday_ex (a b c d e f y : Int) (hv : vDay a b c d e f = true) (y1 : -1000000000000 ≤ y) (y2 : y ≤ 1000000000000) : ∃ v : Int, (-600000000000000 ≤ v ∧ v ≤ 600000000000000) ∧ ∀ K : List AV → Prop, K [i64 v] → evSpec N4 Tryd.f94 [.agg (rdC a b c d e f), i64 y] K := by
  obtain ⟨hf, hcase⟩ := vDay_elim hv
  obtain ⟨⟨q1, q2⟩, _⟩ := dy_spec (y := y) (m := 1) (d := 1) y1 y2 (by decide) (by decide) (by decide) (by decide)
  by_cases h2 : a = 2
  · have hb : 0 ≤ b ∧ b ≤ 365 := by omega
    have w : IntKind.wrap .i64 (dyV y 1 1 + b) = dyV y 1 1 + b := wrap64 (by omega) (by omega)
    refine ⟨dyV y 1 1 + b, ⟨by omega, by omega⟩, fun K hK => ?_⟩
    rw [g133_in, w]
    exact ⟨y1, y2, by decide, by decide, by decide, by decide, brn_T (by rw [h2]; rfl) hK⟩
  · have n2 : (a == (2 : Int)) = false := by rw [beq_eq_false_iff_ne]; exact h2
    by_cases h1 : a = 1
    · have hb : 1 ≤ b ∧ b ≤ 365 := by omega
      refine Exists.elim (loop_det (C := N4) (c := loopB (bodyOf Tryd.f94) 0) (fun s : Int × Int => h133 a b c d e f y s.1 s.2) (fun s => 1 ≤ s.1 ∧ 1 ≤ s.2 ∧ s.2 + 28 * (s.1 - 1) ≤ 365) (fun s => s.2.toNat) (fun v : Int => -600000000000000 ≤ v ∧ v ≤ 600000000000000) (fun v => [i64 v])
        (fun K => loopK N4 (bodyOf Tryd.f94) 0 (finK N4 Tryd.f94 K)) rfl (fun s hs => ?_) (1, b) ⟨Int.le_refl 1, hb.1, by show b + 28 * (1 - 1) ≤ 365; omega⟩) (fun v hv' => ?_)
      · obtain ⟨m, g⟩ := s
        obtain ⟨r1, r2, r3⟩ := hs
        simp only at r1 r2 r3
        have hm := md_rng 2001 m
        by_cases h : g > mdU 2001 m
        · have e1 : IntKind.wrap .i64 (g - mdU 2001 m) = g - mdU 2001 m := wrap64 (by omega) (by omega)
          have e2 : IntKind.wrap .i64 (m + 1) = m + 1 := wrap64 (by omega) (by omega)
          refine .inl ⟨(m + 1, g - mdU 2001 m), p133, _, ⟨by show 1 ≤ m + 1; omega, by show 1 ≤ g - _; omega, by show g - _ + 28 * (m + 1 - 1) ≤ 365; omega⟩, by show (g - mdU 2001 m).toNat < g.toNat; omega, ?_, fun K' hK' => by
            rw [g133_lp]
            exact brn_T (decide_eq_true h) hK'⟩
          rw [e1, e2]
          kernel_rfl
        · have hm13 : m ≤ 14 := by omega
          obtain ⟨⟨v1, v2⟩, _⟩ := dy_spec (y := y) (m := m) (d := g) y1 y2 r1 hm13 (by omega) (by omega)
          refine .inr ⟨.exit 0, _, by simp, fun K' hK' => by
            rw [g133_lp]
            exact brn_Fa (decide_eq_false h) hK', dyV y m g, ⟨by omega, by omega⟩, fun K hK => ?_⟩
          have key : loopK N4 (bodyOf Tryd.f94) 0 (finK N4 Tryd.f94 K) (AX.exit 0) (o133 a b c d e f y m g) := Eq.mpr (g133_out a b c d e f y m g K) ⟨y1, y2, r1, hm13, by omega, by omega, hK⟩
          exact Eq.mp (by kernel_rfl) key
      · obtain ⟨hv1, hk⟩ := hv'
        refine ⟨v, hv1, fun K hK => ?_⟩
        rw [g133_in]
        refine ⟨y1, y2, by decide, by decide, by decide, by decide, brn_Fa n2 (brn_T (by rw [h1]; rfl) ?_)⟩
        unfold LoopI
        exact hk K hK p133 _ (by kernel_rfl)
    · have n1 : (a == (1 : Int)) = false := by rw [beq_eq_false_iff_ne]; exact h1
      have hc : 1 ≤ c ∧ c ≤ 14 := by omega
      obtain ⟨⟨s1, s2⟩, _⟩ := dy_spec (y := y) (m := c) (d := 1) y1 y2 hc.1 hc.2 (by decide) (by decide)
      have hm := md_rng y c
      have ws : IntKind.wrap .i64 (dyV y c 1 + mdU y c) = dyV y c 1 + mdU y c := wrap64 (by omega) (by omega)
      refine Exists.elim (loop_det (C := N4) (c := loopB (bodyOf Tryd.f94) 1) (fun s : Int × Int × Int => h133b a b c d e f y (dyV y c 1) s.1 s.2.1 s.2.2) (fun s => 0 ≤ s.1 ∧ s.1 ≤ s.2.2 - dyV y c 1 ∧ -600000000000000 ≤ s.2.1 ∧ s.2.1 ≤ 600000000000000 ∧ dyV y c 1 ≤ s.2.2 ∧ s.2.2 ≤ dyV y c 1 + mdU y c) (fun s => (dyV y c 1 + mdU y c - s.2.2).toNat) (fun v : Int => -600000000000000 ≤ v ∧ v ≤ 600000000000000) (fun v => [i64 v])
        (fun K => loopK N4 (bodyOf Tryd.f94) 1 (finK N4 Tryd.f94 K)) rfl (fun s hs => ?_) (0, dyV y c 1, dyV y c 1) ⟨Int.le_refl 0, by show 0 ≤ dyV y c 1 - dyV y c 1; omega, by show _ ≤ dyV y c 1; omega, by show dyV y c 1 ≤ _; omega, Int.le_refl _, by show dyV y c 1 ≤ _; omega⟩) (fun v hv' => ?_)
      · obtain ⟨u, x, n⟩ := s
        obtain ⟨r1, r2, r3, r4, r5, r6⟩ := hs
        simp only at r1 r2 r3 r4 r5 r6
        have e0 : IntKind.wrap .i64 (n + 1) = n + 1 := wrap64 (by omega) (by omega)
        have e1 : IntKind.wrap .i64 (u + 1) = u + 1 := wrap64 (by omega) (by omega)
        by_cases h : n < dyV y c 1 + mdU y c
        · have hμ : (dyV y c 1 + mdU y c - (n + 1)).toNat < (dyV y c 1 + mdU y c - n).toNat := by omega
          by_cases hw : wkU n = e ∧ u < d
          · refine .inl ⟨(u + 1, n, n + 1), p133b, _, ⟨by show 0 ≤ u + 1; omega, by show u + 1 ≤ n + 1 - _; omega, by show _ ≤ n; omega, by show n ≤ _; omega, by show _ ≤ n + 1; omega, by show n + 1 ≤ _; omega⟩, hμ, ?_, fun K' hK' => by
              rw [g133_lp2]
              intro A4 A17
              rw [ws]
              have a17 : A17 := brn_T (by rw [hw.1]; exact beq_self_eq_true e) (brn_T (decide_eq_true hw.2) hK')
              exact brn_T (decide_eq_true h) ⟨a17, a17⟩⟩
            rw [e0, e1]
            kernel_rfl
          · refine .inl ⟨(u, x, n + 1), p133b, _, ⟨r1, by show u ≤ n + 1 - _; omega, r3, r4, by show _ ≤ n + 1; omega, by show n + 1 ≤ _; omega⟩, hμ, ?_, fun K' hK' => by
              rw [g133_lp2]
              intro A4 A17
              rw [ws]
              have a17 : A17 := by
                refine brn_intro (fun g1 => brn_intro (fun g2 => ?_) (fun _ => hK')) (fun _ => hK')
                exact absurd ⟨by simpa using g1, of_decide_eq_true g2⟩ hw
              exact brn_T (decide_eq_true h) ⟨a17, a17⟩⟩
            rw [e0]
            kernel_rfl
        · refine .inr ⟨.exit 2, _, by simp, fun K' hK' => by
            rw [g133_lp2]
            intro A4 A17
            exact brn_Fa (by rw [ws]; exact decide_eq_false h) hK', x, ⟨r3, r4⟩, fun K hK => ?_⟩
          have key : loopK N4 (bodyOf Tryd.f94) 1 (finK N4 Tryd.f94 K) (AX.exit 2) (o133b a b c d e f y (dyV y c 1) u x n) := Eq.mpr (g133_out2 a b c d e f y (dyV y c 1) u x n K) hK
          exact Eq.mp (by kernel_rfl) key
      · obtain ⟨hv1, hk⟩ := hv'
        refine ⟨v, hv1, fun K hK => ?_⟩
        rw [g133_in]
        refine ⟨y1, y2, by decide, by decide, by decide, by decide, brn_Fa n2 (brn_Fa n1 ⟨y1, y2, hc.1, hc.2, by decide, by decide, ?_⟩)⟩
        unfold LoopI
        exact hk K hK p133b _ (by kernel_rfl)
end PF
set_option maxRecDepth 100000
namespace PF
open Go Go.AE Go.Proofs PE
noncomputable def rdV (a b c d e f y : Int) : Int := Classical.epsilon fun v : Int => (-600000000000000 ≤ v ∧ v ≤ 600000000000000) ∧ ∀ K : List AV → Prop, K [i64 v] → evSpec N4 Tryd.f94 [.agg (rdC a b c d e f), i64 y] K
noncomputable def sRday : List AV → Option (List Prop × List AV)
  | [.agg [.imm (.int .i64 a), .imm (.int .i64 b), .imm (.int .i64 c), .imm (.int .i64 d), .imm (.int .i64 e), .imm (.int .i64 f)], .imm (.int .i64 y)] => some ([vDay a b c d e f = true, -1000000000000 ≤ y, y ≤ 1000000000000], [i64 (rdV a b c d e f y)])
  | _ => none
noncomputable def F24 := addE F23 94 sRday
noncomputable def N5 : Cx := ⟨Tryd.prog, F24, noCall, G16, 4008⟩
def okRu (o p : Int) (h : Bool) (vs ve : Bool) : Prop := -100000 ≤ o ∧ o ≤ 100000 ∧ -200000 ≤ p ∧ p ≤ 200000 ∧ (h = true → vs = true ∧ ve = true)
noncomputable def ch1 (o a b c d e f y : Int) : Int × Int := shV (rdV a b c d e f y) (IntKind.wrap .i64 (f - o))
noncomputable def sChg : List AV → Option (List Prop × List AV)
  | [.agg [.imm (.str s), .imm (.int .i64 o), .imm (.bool h), .imm (.str t), .imm (.int .i64 p), .imm (.int .i64 a), .imm (.int .i64 b), .imm (.int .i64 c), .imm (.int .i64 d), .imm (.int .i64 e), .imm (.int .i64 f), .imm (.int .i64 a'), .imm (.int .i64 b'), .imm (.int .i64 c'), .imm (.int .i64 d'), .imm (.int .i64 e'), .imm (.int .i64 f')], .imm (.int .i64 y)] =>
    some ([okRu o p true (vDay a b c d e f) (vDay a' b' c' d' e' f'), -1000000000000 ≤ y, y ≤ 1000000000000], [.agg [i64 (ch1 o a b c d e f y).1, i64 (ch1 o a b c d e f y).2], .agg [i64 (ch1 p a' b' c' d' e' f' y).1, i64 (ch1 p a' b' c' d' e' f' y).2]])
  | _ => none
noncomputable def F25 := addE F24 83 sChg
noncomputable def N6 : Cx := ⟨Tryd.prog, F25, noCall, G16, 4013⟩
def on0 (s : List UInt8) (o : Int) (h : Bool) (t : List UInt8) (p a b c d e f a' b' c' d' e' f' x z l1 l2 : Int) : List (Nat × Ob) := [(0, ⟨true, 0, .cells (ruC s o h t p (rdC a b c d e f) (rdC a' b' c' d' e' f'))⟩), (1, ⟨true, 0, .cells [i64 x, i64 z]⟩), (2, ⟨true, 0, .cells [i64 l1, i64 l2]⟩)]
def h101 (s : List UInt8) (o : Int) (h : Bool) (t : List UInt8) (p a b c d e f a' b' c' d' e' f' x z y l1 l2 : Int) (on fd : Bool) (i : Int) : St :=
  ⟨spr [(2, i64 y), (3, .ptr 0 0), (4, .ptr 1 0), (7, .ptr 2 0), (8, bo on), (9, bo fd), (10, i64 i)] 0 61, on0 s o h t p a b c d e f a' b' c' d' e' f' x z l1 l2, 3, []⟩
def o101 (s : List UInt8) (o : Int) (h : Bool) (t : List UInt8) (p a b c d e f a' b' c' d' e' f' x z y l1 l2 : Int) (on fd : Bool) (i : Int) : St :=
  ⟨spr [(2, i64 y), (3, .ptr 0 0), (4, .ptr 1 0), (7, .ptr 2 0), (8, bo on), (9, bo fd), (10, i64 i), (18, i64 i), (19, i64 y), (20, i64 (IntKind.wrap .i64 (y + 2))), (21, bo (decide (i ≤ IntKind.wrap .i64 (y + 2))))] 0 61, on0 s o h t p a b c d e f a' b' c' d' e' f' x z l1 l2, 3, []⟩
def p101 : Plan := ⟨[], msk [2, 3, 4, 7, 8, 9, 10] 0 61, [0, 1, 2]⟩
theorem rd_spec {a b c d e f y : Int} (hv : vDay a b c d e f = true) (y1 : -1000000000000 ≤ y) (y2 : y ≤ 1000000000000) : (-600000000000000 ≤ rdV a b c d e f y ∧ rdV a b c d e f y ≤ 600000000000000) ∧ ∀ K : List AV → Prop, K [i64 (rdV a b c d e f y)] → evSpec N4 Tryd.f94 [.agg (rdC a b c d e f), i64 y] K :=
  Classical.epsilon_spec (rday_ex a b c d e f y hv y1 y2)
theorem ok133e : ∀ args pres res, sRday args = some (pres, res) → SpecOK Tryd.prog G16 94 args pres res := by
  intro args pres res h
  unfold sRday at h
  split at h
  case h_2 => cases h
  cases h
  exact spec_ok (C := N4) okF23 noCall_ok Tryd.func94 (by kernel_rfl) (by kernel_rfl) (fun hp => (rd_spec (hp _ (by simp)) (hp _ (by simp)) (hp _ (by simp))).2 _ rfl)
theorem okF24 : EOK Tryd.prog F24 G16 := addE_ok okF23 ok133e
attribute [local irreducible] evCode evSpec loopB loopK norm
theorem g120_in (s : List UInt8) (o : Int) (h : Bool) (t : List UInt8) (p : Int) (a : Int) (b : Int) (c : Int) (d : Int) (e : Int) (f : Int) (a' : Int) (b' : Int) (c' : Int) (d' : Int) (e' : Int) (f' : Int) (y : Int) (K : List AV → Prop) : evSpec N5 Tryd.f83 [.agg (ruC s o h t p (rdC a b c d e f) (rdC a' b' c' d' e' f')), i64 y] K = (let E1 : Prop := ((sm (St.mk (lapp [.agg [.imm (.str s), i64 o, bo h, .imm (.str t), i64 p, i64 a, i64 b, i64 c, i64 d, i64 e, i64 f, i64 a', i64 b', i64 c', i64 d', i64 e', i64 f'], i64 y, .ptr 0 0, .dead, .ptr 1 0, .ptr 2 0, .ptr 3 0, .dead, .ptr 0 5, .agg [i64 a, i64 b, i64 c, i64 d, i64 e, i64 f], i64 y, i64 (rdV a b c d e f y), .ptr 0 5, .ptr 0 10, i64 f, .ptr 0 1, i64 o, i64 (IntKind.wrap .i64 (f - o)), .agg [i64 ((shV (rdV a b c d e f y) (IntKind.wrap .i64 (f - o))).1), i64 ((shV (rdV a b c d e f y) (IntKind.wrap .i64 (f - o))).2)]] (dN 13)) [(0, Ob.mk true 0 (AObj.cells [.imm (.str s), i64 o, bo h, .imm (.str t), i64 p, i64 a, i64 b, i64 c, i64 d, i64 e, i64 f, i64 a', i64 b', i64 c', i64 d', i64 e', i64 f'])), (1, Ob.mk true 0 (AObj.cells [i64 0, i64 0])), (2, Ob.mk true 0 (AObj.cells [i64 0, i64 0])), (3, Ob.mk true 0 (AObj.cells [i64 ((shV
 (rdV a b c d e f y) (IntKind.wrap .i64 (f - o))).1), i64 ((shV (rdV a b c d e f y) (IntKind.wrap .i64 (f - o))).2)]))] 4 []))); let E2 : Prop := ((sm (St.mk (lapp [.agg [.imm (.str s), i64 o, bo h, .imm (.str t), i64 p, i64 a, i64 b, i64 c, i64 d, i64 e, i64 f, i64 a', i64 b', i64 c', i64 d', i64 e', i64 f'], i64 y, .ptr 0 0, .dead, .ptr 1 0, .ptr 2 0, .ptr 3 0, .ptr 4 0] (lapp (dN 11) [.ptr 0 11, .agg [i64 a', i64 b', i64 c', i64 d', i64 e', i64 f'], i64 y, i64 (rdV a' b' c' d' e' f' y), .ptr 0 11, .ptr 0 16, i64 f', .ptr 0 4, i64 p, i64 (IntKind.wrap .i64 (f' - p)), .agg [i64 ((shV (rdV a' b' c' d' e' f' y) (IntKind.wrap .i64 (f' - p))).1), i64 ((shV (rdV a' b' c' d' e' f' y) (IntKind.wrap .i64 (f' - p))).2)], .dead, .dead])) [(0, Ob.mk true 0 (AObj.cells [.imm (.str s), i64 o, bo h, .imm (.str t), i64 p, i64 a, i64 b, i64 c, i64 d, i64 e, i64 f, i64 a', i64 b', i64 c', i64 d', i64 e', i64 f'])), (1, Ob.mk true 0 (AObj.cells [i64 0, i64 0])), (2, Ob.mk true 0 (AObj.cells [i64 0, i64 0])), (3, Ob.mk true 0 (AObj.cells [i64 ((shV (rdV a b c d e f y) (IntKind.wrap .i64 (f - o))).1), i64 ((shV (rdV a b c d e f y) (IntKind.wrap .i64 (f - o))).2)])), (4, Ob.mk true 0 (AObj.cells [i64
 ((shV (rdV a' b' c' d' e' f' y) (IntKind.wrap .i64 (f' - p))).1), i64 ((shV (rdV a' b' c' d' e' f' y) (IntKind.wrap .i64 (f' - p))).2)]))] 5 []))); let E3 : Prop := ((sm (St.mk (lapp [.agg [.imm (.str s), i64 o, bo h, .imm (.str t), i64 p, i64 a, i64 b, i64 c, i64 d, i64 e, i64 f, i64 a', i64 b', i64 c', i64 d', i64 e', i64 f'], i64 y, .ptr 0 0, .dead, .ptr 1 0, .ptr 2 0, .ptr 3 0, .ptr 4 0] (lapp (dN 22) [.agg [i64 ((shV (rdV a b c d e f y) (IntKind.wrap .i64 (f - o))).1), i64 ((shV (rdV a b c d e f y) (IntKind.wrap .i64 (f - o))).2)], .agg [i64 ((shV (rdV a' b' c' d' e' f' y) (IntKind.wrap .i64 (f' - p))).1), i64 ((shV (rdV a' b' c' d' e' f' y) (IntKind.wrap .i64 (f' - p))).2)]])) [(0, Ob.mk true 0 (AObj.cells [.imm (.str s), i64 o, bo h, .imm (.str t), i64 p, i64 a, i64 b, i64 c, i64 d, i64 e, i64 f, i64 a', i64 b', i64 c', i64 d', i64 e', i64 f'])), (1, Ob.mk true 0 (AObj.cells [i64 ((shV (rdV a b c d e f y) (IntKind.wrap .i64 (f - o))).1), i64 ((shV (rdV a b c d e f y) (IntKind.wrap .i64 (f - o))).2)])), (2, Ob.mk true 0 (AObj.cells [i64 ((shV (rdV a' b' c' d' e' f' y) (IntKind.wrap .i64 (f' - p))).1), i64 ((shV (rdV a' b' c' d' e' f' y) (IntKind.wrap .i64 (f' - p))).2)])), (3,
 Ob.mk true 0 (AObj.cells [i64 ((shV (rdV a b c d e f y) (IntKind.wrap .i64 (f - o))).1), i64 ((shV (rdV a b c d e f y) (IntKind.wrap .i64 (f - o))).2)])), (4, Ob.mk true 0 (AObj.cells [i64 ((shV (rdV a' b' c' d' e' f' y) (IntKind.wrap .i64 (f' - p))).1), i64 ((shV (rdV a' b' c' d' e' f' y) (IntKind.wrap .i64 (f' - p))).2)]))] 5 []))); ((vDay a b c d e f = true ∧ (-1000000000000 : Int) ≤ y ∧ y ≤ 1000000000000 ∧ ((-1000000000000000 : Int) ≤ rdV a b c d e f y ∧ rdV a b c d e f y ≤ 1000000000000000 ∧ (-1000000 : Int) ≤ IntKind.wrap .i64 (f - o) ∧ IntKind.wrap .i64 (f - o) ≤ 1000000 ∧ E1) ∧ (-1000000000000000 : Int) ≤ rdV a b c d e f y ∧ rdV a b c d e f y ≤ 1000000000000000 ∧ (-1000000 : Int) ≤ IntKind.wrap .i64 (f - o) ∧ IntKind.wrap .i64 (f - o) ≤ 1000000 ∧ E1) ∧ vDay a b c d e f = true ∧ (-1000000000000 : Int) ≤ y ∧ y ≤ 1000000000000 ∧ (-1000000000000000 : Int) ≤ rdV a b c d e f y ∧ rdV a b c d e f y ≤ 1000000000000000 ∧ (-1000000 : Int) ≤ IntKind.wrap .i64 (f - o) ∧ IntKind.wrap .i64 (f - o) ≤ 1000000 ∧ E1) ∧ ((vDay a' b' c' d' e' f' = true ∧ (-1000000000000 : Int) ≤ y ∧ y ≤ 1000000000000 ∧ ((-1000000000000000 : Int) ≤ rdV a' b' c' d' e' f' y ∧ rdV a' b' c' d' e' f' y ≤
 1000000000000000 ∧ (-1000000 : Int) ≤ IntKind.wrap .i64 (f' - p) ∧ IntKind.wrap .i64 (f' - p) ≤ 1000000 ∧ E2) ∧ (-1000000000000000 : Int) ≤ rdV a' b' c' d' e' f' y ∧ rdV a' b' c' d' e' f' y ≤ 1000000000000000 ∧ (-1000000 : Int) ≤ IntKind.wrap .i64 (f' - p) ∧ IntKind.wrap .i64 (f' - p) ≤ 1000000 ∧ E2) ∧ vDay a' b' c' d' e' f' = true ∧ (-1000000000000 : Int) ≤ y ∧ y ≤ 1000000000000 ∧ (-1000000000000000 : Int) ≤ rdV a' b' c' d' e' f' y ∧ rdV a' b' c' d' e' f' y ≤ 1000000000000000 ∧ (-1000000 : Int) ≤ IntKind.wrap .i64 (f' - p) ∧ IntKind.wrap .i64 (f' - p) ≤ 1000000 ∧ E2) ∧ E3 ∧ K [.agg [i64 ((shV (rdV a b c d e f y) (IntKind.wrap .i64 (f - o))).1), i64 ((shV (rdV a b c d e f y) (IntKind.wrap .i64 (f - o))).2)], .agg [i64 ((shV (rdV a' b' c' d' e' f' y) (IntKind.wrap .i64 (f' - p))).1), i64 ((shV (rdV a' b' c' d' e' f' y) (IntKind.wrap .i64 (f' - p))).2)]]) := by kernel_rfl
theorem g101_in (s : List UInt8) (o : Int) (h : Bool) (t : List UInt8) (p : Int) (a : Int) (b : Int) (c : Int) (d : Int) (e : Int) (f : Int) (a' : Int) (b' : Int) (c' : Int) (d' : Int) (e' : Int) (f' : Int) (x : Int) (z : Int) (y : Int) (K : List AV → Prop) : evSpec N6 Tryd.f64 [.agg (ruC s o h t p (rdC a b c d e f) (rdC a' b' c' d' e' f')), .agg [i64 x, i64 z], i64 y] K = (brn (!h) (K [bo false]) (LoopI N6 (bodyOf Tryd.f64) 0 (St.mk (lapp [.agg [.imm (.str s), i64 o, bo h, .imm (.str t), i64 p, i64 a, i64 b, i64 c, i64 d, i64 e, i64 f, i64 a', i64 b', i64 c', i64 d', i64 e', i64 f'], .agg [i64 x, i64 z], i64 y, .ptr 0 0, .ptr 1 0, .dead, bo false, .ptr 2 0, bo false, bo false, i64 (IntKind.wrap .i64 (y - 3))] (lapp (dN 5) (lapp [i64 y, i64 (IntKind.wrap .i64 (y - 3))] (dN 43)))) [(0, Ob.mk true 0 (AObj.cells [.imm (.str s), i64 o, bo h, .imm (.str t), i64 p, i64 a, i64 b, i64 c, i64 d, i64 e, i64 f, i64 a', i64 b', i64 c', i64 d', i64 e', i64 f'])), (1, Ob.mk true 0 (AObj.cells [i64 x, i64 z])), (2, Ob.mk true 0 (AObj.cells [i64 0, i64 0]))] 3 []) (finK N6 Tryd.f64 K))) := by kernel_rfl
theorem g101_lp (s : List UInt8) (o : Int) (h : Bool) (t : List UInt8) (p : Int) (a : Int) (b : Int) (c : Int) (d : Int) (e : Int) (f : Int) (a' : Int) (b' : Int) (c' : Int) (d' : Int) (e' : Int) (f' : Int) (x : Int) (z : Int) (y : Int) (l1 : Int) (l2 : Int) (on : Bool) (fd : Bool) (i : Int) (k : AX → St → Prop) : evCode N6 (loopB (bodyOf Tryd.f64) 0) (h101 s o h t p a b c d e f a' b' c' d' e' f' x z y l1 l2 on fd i) k = (let A1 : Prop := ((k AX.normal (St.mk (lapp [.dead, .dead, i64 y, .ptr 0 0, .ptr 1 0, .dead, .dead, .ptr 2 0, bo true, bo true, i64 (IntKind.wrap .i64 (i + 1)), .ptr 3 0, .ptr 4 0] (lapp (dN 9) (lapp [i64 i, i64 (IntKind.wrap .i64 (i + 1))] (dN 37)))) [(0, Ob.mk true 0 (AObj.cells [.imm (.str s), i64 o, bo h, .imm (.str t), i64 p, i64 a, i64 b, i64 c, i64 d, i64 e, i64 f, i64 a', i64 b', i64 c', i64 d', i64 e', i64 f'])), (1, Ob.mk true 0 (AObj.cells [i64 x, i64 z])), (2, Ob.mk true 0 (AObj.cells [i64 ((ch1 o a b c d e f i).1), i64 ((ch1 o a b c d e f i).2)])), (3, Ob.mk true 0 (AObj.cells [i64 ((ch1 o a b c d e f i).1), i64 ((ch1 o a b c d e f i).2)])), (4, Ob.mk true 0 (AObj.cells [i64 ((ch1 p a' b' c' d' e' f' i).1), i64 ((ch1 p a' b' c' d' e' f' i).2)]))] 5
 []))); brn (decide (i ≤ IntKind.wrap .i64 (y + 2))) (okRu o p true (vDay a b c d e f) (vDay a' b' c' d' e' f') ∧ (-1000000000000 : Int) ≤ i ∧ i ≤ 1000000000000 ∧ brn (decide (cmpU (ch1 p a' b' c' d' e' f' i).1 (ch1 p a' b' c' d' e' f' i).2 x z ≤ 0) && (!fd || decide (cmpU (ch1 p a' b' c' d' e' f' i).1 (ch1 p a' b' c' d' e' f' i).2 l1 l2 > 0))) (brn (decide (cmpU (ch1 o a b c d e f i).1 (ch1 o a b c d e f i).2 x z ≤ 0) && (!true || decide (cmpU (ch1 o a b c d e f i).1 (ch1 o a b c d e f i).2 (ch1 p a' b' c' d' e' f' i).1 (ch1 p a' b' c' d' e' f' i).2 ≥ 0))) A1 (k AX.normal (St.mk (lapp [.dead, .dead, i64 y, .ptr 0 0, .ptr 1 0, .dead, .dead, .ptr 2 0, bo false, bo true, i64 (IntKind.wrap .i64 (i + 1)), .ptr 3 0, .ptr 4 0] (lapp (dN 9) (lapp [i64 i, i64 (IntKind.wrap .i64 (i + 1))] (dN 37)))) [(0, Ob.mk true 0 (AObj.cells [.imm (.str s), i64 o, bo h, .imm (.str t), i64 p, i64 a, i64 b, i64 c, i64 d, i64 e, i64 f, i64 a', i64 b', i64 c', i64 d', i64 e', i64 f'])), (1, Ob.mk true 0 (AObj.cells [i64 x, i64 z])), (2, Ob.mk true 0 (AObj.cells [i64 ((ch1 p a' b' c' d' e' f' i).1), i64 ((ch1 p a' b' c' d' e' f' i).2)])), (3, Ob.mk true 0 (AObj.cells [i64 ((ch1 o a b c d e f i).1), i64 ((ch1 o
 a b c d e f i).2)])), (4, Ob.mk true 0 (AObj.cells [i64 ((ch1 p a' b' c' d' e' f' i).1), i64 ((ch1 p a' b' c' d' e' f' i).2)]))] 5 []))) (brn (decide (cmpU (ch1 o a b c d e f i).1 (ch1 o a b c d e f i).2 x z ≤ 0) && (!fd || decide (cmpU (ch1 o a b c d e f i).1 (ch1 o a b c d e f i).2 l1 l2 ≥ 0))) A1 (k AX.normal (St.mk (lapp [.dead, .dead, i64 y, .ptr 0 0, .ptr 1 0, .dead, .dead, .ptr 2 0, bo on, bo fd, i64 (IntKind.wrap .i64 (i + 1)), .ptr 3 0, .ptr 4 0] (lapp (dN 9) (lapp [i64 i, i64 (IntKind.wrap .i64 (i + 1))] (dN 37)))) [(0, Ob.mk true 0 (AObj.cells [.imm (.str s), i64 o, bo h, .imm (.str t), i64 p, i64 a, i64 b, i64 c, i64 d, i64 e, i64 f, i64 a', i64 b', i64 c', i64 d', i64 e', i64 f'])), (1, Ob.mk true 0 (AObj.cells [i64 x, i64 z])), (2, Ob.mk true 0 (AObj.cells [i64 l1, i64 l2])), (3, Ob.mk true 0 (AObj.cells [i64 ((ch1 o a b c d e f i).1), i64 ((ch1 o a b c d e f i).2)])), (4, Ob.mk true 0 (AObj.cells [i64 ((ch1 p a' b' c' d' e' f' i).1), i64 ((ch1 p a' b' c' d' e' f' i).2)]))] 5 [])))) (k (AX.exit 0) (St.mk (lapp [.dead, .dead, i64 y, .ptr 0 0, .ptr 1 0, .dead, .dead, .ptr 2 0, bo on, bo fd, i64 i] (lapp (dN 7) (lapp [i64 i, i64 y, i64 (IntKind.wrap .i64 (y + 2)), bo
 (decide (i ≤ IntKind.wrap .i64 (y + 2)))] (dN 39)))) [(0, Ob.mk true 0 (AObj.cells [.imm (.str s), i64 o, bo h, .imm (.str t), i64 p, i64 a, i64 b, i64 c, i64 d, i64 e, i64 f, i64 a', i64 b', i64 c', i64 d', i64 e', i64 f'])), (1, Ob.mk true 0 (AObj.cells [i64 x, i64 z])), (2, Ob.mk true 0 (AObj.cells [i64 l1, i64 l2]))] 3 []))) := by kernel_rfl
theorem g101_out (s : List UInt8) (o : Int) (h : Bool) (t : List UInt8) (p : Int) (a : Int) (b : Int) (c : Int) (d : Int) (e : Int) (f : Int) (a' : Int) (b' : Int) (c' : Int) (d' : Int) (e' : Int) (f' : Int) (x : Int) (z : Int) (y : Int) (l1 : Int) (l2 : Int) (on : Bool) (fd : Bool) (i : Int) (K : List AV → Prop) : loopK N6 (bodyOf Tryd.f64) 0 (finK N6 Tryd.f64 K) (AX.exit 0) (o101 s o h t p a b c d e f a' b' c' d' e' f' x z y l1 l2 on fd i) = (K [bo on]) := by kernel_rfl
theorem chg_ev (s : List UInt8) (o : Int) (h : Bool) (t : List UInt8) (p a b c d e f a' b' c' d' e' f' y : Int) (hr : okRu o p true (vDay a b c d e f) (vDay a' b' c' d' e' f')) (y1 : -1000000000000 ≤ y) (y2 : y ≤ 1000000000000) (K : List AV → Prop)
    (hK : K [.agg [i64 (ch1 o a b c d e f y).1, i64 (ch1 o a b c d e f y).2], .agg [i64 (ch1 p a' b' c' d' e' f' y).1, i64 (ch1 p a' b' c' d' e' f' y).2]]) : evSpec N5 Tryd.f83 [.agg (ruC s o h t p (rdC a b c d e f) (rdC a' b' c' d' e' f')), i64 y] K := by
  obtain ⟨o1, o2, p1, p2, hv⟩ := hr
  obtain ⟨v1, v2⟩ := hv rfl
  obtain ⟨⟨f1, f2⟩, _⟩ := vDay_elim v1
  obtain ⟨⟨g1, g2⟩, _⟩ := vDay_elim v2
  obtain ⟨⟨q1, q2⟩, _⟩ := rd_spec v1 y1 y2
  obtain ⟨⟨q3, q4⟩, _⟩ := rd_spec v2 y1 y2
  refine Eq.mpr (g120_in s o h t p a b c d e f a' b' c' d' e' f' y K) ?_
  intro E1 E2 E3
  have w1 : IntKind.wrap .i64 (f - o) = f - o := wrap64 (by omega) (by omega)
  have w2 : IntKind.wrap .i64 (f' - p) = f' - p := wrap64 (by omega) (by omega)
  have b1 : -1000000 ≤ IntKind.wrap .i64 (f - o) := by rw [w1]; omega
  have b2 : IntKind.wrap .i64 (f - o) ≤ 1000000 := by rw [w1]; omega
  have b3 : -1000000 ≤ IntKind.wrap .i64 (f' - p) := by rw [w2]; omega
  have b4 : IntKind.wrap .i64 (f' - p) ≤ 1000000 := by rw [w2]; omega
  have q1' : -1000000000000000 ≤ rdV a b c d e f y := by omega
  have q2' : rdV a b c d e f y ≤ 1000000000000000 := by omega
  have q3' : -1000000000000000 ≤ rdV a' b' c' d' e' f' y := by omega
  have q4' : rdV a' b' c' d' e' f' y ≤ 1000000000000000 := by omega
  exact ⟨⟨⟨v1, y1, y2, ⟨q1', q2', b1, b2, rfl⟩, q1', q2', b1, b2, rfl⟩, v1, y1, y2, q1', q2', b1, b2, rfl⟩, ⟨⟨v2, y1, y2, ⟨q3', q4', b3, b4, rfl⟩, q3', q4', b3, b4, rfl⟩, v2, y1, y2, q3', q4', b3, b4, rfl⟩, rfl, hK⟩
theorem ok120e : ∀ args pres res, sChg args = some (pres, res) → SpecOK Tryd.prog G16 83 args pres res := by
  intro args pres res h
  unfold sChg at h
  split at h
  case h_2 => cases h
  cases h
  exact spec_ok (C := N5) okF24 noCall_ok Tryd.func83 (by kernel_rfl) (by kernel_rfl) (fun hp => chg_ev _ _ _ _ _ _ _ _ _ _ _ _ _ _ _ _ _ _ (hp _ (by simp)) (hp _ (by simp)) (hp _ (by simp)) _ rfl)
theorem okF25 : EOK Tryd.prog F25 G16 := addE_ok okF24 ok120e
theorem on_ex (s : List UInt8) (o : Int) (h : Bool) (t : List UInt8) (p a b c d e f a' b' c' d' e' f' x z y : Int) (hr : okRu o p h (vDay a b c d e f) (vDay a' b' c' d' e' f')) (y1 : -999999999000 ≤ y) (y2 : y ≤ 999999999000) :
    ∃ v : Bool, True ∧ ∀ K : List AV → Prop, K [bo v] → evSpec N6 Tryd.f64 [.agg (ruC s o h t p (rdC a b c d e f) (rdC a' b' c' d' e' f')), .agg [i64 x, i64 z], i64 y] K := by
  cases hh : h with
  | false =>
    refine ⟨false, trivial, fun K hK => ?_⟩
    rw [g101_in]
    exact brn_T rfl hK
  | true =>
    subst hh
    have w3 : IntKind.wrap .i64 (y - 3) = y - 3 := wrap64 (by omega) (by omega)
    have w2 : IntKind.wrap .i64 (y + 2) = y + 2 := wrap64 (by omega) (by omega)
    refine Exists.elim (loop_det (C := N6) (c := loopB (bodyOf Tryd.f64) 0) (fun q : Int × Int × Bool × Bool × Int => h101 s o true t p a b c d e f a' b' c' d' e' f' x z y q.1 q.2.1 q.2.2.1 q.2.2.2.1 q.2.2.2.2) (fun q => y - 3 ≤ q.2.2.2.2 ∧ q.2.2.2.2 ≤ y + 3) (fun q => (y + 3 - q.2.2.2.2).toNat) (fun _ : Bool => True) (fun v => [bo v])
      (fun K => loopK N6 (bodyOf Tryd.f64) 0 (finK N6 Tryd.f64 K)) rfl (fun q hq => ?_) (0, 0, false, false, y - 3) ⟨by show y - 3 ≤ y - 3; omega, by show y - 3 ≤ y + 3; omega⟩) (fun v hv' => ?_)
    · obtain ⟨l1, l2, on, fd, i⟩ := q
      obtain ⟨i1, i2⟩ := hq
      simp only at i1 i2
      have e0 : IntKind.wrap .i64 (i + 1) = i + 1 := wrap64 (by omega) (by omega)
      by_cases hi : i ≤ y + 2
      · have j1 : (-1000000000000 : Int) ≤ i := by omega
        have j2 : i ≤ (1000000000000 : Int) := by omega
        have hμ : (y + 3 - (i + 1)).toNat < (y + 3 - i).toNat := by omega
        have hG : y - 3 ≤ i + 1 ∧ i + 1 ≤ y + 3 := by omega
        cases hb : (decide (cmpU (ch1 p a' b' c' d' e' f' i).1 (ch1 p a' b' c' d' e' f' i).2 x z ≤ 0) && (!fd || decide (cmpU (ch1 p a' b' c' d' e' f' i).1 (ch1 p a' b' c' d' e' f' i).2 l1 l2 > 0))) with
        | true =>
          cases hc : (decide (cmpU (ch1 o a b c d e f i).1 (ch1 o a b c d e f i).2 x z ≤ 0) && (!true || decide (cmpU (ch1 o a b c d e f i).1 (ch1 o a b c d e f i).2 (ch1 p a' b' c' d' e' f' i).1 (ch1 p a' b' c' d' e' f' i).2 ≥ 0))) with
          | true =>
            refine .inl ⟨((ch1 o a b c d e f i).1, (ch1 o a b c d e f i).2, true, true, i + 1), p101, _, hG, hμ, ?_, fun K' hK' => by
              rw [g101_lp, w2]
              intro A1
              exact brn_T (decide_eq_true hi) ⟨hr, j1, j2, brn_T hb (brn_T hc hK')⟩⟩
            rw [e0]
            kernel_rfl
          | false =>
            refine .inl ⟨((ch1 p a' b' c' d' e' f' i).1, (ch1 p a' b' c' d' e' f' i).2, false, true, i + 1), p101, _, hG, hμ, ?_, fun K' hK' => by
              rw [g101_lp, w2]
              intro A1
              exact brn_T (decide_eq_true hi) ⟨hr, j1, j2, brn_T hb (brn_Fa hc hK')⟩⟩
            rw [e0]
            kernel_rfl
        | false =>
          cases hc : (decide (cmpU (ch1 o a b c d e f i).1 (ch1 o a b c d e f i).2 x z ≤ 0) && (!fd || decide (cmpU (ch1 o a b c d e f i).1 (ch1 o a b c d e f i).2 l1 l2 ≥ 0))) with
          | true =>
            refine .inl ⟨((ch1 o a b c d e f i).1, (ch1 o a b c d e f i).2, true, true, i + 1), p101, _, hG, hμ, ?_, fun K' hK' => by
              rw [g101_lp, w2]
              intro A1
              exact brn_T (decide_eq_true hi) ⟨hr, j1, j2, brn_Fa hb (brn_T hc hK')⟩⟩
            rw [e0]
            kernel_rfl
          | false =>
            refine .inl ⟨(l1, l2, on, fd, i + 1), p101, _, hG, hμ, ?_, fun K' hK' => by
              rw [g101_lp, w2]
              intro A1
              exact brn_T (decide_eq_true hi) ⟨hr, j1, j2, brn_Fa hb (brn_Fa hc hK')⟩⟩
            rw [e0]
            kernel_rfl
      · refine .inr ⟨.exit 0, _, by simp, fun K' hK' => by
          rw [g101_lp, w2]
          intro A1
          exact brn_Fa (decide_eq_false hi) hK', on, trivial, fun K hK => ?_⟩
        have key : loopK N6 (bodyOf Tryd.f64) 0 (finK N6 Tryd.f64 K) (AX.exit 0) (o101 s o true t p a b c d e f a' b' c' d' e' f' x z y l1 l2 on fd i) := Eq.mpr (g101_out s o true t p a b c d e f a' b' c' d' e' f' x z y l1 l2 on fd i K) hK
        unfold o101 at key
        rw [w2] at key
        exact Eq.mp (by kernel_rfl) key
    · obtain ⟨_, hk⟩ := hv'
      refine ⟨v, trivial, fun K hK => ?_⟩
      rw [g101_in, w3]
      refine brn_Fa rfl ?_
      unfold LoopI
      exact hk K hK p101 _ (by kernel_rfl)
end PF
set_option maxRecDepth 100000
namespace PF
open Go Go.AE Go.Proofs PE
noncomputable def onV (R : List AV) (x z y : Int) : Bool := Classical.epsilon fun v : Bool => True ∧ ∀ K : List AV → Prop, K [bo v] → evSpec N6 Tryd.f64 [.agg R, .agg [i64 x, i64 z], i64 y] K
noncomputable def sOn : List AV → Option (List Prop × List AV)
  | [.agg [.imm (.str s), .imm (.int .i64 o), .imm (.bool h), .imm (.str t), .imm (.int .i64 p), .imm (.int .i64 a), .imm (.int .i64 b), .imm (.int .i64 c), .imm (.int .i64 d), .imm (.int .i64 e), .imm (.int .i64 f), .imm (.int .i64 a'), .imm (.int .i64 b'), .imm (.int .i64 c'), .imm (.int .i64 d'), .imm (.int .i64 e'), .imm (.int .i64 f')], .agg [.imm (.int .i64 x), .imm (.int .i64 z)], .imm (.int .i64 y)] =>
    some ([okRu o p h (vDay a b c d e f) (vDay a' b' c' d' e' f'), -999999999000 ≤ y, y ≤ 999999999000], [bo (onV (ruC s o h t p (rdC a b c d e f) (rdC a' b' c' d' e' f')) x z y)])
  | _ => none
noncomputable def F26 := addE F25 64 sOn
noncomputable def N7 : Cx := ⟨Tryd.prog, F26, noCall, G16, 4007⟩
theorem ok101e : ∀ args pres res, sOn args = some (pres, res) → SpecOK Tryd.prog G16 64 args pres res := by
  intro args pres res h
  unfold sOn at h
  split at h
  case h_2 => cases h
  cases h
  exact spec_ok (C := N6) okF25 noCall_ok Tryd.func64 (by kernel_rfl) (by kernel_rfl) (fun hp => (Classical.epsilon_spec (on_ex _ _ _ _ _ _ _ _ _ _ _ _ _ _ _ _ _ _ _ _ (hp _ (by simp)) (hp _ (by simp)) (hp _ (by simp)))).2 _ rfl)
theorem okF26 : EOK Tryd.prog F26 G16 := addE_ok okF25 ok101e
attribute [local irreducible] evCode evSpec loopB loopK norm
theorem g71_in (s : List UInt8) (o : Int) (h : Bool) (t : List UInt8) (p : Int) (a : Int) (b : Int) (c : Int) (d : Int) (e : Int) (f : Int) (a' : Int) (b' : Int) (c' : Int) (d' : Int) (e' : Int) (f' : Int) (x : Int) (K : List AV → Prop) : evSpec N7 Tryd.f45 [.agg (ruC s o h t p (rdC a b c d e f) (rdC a' b' c' d' e' f')), i64 x] K = (let E1 : Prop := ((sm (St.mk (lapp [.agg [.imm (.str s), i64 o, bo h, .imm (.str t), i64 p, i64 a, i64 b, i64 c, i64 d, i64 e, i64 f, i64 a', i64 b', i64 c', i64 d', i64 e', i64 f'], i64 x, .ptr 0 0, .dead, .ptr 1 0, i64 (splD x), i64 (splS x)] (lapp (dN 5) (lapp [.agg [.imm (.str s), i64 o, bo h, .imm (.str t), i64 p, i64 a, i64 b, i64 c, i64 d, i64 e, i64 f, i64 a', i64 b', i64 c', i64 d', i64 e', i64 f'], i64 (splD x), i64 (splS x), .agg [i64 (splD x), i64 (splS x)], i64 x, .agg [i64 ((dtV (splD x)).1), i64 ((dtV (splD x)).2.1), i64 ((dtV (splD x)).2.2), i64 (IntKind.wrap .i64 (Int.tdiv (splS x) (3600 : Int))), i64 (IntKind.wrap .i64 (Int.tdiv (Int.tmod (splS x) (3600 : Int)) (60 : Int))), i64 (Int.tmod (splS x) (60 : Int)), i64 (wkU (splD x))], i64 ((dtV (splD x)).1), bo (onV (ruC s o h t p (rdC a b c d e f) (rdC a' b' c' d' e' f')) (splD x) (splS x)
 (dtV (splD x)).1)] (dN 10)))) [(0, Ob.mk true 0 (AObj.cells [.imm (.str s), i64 o, bo h, .imm (.str t), i64 p, i64 a, i64 b, i64 c, i64 d, i64 e, i64 f, i64 a', i64 b', i64 c', i64 d', i64 e', i64 f'])), (1, Ob.mk true 0 (AObj.cells [bo false, i64 0, bo false, .imm (.str [])]))] 2 []))); (((-9223372036854775808 : Int) ≤ x ∧ x ≤ 9223372036854775807 ∧ okRu o p h (vDay a b c d e f) (vDay a' b' c' d' e' f') ∧ (-999999999000 : Int) ≤ (dtV (splD x)).1 ∧ (dtV (splD x)).1 ≤ 999999999000 ∧ E1) ∧ (-9223372036854775808 : Int) ≤ x ∧ x ≤ 9223372036854775807 ∧ (okRu o p h (vDay a b c d e f) (vDay a' b' c' d' e' f') ∧ (-999999999000 : Int) ≤ (dtV (splD x)).1 ∧ (dtV (splD x)).1 ≤ 999999999000 ∧ E1) ∧ okRu o p h (vDay a b c d e f) (vDay a' b' c' d' e' f') ∧ (-999999999000 : Int) ≤ (dtV (splD x)).1 ∧ (dtV (splD x)).1 ≤ 999999999000 ∧ E1) ∧ brn (onV (ruC s o h t p (rdC a b c d e f) (rdC a' b' c' d' e' f')) (splD x) (splS x) (dtV (splD x)).1) (K [.agg [bo true, i64 p, bo true, .imm (.str t)]]) (K [.agg [bo true, i64 o, bo false, .imm (.str s)]])) := by kernel_rfl
end PF
set_option maxRecDepth 100000
namespace PF
open Go Go.AE Go.Proofs PE
noncomputable def atC (s : List UInt8) (o : Int) (h : Bool) (t : List UInt8) (p a b c d e f a' b' c' d' e' f' x : Int) : List AV :=
  [bo true, i64 (bif onV (ruC s o h t p (rdC a b c d e f) (rdC a' b' c' d' e' f')) (splD x) (splS x) (dtV (splD x)).1 then p else o), bo (onV (ruC s o h t p (rdC a b c d e f) (rdC a' b' c' d' e' f')) (splD x) (splS x) (dtV (splD x)).1), .imm (.str (bif onV (ruC s o h t p (rdC a b c d e f) (rdC a' b' c' d' e' f')) (splD x) (splS x) (dtV (splD x)).1 then t else s))]
noncomputable def sAt : List AV → Option (List Prop × List AV)
  | [.agg [.imm (.str s), .imm (.int .i64 o), .imm (.bool h), .imm (.str t), .imm (.int .i64 p), .imm (.int .i64 a), .imm (.int .i64 b), .imm (.int .i64 c), .imm (.int .i64 d), .imm (.int .i64 e), .imm (.int .i64 f), .imm (.int .i64 a'), .imm (.int .i64 b'), .imm (.int .i64 c'), .imm (.int .i64 d'), .imm (.int .i64 e'), .imm (.int .i64 f')], .imm (.int .i64 x)] =>
    some ([okRu o p h (vDay a b c d e f) (vDay a' b' c' d' e' f'), -9223372036854775808 ≤ x, x ≤ 9223372036854775807], [.agg (atC s o h t p a b c d e f a' b' c' d' e' f' x)])
  | _ => none
noncomputable def F27 := addE F26 45 sAt
noncomputable def N8 : Cx := ⟨Tryd.prog, F27, noCall, G16, 4020⟩
def h70 (L : List Lp) (t i : Int) : St := ⟨spr [(0, .imm (.sl 2 (L.map cellsL))), (1, i64 t), (5, i64 i)] 0 26, [], 0, []⟩
def o70 (L : List Lp) (t i : Int) : St := ⟨spr [(0, .imm (.sl 2 (L.map cellsL))), (1, i64 t), (5, i64 i), (9, i64 i), (10, bo (decide (i ≥ 0)))] 0 26, [], 0, []⟩
def p70 : Plan := ⟨[], msk [0, 1, 5] 0 26, []⟩
def h103 (b s : List UInt8) (i : Int) : St := ⟨spr [(0, by' b), (6, .imm (.str s)), (7, i64 i)] 0 39, [], 0, []⟩
def p103 : Plan := ⟨[], msk [0, 6, 7] 0 39, []⟩
attribute [local irreducible] loopK evCode evSpec loopB norm
theorem at_ev (s : List UInt8) (o : Int) (h : Bool) (t : List UInt8) (p a b c d e f a' b' c' d' e' f' x : Int) (hr : okRu o p h (vDay a b c d e f) (vDay a' b' c' d' e' f')) (x1 : -9223372036854775808 ≤ x) (x2 : x ≤ 9223372036854775807) (K : List AV → Prop)
    (hK : K [.agg (atC s o h t p a b c d e f a' b' c' d' e' f' x)]) : evSpec N7 Tryd.f45 [.agg (ruC s o h t p (rdC a b c d e f) (rdC a' b' c' d' e' f')), i64 x] K := by
  refine Eq.mpr (g71_in s o h t p a b c d e f a' b' c' d' e' f' x K) ?_
  intro E1
  obtain ⟨q1, q2⟩ := spl_rng x1 x2
  obtain ⟨⟨y1, y2⟩, _⟩ := dt_spec q1 q2
  have z1 : -999999999000 ≤ (dtV (splD x)).1 := by omega
  have z2 : (dtV (splD x)).1 ≤ 999999999000 := by omega
  refine ⟨⟨⟨x1, x2, hr, z1, z2, rfl⟩, x1, x2, ⟨hr, z1, z2, rfl⟩, hr, z1, z2, rfl⟩, ?_⟩
  unfold atC at hK
  cases ho : onV (ruC s o h t p (rdC a b c d e f) (rdC a' b' c' d' e' f')) (splD x) (splS x) (dtV (splD x)).1 with
  | true => rw [ho] at hK; exact brn_T rfl hK
  | false => rw [ho] at hK; exact brn_Fa rfl hK
theorem ok71e : ∀ args pres res, sAt args = some (pres, res) → SpecOK Tryd.prog G16 45 args pres res := by
  intro args pres res h
  unfold sAt at h
  split at h
  case h_2 => cases h
  cases h
  exact spec_ok (C := N7) okF26 noCall_ok Tryd.func45 (by kernel_rfl) (by kernel_rfl) (fun hp => at_ev _ _ _ _ _ _ _ _ _ _ _ _ _ _ _ _ _ _ (hp _ (by simp)) (hp _ (by simp)) (hp _ (by simp)) _ rfl)
theorem okF27 : EOK Tryd.prog F27 G16 := addE_ok okF26 ok71e
end PF
set_option maxRecDepth 100000
namespace PF
open Go Go.AE Go.Proofs PE
attribute [local irreducible] loopK evCode evSpec loopB norm
theorem g70_in (L : List Lp) (t : Int) (K : List AV → Prop) : evSpec N8 Tryd.f44 [.imm (.sl 2 (List.map cellsL L)), i64 t] K = (LoopI N8 (bodyOf Tryd.f44) 0 (St.mk (lapp [.imm (.sl 2 (List.map cellsL L)), i64 t, .dead, .dead, i64 0, i64 (IntKind.wrap .i64 ((↑(List.map cellsL L).length : Int) - 1)), .imm (.sl 2 (List.map cellsL L)), i64 (↑(List.map cellsL L).length : Int), i64 (IntKind.wrap .i64 ((↑(List.map cellsL L).length : Int) - 1))] (dN 17)) [] 0 []) (finK N8 Tryd.f44 K)) := by kernel_rfl
theorem g70_lp (L : List Lp) (t : Int) (i : Int) (k : AX → St → Prop) : evCode N8 (loopB (bodyOf Tryd.f44) 0) (h70 L t i) k = (brn (decide (i ≥ 0)) ((0 : Int) ≤ i ∧ i < (↑(List.map cellsL L).length : Int) ∧ kcells (List.getD (List.map cellsL L) i.toNat []) 0 (lapp [CK.int IntKind.i64] (lapp [CK.int IntKind.i32] [])) = List.getD (List.map cellsL L) i.toNat [] ∧ brn (decide (ivInt (ivNth (List.getD (List.map cellsL L) i.toNat []) 0) ≤ t)) ((0 : Int) ≤ i ∧ i < (↑(List.map cellsL L).length : Int) ∧ kcells (List.getD (List.map cellsL L) i.toNat []) 0 (lapp [CK.int IntKind.i64] (lapp [CK.int IntKind.i32] [])) = List.getD (List.map cellsL L) i.toNat [] ∧ k AX.ret (St.mk [.imm (.sl 2 (List.map cellsL L)), i64 t, .dead, .dead, i64 (IntKind.wrap .i64 (ivInt (ivNth (List.getD (List.map cellsL L) i.toNat []) (0 + 1)))), i64 i, .dead, .dead, .dead, i64 i, bo (decide (i ≥ 0)), .dead, .dead, .imm (.sl 2 (List.map cellsL L)), i64 i, AV.elv [IV.int .i64 (ivInt (ivNth (List.getD (List.map cellsL L) i.toNat []) 0)), IV.int IntKind.i32 (ivInt (ivNth (List.getD (List.map cellsL L) i.toNat []) (0 + 1)))], AV.elv [IV.int .i64 (ivInt (ivNth (List.getD (List.map cellsL L) i.toNat []) 0)), IV.int IntKind.i32
 (ivInt (ivNth (List.getD (List.map cellsL L) i.toNat []) (0 + 1)))], i64 (ivInt (ivNth (List.getD (List.map cellsL L) i.toNat []) 0)), i64 t, bo (decide (ivInt (ivNth (List.getD (List.map cellsL L) i.toNat []) 0) ≤ t)), .imm (.sl 2 (List.map cellsL L)), i64 i, AV.elv [IV.int .i64 (ivInt (ivNth (List.getD (List.map cellsL L) i.toNat []) 0)), IV.int IntKind.i32 (ivInt (ivNth (List.getD (List.map cellsL L) i.toNat []) (0 + 1)))], AV.elv [IV.int IntKind.i32 (ivInt (ivNth (List.getD (List.map cellsL L) i.toNat []) (0 + 1)))], .imm (.int IntKind.i32 (ivInt (ivNth (List.getD (List.map cellsL L) i.toNat []) (0 + 1)))), i64 (IntKind.wrap .i64 (ivInt (ivNth (List.getD (List.map cellsL L) i.toNat []) (0 + 1))))] [] 0 [])) (k AX.normal (St.mk (lapp [.imm (.sl 2 (List.map cellsL L)), i64 t, .dead, .dead, .dead, i64 (IntKind.wrap .i64 (i - 1)), .dead, .dead, .dead, i64 i, bo (decide (i ≥ 0)), i64 i, i64 (IntKind.wrap .i64 (i - 1)), .imm (.sl 2 (List.map cellsL L)), i64 i, AV.elv [IV.int .i64 (ivInt (ivNth (List.getD (List.map cellsL L) i.toNat []) 0)), IV.int IntKind.i32 (ivInt (ivNth (List.getD (List.map cellsL L) i.toNat []) (0 + 1)))], AV.elv [IV.int .i64 (ivInt (ivNth (List.getD (List.map
 cellsL L) i.toNat []) 0)), IV.int IntKind.i32 (ivInt (ivNth (List.getD (List.map cellsL L) i.toNat []) (0 + 1)))], i64 (ivInt (ivNth (List.getD (List.map cellsL L) i.toNat []) 0)), i64 t, bo (decide (ivInt (ivNth (List.getD (List.map cellsL L) i.toNat []) 0) ≤ t))] (dN 6)) [] 0 []))) (k (AX.exit 0) (St.mk (lapp [.imm (.sl 2 (List.map cellsL L)), i64 t, .dead, .dead, .dead, i64 i, .dead, .dead, .dead, i64 i, bo (decide (i ≥ 0))] (dN 15)) [] 0 []))) := by kernel_rfl
theorem g70_out (L : List Lp) (t : Int) (i : Int) (K : List AV → Prop) : loopK N8 (bodyOf Tryd.f44) 0 (finK N8 Tryd.f44 K) (AX.exit 0) (o70 L t i) = (K [i64 0]) := by kernel_rfl
theorem g103_in (b : List UInt8) (i : Int) (K : List AV → Prop) : evSpec N8 Tryd.f66 [by' b, i64 i] K = (brn (decide (i < 0) || decide (i ≥ (b.length : Int))) (K [.imm (.str []), bo false]) (LoopI N8 (bodyOf Tryd.f66) 0 (St.mk (lapp [by' b, i64 i, .dead, .dead, .imm (.str []), bo false, .imm (.str []), i64 i, i64 i, bo (decide (i < 0)), bo (decide (i < 0)), .opt [(10, false)] (i64 i), .opt [(10, false)] (by' b), .opt [(10, false)] (i64 (b.length : Int)), .opt [(10, false)] (bo (decide (i ≥ (b.length : Int)))), bo (decide (i < 0) || decide (i ≥ (b.length : Int))), i64 i] (dN 22)) [] 0 []) (finK N8 Tryd.f66 K))) := by kernel_rfl
theorem g103_lp (b : List UInt8) (s : List UInt8) (i : Int) (k : AX → St → Prop) : evCode N8 (loopB (bodyOf Tryd.f66) 0) (h103 b s i) k = ((decide (i < (b.length : Int)) = true → (0 : Int) ≤ i) ∧ (decide (i < (b.length : Int)) = true → i < (b.length : Int)) ∧ brn (decide (i < (b.length : Int)) && (↑(UInt8.toNat (List.getD b i.toNat (0 : UInt8))) : Int) != 0) ((0 : Int) ≤ i ∧ i < (b.length : Int) ∧ s.length + (List.map u8 [(↑(UInt8.toNat (List.getD b i.toNat (0 : UInt8))) : Int)]).length ≤ 9223372036854775807 ∧ k AX.normal (St.mk (lapp [by' b] (lapp (dN 5) (lapp [.imm (.str (s ++ List.map u8 [(↑(UInt8.toNat (List.getD b i.toNat (0 : UInt8))) : Int)])), i64 (IntKind.wrap .i64 (i + 1))] (lapp (dN 9) (lapp [i64 i, by' b, i64 (b.length : Int)] (lapp (dN 8) (lapp [i64 i, i64 (IntKind.wrap .i64 (i + 1))] (dN 9)))))))) [] 0 [])) (k (AX.exit 0) (St.mk (lapp [by' b] (lapp (dN 5) (lapp [.imm (.str s), i64 i] (lapp (dN 9) (lapp [i64 i, by' b, i64 (b.length : Int), bo (decide (i < (b.length : Int))), bo (decide (i < (b.length : Int))), .opt [(21, true)] (by' b), .opt [(21, true)] (i64 i), .opt [(21, true)] (AV.elv [IV.int .u8 (↑(UInt8.toNat (List.getD b i.toNat (0 : UInt8))) : Int)]), .opt [(21,
 true)] (.imm (.int .u8 (↑(UInt8.toNat (List.getD b i.toNat (0 : UInt8))) : Int))), .opt [(21, true)] (bo ((↑(UInt8.toNat (List.getD b i.toNat (0 : UInt8))) : Int) != 0)), bo (decide (i < (b.length : Int)) && (↑(UInt8.toNat (List.getD b i.toNat (0 : UInt8))) : Int) != 0)] (dN 11)))))) [] 0 []))) := by kernel_rfl
end PF
set_option maxRecDepth 100000
namespace PF
open Go Go.AE Go.Proofs PE
noncomputable def coV (L : List Lp) (t : Int) : Int := Classical.epsilon fun v : Int => True ∧ ∀ K : List AV → Prop, K [i64 v] → evSpec N8 Tryd.f44 [.imm (.sl 2 (L.map cellsL)), i64 t] K
noncomputable def nmV (b : List UInt8) (i : Int) : List UInt8 × Bool := Classical.epsilon fun v : List UInt8 × Bool => True ∧ ∀ K : List AV → Prop, K [.imm (.str v.1), bo v.2] → evSpec N8 Tryd.f66 [by' b, i64 i] K
noncomputable def sCorr : List AV → Option (List Prop × List AV)
  | [.imm (.sl 2 xs), .imm (.int .i64 t)] => some ([okL xs, (xs.length : Int) ≤ 1000000], [i64 (coV (lps xs) t)])
  | _ => none
noncomputable def sName : List AV → Option (List Prop × List AV)
  | [.imm (.bytes b), .imm (.int .i64 i)] => some ([(b.length : Int) ≤ 1000000], [.imm (.str (nmV b i).1), bo (nmV b i).2])
  | _ => none
noncomputable def F28 := addE (addE F27 44 sCorr) 66 sName
noncomputable def N9 : Cx := ⟨Tryd.prog, F28, noCall, G16, 4008⟩
attribute [local irreducible] loopK evCode evSpec loopB norm
theorem getL9 {L : List Lp} {i : Nat} (h : i < L.length) : (L.map cellsL).getD i [] = cellsL (L[i]) := by
  rw [List.getD_eq_getElem?_getD, List.getElem?_map, List.getElem?_eq_getElem h]
  first | done | rfl
theorem corr_ex (L : List Lp) (t : Int) (hl : (L.length : Int) ≤ 1000000) : ∃ v : Int, True ∧ ∀ K : List AV → Prop, K [i64 v] → evSpec N8 Tryd.f44 [.imm (.sl 2 (L.map cellsL)), i64 t] K := by
  have hlen : (L.map cellsL).length = L.length := List.length_map _
  have w1 : IntKind.wrap .i64 ((L.length : Int) - 1) = (L.length : Int) - 1 := wrap64 (by omega) (by omega)
  refine Exists.elim (loop_det (C := N8) (c := loopB (bodyOf Tryd.f44) 0) (fun i : Int => h70 L t i) (fun i => -1 ≤ i ∧ i < L.length) (fun i => (i + 1).toNat) (fun _ : Int => True) (fun v => [i64 v])
    (fun K => loopK N8 (bodyOf Tryd.f44) 0 (finK N8 Tryd.f44 K)) rfl (fun i hs => ?_) ((L.length : Int) - 1) ⟨by omega, by omega⟩) (fun v hv' => ?_)
  · obtain ⟨i1, i2⟩ := hs
    by_cases h : i ≥ 0
    · have hi : i.toNat < L.length := by omega
      have hg := getL9 hi
      have hk : kcells (List.getD (List.map cellsL L) i.toNat []) 0 (lapp [CK.int IntKind.i64] (lapp [CK.int IntKind.i32] [])) = List.getD (List.map cellsL L) i.toNat [] := by rw [hg]; first | done | rfl
      have hb : i < ((L.map cellsL).length : Int) := by rw [hlen]; exact i2
      by_cases hx : ivInt (ivNth (List.getD (List.map cellsL L) i.toNat []) 0) ≤ t
      · refine .inr ⟨.ret, _, by simp, fun K' hK' => by
          rw [g70_lp]
          exact brn_T (decide_eq_true h) ⟨h, hb, hk, brn_T (decide_eq_true hx) ⟨h, hb, hk, hK'⟩⟩, IntKind.wrap .i64 (ivInt (ivNth (List.getD (List.map cellsL L) i.toNat []) (0 + 1))), trivial, fun K hK => ?_⟩
        exact Eq.mp (by kernel_rfl) hK
      · have e1 : IntKind.wrap .i64 (i - 1) = i - 1 := wrap64 (by omega) (by omega)
        refine .inl ⟨i - 1, p70, _, ⟨by omega, by omega⟩, by omega, ?_, fun K' hK' => by
          rw [g70_lp]
          exact brn_T (decide_eq_true h) ⟨h, hb, hk, brn_Fa (decide_eq_false hx) hK'⟩⟩
        rw [e1]
        kernel_rfl
    · refine .inr ⟨.exit 0, _, by simp, fun K' hK' => by
        rw [g70_lp]
        exact brn_Fa (decide_eq_false h) hK', 0, trivial, fun K hK => ?_⟩
      have key : loopK N8 (bodyOf Tryd.f44) 0 (finK N8 Tryd.f44 K) (AX.exit 0) (o70 L t i) := Eq.mpr (g70_out L t i K) hK
      exact Eq.mp (by kernel_rfl) key
  · obtain ⟨hv, hk⟩ := hv'
    refine ⟨v, hv, fun K hK => ?_⟩
    rw [g70_in, hlen]
    unfold LoopI
    exact hk K hK p70 _ (by rw [w1]; kernel_rfl)
theorem name_ex (b : List UInt8) (i : Int) (hl : (b.length : Int) ≤ 1000000) : ∃ v : List UInt8 × Bool, True ∧ ∀ K : List AV → Prop, K [.imm (.str v.1), bo v.2] → evSpec N8 Tryd.f66 [by' b, i64 i] K := by
  by_cases h0 : i < 0 ∨ i ≥ b.length
  · refine ⟨([], false), trivial, fun K hK => ?_⟩
    rw [g103_in]
    refine brn_T ?_ hK
    rcases h0 with h | h
    · rw [decide_eq_true h]; first | done | rfl
    · rw [decide_eq_true h]; exact Bool.or_true _
  · refine Exists.elim (loop_det (C := N8) (c := loopB (bodyOf Tryd.f66) 0) (fun s : Int × List UInt8 => h103 b s.2 s.1) (fun s => 0 ≤ s.1 ∧ s.1 ≤ b.length ∧ (s.2.length : Int) ≤ s.1) (fun s => ((b.length : Int) - s.1).toNat) (fun _ : List UInt8 × Bool => True) (fun v => [.imm (.str v.1), bo v.2])
      (fun K => loopK N8 (bodyOf Tryd.f66) 0 (finK N8 Tryd.f66 K)) rfl (fun s hs => ?_) (i, []) ⟨by show 0 ≤ i; omega, by show i ≤ b.length; omega, by show (0 : Int) ≤ i; omega⟩) (fun v hv' => ?_)
    · obtain ⟨i, s⟩ := s
      obtain ⟨i1, i2, i3⟩ := hs
      simp only at i1 i2 i3
      cases hb : (decide (i < (b.length : Int)) && ((b.getD i.toNat 0).toNat : Int) != 0) with
      | true =>
        have hi : i < (b.length : Int) := of_decide_eq_true ((Bool.and_eq_true _ _).mp hb).1
        have e1 : IntKind.wrap .i64 (i + 1) = i + 1 := wrap64 (by omega) (by omega)
        refine .inl ⟨(i + 1, s ++ List.map u8 [((b.getD i.toNat 0).toNat : Int)]), p103, _, ⟨by show 0 ≤ i + 1; omega, by show i + 1 ≤ _; omega, by show ((s ++ List.map u8 [((b.getD i.toNat 0).toNat : Int)]).length : Int) ≤ i + 1; rw [List.length_append]; show ((s.length + 1 : Nat) : Int) ≤ i + 1; omega⟩, by show ((b.length : Int) - (i + 1)).toNat < ((b.length : Int) - i).toNat; omega, ?_, fun K' hK' => by
          rw [g103_lp]
          exact ⟨fun _ => i1, fun h => of_decide_eq_true h, brn_T hb ⟨i1, hi, by show s.length + 1 ≤ _; omega, hK'⟩⟩⟩
        rw [e1]
        kernel_rfl
      | false =>
        refine .inr ⟨.exit 0, _, by simp, fun K' hK' => by
          rw [g103_lp]
          exact ⟨fun _ => i1, fun h => of_decide_eq_true h, brn_Fa hb hK'⟩, (s, true), trivial, fun K hK => ?_⟩
        exact Eq.mp (by kernel_rfl) hK
    · obtain ⟨hv, hk⟩ := hv'
      refine ⟨v, hv, fun K hK => ?_⟩
      rw [g103_in]
      refine brn_Fa ?_ ?_
      · rw [decide_eq_false (by omega), decide_eq_false (by omega)]; first | done | rfl
      · unfold LoopI
        exact hk K hK p103 _ (by kernel_rfl)
theorem ok70e : ∀ args pres res, sCorr args = some (pres, res) → SpecOK Tryd.prog G16 44 args pres res := by
  intro args pres res h
  unfold sCorr at h
  split at h
  case h_2 => cases h
  cases h
  rename_i xs t
  refine spec_ok (C := N8) okF27 noCall_ok Tryd.func44 (by kernel_rfl) (by kernel_rfl) (fun hp => ?_)
  obtain ⟨L, rfl, e, hL⟩ := okL_elim (hp (okL xs) (by simp))
  have h1 := hp (((L.map cellsL).length : Int) ≤ 1000000) (by simp)
  rw [List.length_map] at h1
  rw [e]
  exact (Classical.epsilon_spec (corr_ex L t h1)).2 _ rfl
theorem ok103e : ∀ args pres res, sName args = some (pres, res) → SpecOK Tryd.prog G16 66 args pres res := by
  intro args pres res h
  unfold sName at h
  split at h
  case h_2 => cases h
  cases h
  exact spec_ok (C := N8) okF27 noCall_ok Tryd.func66 (by kernel_rfl) (by kernel_rfl) (fun hp => (Classical.epsilon_spec (name_ex _ _ (hp _ (by simp)))).2 _ rfl)
theorem okF28 : EOK Tryd.prog F28 G16 := addE_ok (addE_ok okF27 ok70e) ok103e
end PF
set_option maxRecDepth 100000
namespace PF
open Go Go.AE Go.Proofs PE
attribute [local irreducible] loopK evCode evSpec loopB norm
theorem g72_in (T : List Int) (I : List UInt8) (X : List (List IV)) (C : List UInt8) (L : List (List IV)) (S : List Bool) (U : List Bool) (i : Int) (K : List AV → Prop) : evSpec N9 Tryd.f46 [blkAV T I X C L S U, i64 i] K = ((0 : Int) ≤ i ∧ i < (X.length : Int) ∧ kcells (List.getD X i.toNat []) 0 (lapp [CK.int IntKind.i32] (lapp [CK.bool] (lapp [CK.int IntKind.u8] []))) = List.getD X i.toNat [] ∧ (C.length : Int) ≤ 1000000 ∧ K [.agg [bo true, i64 (IntKind.wrap .i64 (ivInt (ivNth (List.getD X i.toNat []) 0))), bo (ivBool (ivNth (List.getD X i.toNat []) (0 + 1))), .imm (.str (nmV C (IntKind.wrap .i64 (ivInt (ivNth (List.getD X i.toNat []) (0 + 1 + 1))))).1)]]) := by kernel_rfl
end PF
set_option maxRecDepth 100000
namespace PF
open Go Go.AE Go.Proofs PE
noncomputable def trC (X : List (List IV)) (C : List UInt8) (i : Int) : List AV := [bo true, i64 (IntKind.wrap .i64 (ivInt (ivNth (List.getD X i.toNat []) 0))), bo (ivBool (ivNth (List.getD X i.toNat []) (0 + 1))), .imm (.str (nmV C (IntKind.wrap .i64 (ivInt (ivNth (List.getD X i.toNat []) (0 + 1 + 1))))).1)]
noncomputable def sTyRes : List AV → Option (List Prop × List AV)
  | [.agg [.imm (.ints .i64 T), .imm (.bytes I), .imm (.sl 3 X), .imm (.bytes C), .imm (.sl 2 L), .imm (.bools S), .imm (.bools U)], .imm (.int .i64 i)] => some ([okT X, 0 ≤ i, i < (X.length : Int), (C.length : Int) ≤ 1000000], [.agg (trC X C i)])
  | _ => none
noncomputable def F29 := addE F28 46 sTyRes
noncomputable def N10 : Cx := ⟨Tryd.prog, F29, noCall, G16, 4004⟩
noncomputable def N11 : Cx := ⟨Tryd.prog, F29, noCall, G16, 4009⟩
def k57 (T : List Int) (i : Int) : St := ⟨spr [(0, ii T), (3, i64 i)] 0 21, [], 0, []⟩
def q57 : Plan := ⟨[], msk [0, 3] 0 21, []⟩
def xT (X : List Ty) : AV := .imm (.sl 3 (X.map cellsT))
def xL (L : List Lp) : AV := .imm (.sl 2 (L.map cellsL))
def k58 (X : List Ty) (n i : Int) : St := ⟨spr [(0, xT X), (1, i64 n), (5, i64 i)] 0 33, [], 0, []⟩
def r58 (X : List Ty) (n i : Int) : St := ⟨spr [(0, xT X), (1, i64 n), (5, i64 i), (7, i64 i), (8, xT X), (9, i64 ((X.map cellsT).length : Int)), (10, bo (decide (i < ((X.map cellsT).length : Int))))] 0 33, [], 0, []⟩
def q58 : Plan := ⟨[], msk [0, 1, 5] 0 33, []⟩
def k58b (X : List Ty) (n i : Int) : St := ⟨spr [(0, xT X), (1, i64 n), (6, i64 i)] 0 33, [], 0, []⟩
def q58b : Plan := ⟨[], msk [0, 1, 6] 0 33, []⟩
def h92 (b : List UInt8) (i : Int) : St := ⟨spr [(0, by' b), (3, i64 i)] 0 38, [], 0, []⟩
def o92 (b : List UInt8) (i : Int) : St := ⟨spr [(0, by' b), (3, i64 i), (4, i64 i), (5, by' b), (6, ln b.length), (7, bo (decide (i < (b.length : Int))))] 0 38, [], 0, []⟩
def p92 : Plan := ⟨[], msk [0, 3] 0 38, []⟩
def k60 (L : List Lp) (v i : Int) : St := ⟨spr [(0, xL L), (1, i64 v), (5, i64 i)] 0 99, [], 0, []⟩
def q60 : Plan := ⟨[], msk [0, 1, 5] 0 99, []⟩
def k61 (S U : List Bool) (i : Int) : St := ⟨spr [(0, oo S), (1, oo U), (5, i64 i)] 0 31, [], 0, []⟩
def q61 : Plan := ⟨[], msk [0, 1, 5] 0 31, []⟩
attribute [local irreducible] loopK evCode evSpec loopB norm
theorem getT9 {X : List Ty} {i : Nat} (h : i < X.length) : (X.map cellsT).getD i [] = cellsT (X[i]) := by
  rw [List.getD_eq_getElem?_getD, List.getElem?_map, List.getElem?_eq_getElem h]
  first | done | rfl
theorem kcT {X : List Ty} {i : Int} (h0 : 0 ≤ i) (h : i < (X.length : Int)) : kcells (List.getD (List.map cellsT X) i.toNat []) 0 (lapp [CK.int IntKind.i32] (lapp [CK.bool] (lapp [CK.int IntKind.u8] []))) = List.getD (List.map cellsT X) i.toNat [] := by
  rw [getT9 (by omega)]; first | done | rfl
theorem kcL {L : List Lp} {i : Int} (h0 : 0 ≤ i) (h : i < (L.length : Int)) : kcells (List.getD (List.map cellsL L) i.toNat []) 0 (lapp [CK.int IntKind.i64] (lapp [CK.int IntKind.i32] [])) = List.getD (List.map cellsL L) i.toNat [] := by
  rw [getL9 (by omega)]; first | done | rfl
theorem ok72e : ∀ args pres res, sTyRes args = some (pres, res) → SpecOK Tryd.prog G16 46 args pres res := by
  intro args pres res h
  unfold sTyRes at h
  split at h
  case h_2 => cases h
  cases h
  rename_i T I X C L S U i
  refine spec_ok (C := N9) okF28 noCall_ok Tryd.func46 (by kernel_rfl) (by kernel_rfl) (fun hp => ?_)
  have hX : okT X := hp _ (by simp)
  have h0 : 0 ≤ i := hp _ (by simp)
  have h1 : i < (X.length : Int) := hp _ (by simp)
  have h2 : (C.length : Int) ≤ 1000000 := hp _ (by simp)
  refine Eq.mpr (g72_in T I X C L S U i _) ⟨h0, h1, ?_, h2, rfl⟩
  rw [hX.1]
  refine kcT h0 ?_
  rw [hX.1, List.length_map] at h1
  exact h1
theorem okF29 : EOK Tryd.prog F29 G16 := addE_ok okF28 ok72e
end PF
set_option maxRecDepth 100000
namespace PF
open Go Go.AE Go.Proofs PE
attribute [local irreducible] loopK evCode evSpec loopB norm
theorem g57_in (T : List Int) (K : List AV → Prop) : evSpec N10 Tryd.f37 [ii T] K = (LoopI N10 (bodyOf Tryd.f37) 0 (St.mk (lapp [.imm (.ints IntKind.i64 T), .dead, i64 0, i64 1] (dN 17)) [] 0 []) (finK N10 Tryd.f37 K)) := by kernel_rfl
theorem g57_lp (T : List Int) (i : Int) (k : AX → St → Prop) : evCode N10 (loopB (bodyOf Tryd.f37) 0) (k57 T i) k = (let E1 : Prop := ((sm (St.mk (lapp [.imm (.ints IntKind.i64 T), .dead, .dead, i64 i] (lapp (dN 6) [.imm (.ints IntKind.i64 T), i64 i, i64 (IntKind.wrap .i64 (i - 1)), AV.elv [IV.int .i64 (List.getD T (IntKind.wrap .i64 (i - 1)).toNat (0 : Int))], i64 (List.getD T (IntKind.wrap .i64 (i - 1)).toNat (0 : Int)), .imm (.ints IntKind.i64 T), i64 i, AV.elv [IV.int .i64 (List.getD T i.toNat (0 : Int))], i64 (List.getD T i.toNat (0 : Int)), bo (decide (List.getD T (IntKind.wrap .i64 (i - 1)).toNat (0 : Int) ≥ List.getD T i.toNat (0 : Int))), .dead])) [] 0 []))); brn (decide (i < (T.length : Int))) (((0 : Int) ≤ IntKind.wrap .i64 (i - 1) ∧ IntKind.wrap .i64 (i - 1) < (T.length : Int) ∧ (0 : Int) ≤ i ∧ i < (T.length : Int) ∧ E1 ∧ E1) ∧ brn (decide (List.getD T (IntKind.wrap .i64 (i - 1)).toNat (0 : Int) ≥ List.getD T i.toNat (0 : Int))) (k AX.ret (St.mk (lapp [.imm (.ints IntKind.i64 T), .dead, i64 i, i64 i] (lapp (dN 16) [i64 i])) [] 0 [])) (k AX.normal (St.mk (lapp [.imm (.ints IntKind.i64 T), .dead, .dead, i64 (IntKind.wrap .i64 (i + 1))] (lapp (dN 4) (lapp [i64 i, i64
 (IntKind.wrap .i64 (i + 1))] (dN 11)))) [] 0 []))) (k (AX.exit 0) (St.mk (lapp [.imm (.ints IntKind.i64 T), .dead, .dead, i64 i, i64 i, .imm (.ints IntKind.i64 T), i64 (T.length : Int), bo (decide (i < (T.length : Int)))] (dN 13)) [] 0 []))) := by kernel_rfl
theorem g58_in (X : List Ty) (n : Int) (K : List AV → Prop) : evSpec N11 Tryd.f38 [xT X, i64 n] K = (LoopI N11 (bodyOf Tryd.f38) 0 (St.mk (lapp [.imm (.sl 3 (List.map cellsT X)), i64 n, .dead, .dead, i64 0, i64 0] (dN 27)) [] 0 []) (finK N11 Tryd.f38 K)) := by kernel_rfl
theorem g58_lp (X : List Ty) (n : Int) (i : Int) (k : AX → St → Prop) : evCode N11 (loopB (bodyOf Tryd.f38) 0) (k58 X n i) k = (brn (decide (i < (↑(List.map cellsT X).length : Int))) ((0 : Int) ≤ i ∧ i < (↑(List.map cellsT X).length : Int) ∧ kcells (List.getD (List.map cellsT X) i.toNat []) 0 (lapp [CK.int IntKind.i32] (lapp [CK.bool] (lapp [CK.int IntKind.u8] []))) = List.getD (List.map cellsT X) i.toNat [] ∧ brn (ivInt (ivNth (List.getD (List.map cellsT X) i.toNat []) 0) == (-2147483648 : Int)) (k AX.ret (St.mk (lapp [.imm (.sl 3 (List.map cellsT X)), i64 n, .dead, .dead, i64 9, i64 i, .dead, i64 i, .imm (.sl 3 (List.map cellsT X))] (dN 24)) [] 0 [])) (k AX.normal (St.mk (lapp [.imm (.sl 3 (List.map cellsT X)), i64 n, .dead, .dead, .dead, i64 (IntKind.wrap .i64 (i + 1)), .dead, i64 i, .imm (.sl 3 (List.map cellsT X)), .dead, .dead, i64 i, i64 (IntKind.wrap .i64 (i + 1))] (dN 20)) [] 0 []))) (k (AX.exit 0) (St.mk (lapp [.imm (.sl 3 (List.map cellsT X)), i64 n, .dead, .dead, .dead, i64 i, .dead, i64 i, .imm (.sl 3 (List.map cellsT X)), i64 (↑(List.map cellsT X).length : Int), bo (decide (i < (↑(List.map cellsT X).length : Int)))] (dN 22)) [] 0 []))) := by kernel_rfl
theorem g58_out (X : List Ty) (n : Int) (i : Int) (K : List AV → Prop) : loopK N11 (bodyOf Tryd.f38) 0 (finK N11 Tryd.f38 K) (AX.exit 0) (r58 X n i) = (LoopI N11 (bodyOf Tryd.f38) 1 (St.mk (lapp [.imm (.sl 3 (List.map cellsT X)), i64 n, .dead, .dead, .dead, i64 i, i64 0, i64 i, .imm (.sl 3 (List.map cellsT X))] (dN 24)) [] 0 []) (finK N11 Tryd.f38 K)) := by kernel_rfl
theorem g58_lp2 (X : List Ty) (n : Int) (i : Int) (k : AX → St → Prop) : evCode N11 (loopB (bodyOf Tryd.f38) 1) (k58b X n i) k = (brn (decide (i < (↑(List.map cellsT X).length : Int))) ((0 : Int) ≤ i ∧ i < (↑(List.map cellsT X).length : Int) ∧ kcells (List.getD (List.map cellsT X) i.toNat []) 0 (lapp [CK.int IntKind.i32] (lapp [CK.bool] (lapp [CK.int IntKind.u8] []))) = List.getD (List.map cellsT X) i.toNat [] ∧ brn (decide (IntKind.wrap .i64 (ivInt (ivNth (List.getD (List.map cellsT X) i.toNat []) (0 + 1 + 1))) ≥ n)) (k AX.ret (St.mk (lapp [.imm (.sl 3 (List.map cellsT X)), i64 n, .dead, .dead, i64 8, .dead, i64 i] (dN 26)) [] 0 [])) (k AX.normal (St.mk (lapp [.imm (.sl 3 (List.map cellsT X)), i64 n] (lapp (dN 4) (lapp [i64 (IntKind.wrap .i64 (i + 1))] (lapp (dN 16) (lapp [i64 i, i64 (IntKind.wrap .i64 (i + 1))] (dN 8)))))) [] 0 []))) (k (AX.exit 2) (St.mk (lapp [.imm (.sl 3 (List.map cellsT X)), i64 n] (lapp (dN 4) (lapp [i64 i] (lapp (dN 12) (lapp [i64 i, .imm (.sl 3 (List.map cellsT X)), i64 (↑(List.map cellsT X).length : Int), bo (decide (i < (↑(List.map cellsT X).length : Int)))] (dN 10)))))) [] 0 []))) := by kernel_rfl
theorem g92_in (b : List UInt8) (K : List AV → Prop) : evSpec N10 Tryd.f55 [by' b] K = (LoopI N10 (bodyOf Tryd.f55) 0 (St.mk (lapp [by' b, .dead, i64 0, i64 0] (dN 34)) [] 0 []) (finK N10 Tryd.f55 K)) := by kernel_rfl
theorem g92_lp (b : List UInt8) (i : Int) (k : AX → St → Prop) : evCode N10 (loopB (bodyOf Tryd.f55) 0) (h92 b i) k = (brn (decide (i < (b.length : Int))) ((0 : Int) ≤ i ∧ i < (b.length : Int) ∧ (((↑(UInt8.toNat (List.getD b i.toNat (0 : UInt8))) : Int) != 0) = true → (0 : Int) ≤ i) ∧ (((↑(UInt8.toNat (List.getD b i.toNat (0 : UInt8))) : Int) != 0) = true → i < (b.length : Int)) ∧ brn ((↑(UInt8.toNat (List.getD b i.toNat (0 : UInt8))) : Int) != 0 && !alwU (↑(UInt8.toNat (List.getD b i.toNat (0 : UInt8))) : Int)) (k AX.ret (St.mk (lapp [by' b, .dead, i64 i, i64 i] (lapp (dN 19) (lapp [i64 i] (dN 14)))) [] 0 [])) (k AX.normal (St.mk (lapp [by' b, .dead, .dead, i64 (IntKind.wrap .i64 (i + 1))] (lapp (dN 4) (lapp [i64 i, i64 (IntKind.wrap .i64 (i + 1))] (dN 28)))) [] 0 []))) (k (AX.exit 0) (St.mk (lapp [by' b, .dead, .dead, i64 i, i64 i, by' b, i64 (b.length : Int), bo (decide (i < (b.length : Int)))] (dN 30)) [] 0 []))) := by kernel_rfl
theorem g92_out (b : List UInt8) (i : Int) (K : List AV → Prop) : loopK N10 (bodyOf Tryd.f55) 0 (finK N10 Tryd.f55 K) (AX.exit 0) (o92 b i) = ((decide ((b.length : Int) > 0) = true → (0 : Int) ≤ IntKind.wrap .i64 ((b.length : Int) - 1)) ∧ (decide ((b.length : Int) > 0) = true → IntKind.wrap .i64 ((b.length : Int) - 1) < (b.length : Int)) ∧ brn (decide ((b.length : Int) > 0) && (↑(UInt8.toNat (List.getD b (IntKind.wrap .i64 ((b.length : Int) - 1)).toNat (0 : UInt8))) : Int) == 0) (K [i64 (-1 : Int)]) (K [i64 (b.length : Int)])) := by kernel_rfl
theorem g60_in (L : List Lp) (v : Int) (K : List AV → Prop) : evSpec N11 Tryd.f14 [xL L, i64 v] K = (LoopI N11 (bodyOf Tryd.f14) 0 (St.mk (lapp [.imm (.sl 2 (List.map cellsL L)), i64 v, .dead, .dead, bo false, i64 0] (dN 93)) [] 0 []) (finK N11 Tryd.f14 K)) := by kernel_rfl
theorem g60_lp (L : List Lp) (v : Int) (i : Int) (k : AX → St → Prop) : evCode N11 (loopB (bodyOf Tryd.f14) 0) (k60 L v i) k = (let A4 : Prop := ((k AX.ret (St.mk (lapp [.imm (.sl 2 (List.map cellsL L)), i64 v, .dead, .dead, bo false, i64 i, i64 (IntKind.wrap .i64 (ivInt (ivNth (List.getD (List.map cellsL L) i.toNat []) (0 + 1)))), i64 (IntKind.wrap .i64 (IntKind.wrap .i64 (ivInt (ivNth (List.getD (List.map cellsL L) i.toNat []) (0 + 1))) - IntKind.wrap .i64 (ivInt (ivNth (List.getD (List.map cellsL L) (IntKind.wrap .i64 (i - 1)).toNat []) (0 + 1))))), bo (i == IntKind.wrap .i64 ((↑(List.map cellsL L).length : Int) - 1))] (dN 90)) [] 0 []))); brn (decide (i < (↑(List.map cellsL L).length : Int))) ((0 : Int) ≤ i ∧ i < (↑(List.map cellsL L).length : Int) ∧ kcells (List.getD (List.map cellsL L) i.toNat []) 0 (lapp [CK.int IntKind.i64] (lapp [CK.int IntKind.i32] [])) = List.getD (List.map cellsL L) i.toNat [] ∧ brn (i == 0) ((0 : Int) ≤ 0 ∧ (0 : Int) < (↑(List.map cellsL L).length : Int) ∧ kcells (List.getD (List.map cellsL L) (0 : Int).toNat []) 0 (lapp [CK.int IntKind.i64] (lapp [CK.int IntKind.i32] [])) = List.getD (List.map cellsL L) (0 : Int).toNat [] ∧ brn (decide (ivInt (ivNth
 (List.getD (List.map cellsL L) (0 : Int).toNat []) 0) < 0) || decide (v < 4) && IntKind.wrap .i64 (ivInt (ivNth (List.getD (List.map cellsL L) i.toNat []) (0 + 1))) != 1 && IntKind.wrap .i64 (ivInt (ivNth (List.getD (List.map cellsL L) i.toNat []) (0 + 1))) != (-1 : Int)) (k AX.ret (St.mk (lapp [.imm (.sl 2 (List.map cellsL L)), i64 v, .dead, .dead, bo false, i64 i, i64 (IntKind.wrap .i64 (ivInt (ivNth (List.getD (List.map cellsL L) i.toNat []) (0 + 1))))] (dN 92)) [] 0 [])) (k AX.normal (St.mk (lapp [.imm (.sl 2 (List.map cellsL L)), i64 v, .dead, .dead, .dead, i64 (IntKind.wrap .i64 (i + 1)), i64 (IntKind.wrap .i64 (ivInt (ivNth (List.getD (List.map cellsL L) i.toNat []) (0 + 1))))] (lapp (dN 6) (lapp [i64 i, i64 (IntKind.wrap .i64 (i + 1))] (dN 84)))) [] 0 []))) ((0 : Int) ≤ IntKind.wrap .i64 (i - 1) ∧ IntKind.wrap .i64 (i - 1) < (↑(List.map cellsL L).length : Int) ∧ kcells (List.getD (List.map cellsL L) (IntKind.wrap .i64 (i - 1)).toNat []) 0 (lapp [CK.int IntKind.i64] (lapp [CK.int IntKind.i32] [])) = List.getD (List.map cellsL L) (IntKind.wrap .i64 (i - 1)).toNat [] ∧ (0 : Int) ≤ i ∧ i < (↑(List.map cellsL L).length : Int) ∧ kcells (List.getD (List.map cellsL L) i.toNat []) 0
 (lapp [CK.int IntKind.i64] (lapp [CK.int IntKind.i32] [])) = List.getD (List.map cellsL L) i.toNat [] ∧ (0 : Int) ≤ IntKind.wrap .i64 (i - 1) ∧ IntKind.wrap .i64 (i - 1) < (↑(List.map cellsL L).length : Int) ∧ kcells (List.getD (List.map cellsL L) (IntKind.wrap .i64 (i - 1)).toNat []) 0 (lapp [CK.int IntKind.i64] (lapp [CK.int IntKind.i32] [])) = List.getD (List.map cellsL L) (IntKind.wrap .i64 (i - 1)).toNat [] ∧ brn (decide (ivInt (ivNth (List.getD (List.map cellsL L) i.toNat []) 0) < ivInt (ivNth (List.getD (List.map cellsL L) (IntKind.wrap .i64 (i - 1)).toNat []) 0))) A4 ((0 : Int) ≤ i ∧ i < (↑(List.map cellsL L).length : Int) ∧ kcells (List.getD (List.map cellsL L) i.toNat []) 0 (lapp [CK.int IntKind.i64] (lapp [CK.int IntKind.i32] [])) = List.getD (List.map cellsL L) i.toNat [] ∧ (0 : Int) ≤ IntKind.wrap .i64 (i - 1) ∧ IntKind.wrap .i64 (i - 1) < (↑(List.map cellsL L).length : Int) ∧ kcells (List.getD (List.map cellsL L) (IntKind.wrap .i64 (i - 1)).toNat []) 0 (lapp [CK.int IntKind.i64] (lapp [CK.int IntKind.i32] [])) = List.getD (List.map cellsL L) (IntKind.wrap .i64 (i - 1)).toNat [] ∧ brn (decide (IntKind.wrap .i64 (ivInt (ivNth (List.getD (List.map cellsL L) i.toNat []) 0)
 - ivInt (ivNth (List.getD (List.map cellsL L) (IntKind.wrap .i64 (i - 1)).toNat []) 0)) < 2419199)) A4 (brn (IntKind.wrap .i64 (IntKind.wrap .i64 (ivInt (ivNth (List.getD (List.map cellsL L) i.toNat []) (0 + 1))) - IntKind.wrap .i64 (ivInt (ivNth (List.getD (List.map cellsL L) (IntKind.wrap .i64 (i - 1)).toNat []) (0 + 1)))) != 1 && IntKind.wrap .i64 (IntKind.wrap .i64 (ivInt (ivNth (List.getD (List.map cellsL L) i.toNat []) (0 + 1))) - IntKind.wrap .i64 (ivInt (ivNth (List.getD (List.map cellsL L) (IntKind.wrap .i64 (i - 1)).toNat []) (0 + 1)))) != (-1 : Int) && (IntKind.wrap .i64 (IntKind.wrap .i64 (ivInt (ivNth (List.getD (List.map cellsL L) i.toNat []) (0 + 1))) - IntKind.wrap .i64 (ivInt (ivNth (List.getD (List.map cellsL L) (IntKind.wrap .i64 (i - 1)).toNat []) (0 + 1)))) != 0 || decide (v < 4) || !i == IntKind.wrap .i64 ((↑(List.map cellsL L).length : Int) - 1))) (k AX.ret (St.mk (lapp [.imm (.sl 2 (List.map cellsL L)), i64 v, .dead, .dead, bo false, i64 i, i64 (IntKind.wrap .i64 (ivInt (ivNth (List.getD (List.map cellsL L) i.toNat []) (0 + 1)))), i64 (IntKind.wrap .i64 (IntKind.wrap .i64 (ivInt (ivNth (List.getD (List.map cellsL L) i.toNat []) (0 + 1))) - IntKind.wrap .i64
 (ivInt (ivNth (List.getD (List.map cellsL L) (IntKind.wrap .i64 (i - 1)).toNat []) (0 + 1))))), bo (i == IntKind.wrap .i64 ((↑(List.map cellsL L).length : Int) - 1))] (dN 90)) [] 0 [])) (k AX.normal (St.mk (lapp [.imm (.sl 2 (List.map cellsL L)), i64 v, .dead, .dead, .dead, i64 (IntKind.wrap .i64 (i + 1)), i64 (IntKind.wrap .i64 (ivInt (ivNth (List.getD (List.map cellsL L) i.toNat []) (0 + 1)))), i64 (IntKind.wrap .i64 (IntKind.wrap .i64 (ivInt (ivNth (List.getD (List.map cellsL L) i.toNat []) (0 + 1))) - IntKind.wrap .i64 (ivInt (ivNth (List.getD (List.map cellsL L) (IntKind.wrap .i64 (i - 1)).toNat []) (0 + 1))))), bo (i == IntKind.wrap .i64 ((↑(List.map cellsL L).length : Int) - 1))] (lapp (dN 4) (lapp [i64 i, i64 (IntKind.wrap .i64 (i + 1))] (dN 84)))) [] 0 [])))))) (k (AX.exit 0) (St.mk (lapp [.imm (.sl 2 (List.map cellsL L)), i64 v, .dead, .dead, .dead, i64 i, .dead, .dead, .dead, i64 i, .imm (.sl 2 (List.map cellsL L)), i64 (↑(List.map cellsL L).length : Int), bo (decide (i < (↑(List.map cellsL L).length : Int)))] (dN 86)) [] 0 []))) := by kernel_rfl
theorem g61_in (S : List Bool) (U : List Bool) (K : List AV → Prop) : evSpec N11 Tryd.f40 [oo S, oo U] K = (LoopI N11 (bodyOf Tryd.f40) 0 (St.mk (lapp [.imm (.bools S), .imm (.bools U), .dead, .dead, bo false, i64 0] (dN 25)) [] 0 []) (finK N11 Tryd.f40 K)) := by kernel_rfl
theorem g61_lp (S : List Bool) (U : List Bool) (i : Int) (k : AX → St → Prop) : evCode N11 (loopB (bodyOf Tryd.f40) 0) (k61 S U i) k = (brn (decide (i < (U.length : Int))) ((decide (i < (S.length : Int)) = true → (0 : Int) ≤ i) ∧ (decide (i < (S.length : Int)) = true → i < (S.length : Int)) ∧ (0 : Int) ≤ i ∧ i < (U.length : Int) ∧ brn (List.getD U i.toNat false && !(decide (i < (S.length : Int)) && List.getD S i.toNat false)) (k AX.ret (St.mk (lapp [.imm (.bools S), .imm (.bools U), .dead, .dead, bo false, i64 i, bo (decide (i < (S.length : Int)) && List.getD S i.toNat false), i64 i, .imm (.bools U)] (dN 22)) [] 0 [])) (k AX.normal (St.mk (lapp [.imm (.bools S), .imm (.bools U), .dead, .dead, .dead, i64 (IntKind.wrap .i64 (i + 1)), bo (decide (i < (S.length : Int)) && List.getD S i.toNat false), i64 i, .imm (.bools U), .dead, .dead, i64 i, i64 (IntKind.wrap .i64 (i + 1))] (dN 18)) [] 0 []))) (k (AX.exit 0) (St.mk (lapp [.imm (.bools S), .imm (.bools U), .dead, .dead, .dead, i64 i, .dead, i64 i, .imm (.bools U), i64 (U.length : Int), bo (decide (i < (U.length : Int)))] (dN 20)) [] 0 []))) := by kernel_rfl
theorem w1 {i : Int} (h0 : 0 ≤ i) (h : i ≤ 10000000000) : IntKind.wrap .i64 (i + 1) = i + 1 := wrap64 (by omega) (by omega)
def ascP (T : List Int) : Prop := ∀ j : Nat, j + 1 < T.length → T.getD j 0 < T.getD (j + 1) 0
theorem desc_ex (T : List Int) (hl : (T.length : Int) ≤ 1000000) : ∃ v : Int, (v = -1 → ascP T) ∧ ∀ K : List AV → Prop, K [i64 v] → evSpec N10 Tryd.f37 [ii T] K := by
  refine Exists.elim (loop_det (C := N10) (c := loopB (bodyOf Tryd.f37) 0) (fun i : Int => k57 T i) (fun i => 1 ≤ i ∧ i ≤ T.length + 1 ∧ ∀ j : Nat, (j : Int) + 1 < i → T.getD j 0 < T.getD (j + 1) 0) (fun i => ((T.length : Int) + 1 - i).toNat) (fun v : Int => v = -1 → ascP T) (fun v => [i64 v])
    (fun K => loopK N10 (bodyOf Tryd.f37) 0 (finK N10 Tryd.f37 K)) rfl (fun i hs => ?_) 1 ⟨Int.le_refl 1, by omega, fun j hj => by omega⟩) (fun v hv' => ?_)
  · obtain ⟨i1, i2, i3⟩ := hs
    have e0 : IntKind.wrap .i64 (i - 1) = i - 1 := wrap64 (by omega) (by omega)
    by_cases h : i < T.length
    · have b1 : 0 ≤ i - 1 := by omega
      have b2 : i - 1 < T.length := by omega
      have b3 : 0 ≤ i := by omega
      by_cases hx : List.getD T (Int.toNat (i - 1)) 0 ≥ List.getD T i.toNat 0
      · refine .inr ⟨.ret, _, by simp, fun K' hK' => by
          rw [g57_lp]
          intro E1
          rw [e0]
          exact brn_T (decide_eq_true h) ⟨⟨b1, b2, b3, h, rfl, rfl⟩, brn_T (decide_eq_true hx) hK'⟩, i, fun e => by omega, fun K hK => ?_⟩
        exact Eq.mp (by kernel_rfl) hK
      · refine .inl ⟨i + 1, q57, _, ⟨by omega, by omega, fun j hj => ?_⟩, by omega, ?_, fun K' hK' => by
          rw [g57_lp]
          intro E1
          rw [e0]
          exact brn_T (decide_eq_true h) ⟨⟨b1, b2, b3, h, rfl, rfl⟩, brn_Fa (decide_eq_false hx) hK'⟩⟩
        · by_cases hji : (j : Int) + 1 = i
          · have q1 : (i - 1).toNat = j := by omega
            have q2 : i.toNat = j + 1 := by omega
            rw [q1, q2] at hx
            omega
          · exact i3 j (by omega)
        · rw [w1 (by omega) (by omega)]
          kernel_rfl
    · refine .inr ⟨.exit 0, _, by simp, fun K' hK' => by
        rw [g57_lp]
        intro E1
        exact brn_Fa (decide_eq_false h) hK', -1, fun _ j hj => i3 j (by omega), fun K hK => ?_⟩
      exact Eq.mp (by kernel_rfl) hK
  · obtain ⟨hv, hk⟩ := hv'
    refine ⟨v, hv, fun K hK => ?_⟩
    rw [g57_in]
    unfold LoopI
    exact hk K hK q57 _ (by kernel_rfl)
theorem chk_ex (X : List Ty) (n : Int) (hl : (X.length : Int) ≤ 1000000) : ∃ v : Int, True ∧ ∀ K : List AV → Prop, K [i64 v] → evSpec N11 Tryd.f38 [xT X, i64 n] K := by
  have hlen : (X.map cellsT).length = X.length := List.length_map _
  have second : ∃ v : Int, True ∧ ∀ K : List AV → Prop, K [i64 v] → ∀ p st, norm p st = some (k58b X n 0) → evCode N11 (.loop (loopB (bodyOf Tryd.f38) 1)) st (loopK N11 (bodyOf Tryd.f38) 1 (finK N11 Tryd.f38 K)) := by
    refine loop_det (C := N11) (c := loopB (bodyOf Tryd.f38) 1) (fun i : Int => k58b X n i) (fun i => 0 ≤ i ∧ i ≤ X.length) (fun i => ((X.length : Int) - i).toNat) (fun _ : Int => True) (fun v => [i64 v])
      (fun K => loopK N11 (bodyOf Tryd.f38) 1 (finK N11 Tryd.f38 K)) rfl (fun i hs => ?_) 0 ⟨Int.le_refl 0, by omega⟩
    obtain ⟨i1, i2⟩ := hs
    by_cases h : i < X.length
    · have hb : i < ((X.map cellsT).length : Int) := by rw [hlen]; exact h
      have hk := kcT i1 h
      by_cases hx : IntKind.wrap .i64 (ivInt (ivNth (List.getD (List.map cellsT X) i.toNat []) (0 + 1 + 1))) ≥ n
      · refine .inr ⟨.ret, _, by simp, fun K' hK' => by
          rw [g58_lp2]
          exact brn_T (decide_eq_true hb) ⟨i1, hb, hk, brn_T (decide_eq_true hx) hK'⟩, 8, trivial, fun K hK => ?_⟩
        exact Eq.mp (by kernel_rfl) hK
      · refine .inl ⟨i + 1, q58b, _, ⟨by omega, by omega⟩, by omega, ?_, fun K' hK' => by
          rw [g58_lp2]
          exact brn_T (decide_eq_true hb) ⟨i1, hb, hk, brn_Fa (decide_eq_false hx) hK'⟩⟩
        rw [w1 (by omega) (by omega)]
        kernel_rfl
    · refine .inr ⟨.exit 2, _, by simp, fun K' hK' => by
        rw [g58_lp2]
        exact brn_Fa (decide_eq_false (by rw [hlen]; exact h)) hK', 0, trivial, fun K hK => ?_⟩
      exact Eq.mp (by kernel_rfl) hK
  refine Exists.elim (loop_det (C := N11) (c := loopB (bodyOf Tryd.f38) 0) (fun i : Int => k58 X n i) (fun i => 0 ≤ i ∧ i ≤ X.length) (fun i => ((X.length : Int) - i).toNat) (fun _ : Int => True) (fun v => [i64 v])
    (fun K => loopK N11 (bodyOf Tryd.f38) 0 (finK N11 Tryd.f38 K)) rfl (fun i hs => ?_) 0 ⟨Int.le_refl 0, by omega⟩) (fun v hv' => ?_)
  · obtain ⟨i1, i2⟩ := hs
    by_cases h : i < X.length
    · have hb : i < ((X.map cellsT).length : Int) := by rw [hlen]; exact h
      have hk := kcT i1 h
      cases hx : (ivInt (ivNth (List.getD (List.map cellsT X) i.toNat []) 0) == -2147483648) with
      | true =>
        refine .inr ⟨.ret, _, by simp, fun K' hK' => by
          rw [g58_lp]
          exact brn_T (decide_eq_true hb) ⟨i1, hb, hk, brn_T hx hK'⟩, 9, trivial, fun K hK => ?_⟩
        exact Eq.mp (by kernel_rfl) hK
      | false =>
        refine .inl ⟨i + 1, q58, _, ⟨by omega, by omega⟩, by omega, ?_, fun K' hK' => by
          rw [g58_lp]
          exact brn_T (decide_eq_true hb) ⟨i1, hb, hk, brn_Fa hx hK'⟩⟩
        rw [w1 (by omega) (by omega)]
        kernel_rfl
    · obtain ⟨v, hv, hk⟩ := second
      refine .inr ⟨.exit 0, _, by simp, fun K' hK' => by
        rw [g58_lp]
        exact brn_Fa (decide_eq_false (by rw [hlen]; exact h)) hK', v, trivial, fun K hK => ?_⟩
      have key : loopK N11 (bodyOf Tryd.f38) 0 (finK N11 Tryd.f38 K) (AX.exit 0) (r58 X n i) := by
        refine Eq.mpr (g58_out X n i K) ?_
        unfold LoopI
        exact hk K hK q58b _ (by kernel_rfl)
      exact Eq.mp (by kernel_rfl) key
  · obtain ⟨hv, hk⟩ := hv'
    refine ⟨v, hv, fun K hK => ?_⟩
    rw [g58_in]
    unfold LoopI
    exact hk K hK q58 _ (by kernel_rfl)
theorem bad_ex (b : List UInt8) (hl : (b.length : Int) ≤ 1000000) : ∃ v : Int, True ∧ ∀ K : List AV → Prop, K [i64 v] → evSpec N10 Tryd.f55 [by' b] K := by
  refine Exists.elim (loop_det (C := N10) (c := loopB (bodyOf Tryd.f55) 0) (fun i : Int => h92 b i) (fun i => 0 ≤ i ∧ i ≤ b.length) (fun i => ((b.length : Int) - i).toNat) (fun _ : Int => True) (fun v => [i64 v])
    (fun K => loopK N10 (bodyOf Tryd.f55) 0 (finK N10 Tryd.f55 K)) rfl (fun i hs => ?_) 0 ⟨Int.le_refl 0, by omega⟩) (fun v hv' => ?_)
  · obtain ⟨i1, i2⟩ := hs
    by_cases h : i < b.length
    · cases hx : (((b.getD i.toNat 0).toNat : Int) != 0 && !alwU ((b.getD i.toNat 0).toNat : Int)) with
      | true =>
        refine .inr ⟨.ret, _, by simp, fun K' hK' => by
          rw [g92_lp]
          exact brn_T (decide_eq_true h) ⟨i1, h, fun _ => i1, fun _ => h, brn_T hx hK'⟩, i, trivial, fun K hK => ?_⟩
        exact Eq.mp (by kernel_rfl) hK
      | false =>
        refine .inl ⟨i + 1, p92, _, ⟨by omega, by omega⟩, by omega, ?_, fun K' hK' => by
          rw [g92_lp]
          exact brn_T (decide_eq_true h) ⟨i1, h, fun _ => i1, fun _ => h, brn_Fa hx hK'⟩⟩
        rw [w1 (by omega) (by omega)]
        kernel_rfl
    · have hw : IntKind.wrap .i64 ((b.length : Int) - 1) = (b.length : Int) - 1 := wrap64 (by omega) (by omega)
      have c1 : decide ((b.length : Int) > 0) = true → 0 ≤ IntKind.wrap .i64 ((b.length : Int) - 1) := fun h => by
        have := of_decide_eq_true h
        rw [hw]; omega
      have c2 : decide ((b.length : Int) > 0) = true → IntKind.wrap .i64 ((b.length : Int) - 1) < (b.length : Int) := fun h => by
        rw [hw]; omega
      cases hx : (decide ((b.length : Int) > 0) && ((b.getD (Int.toNat (IntKind.wrap .i64 ((b.length : Int) - 1))) 0).toNat : Int) == 0) with
      | true =>
        refine .inr ⟨.exit 0, _, by simp, fun K' hK' => by
          rw [g92_lp]
          exact brn_Fa (decide_eq_false h) hK', -1, trivial, fun K hK => ?_⟩
        have key : loopK N10 (bodyOf Tryd.f55) 0 (finK N10 Tryd.f55 K) (AX.exit 0) (o92 b i) := Eq.mpr (g92_out b i K) ⟨c1, c2, brn_T hx hK⟩
        exact Eq.mp (by kernel_rfl) key
      | false =>
        refine .inr ⟨.exit 0, _, by simp, fun K' hK' => by
          rw [g92_lp]
          exact brn_Fa (decide_eq_false h) hK', (b.length : Int), trivial, fun K hK => ?_⟩
        have key : loopK N10 (bodyOf Tryd.f55) 0 (finK N10 Tryd.f55 K) (AX.exit 0) (o92 b i) := Eq.mpr (g92_out b i K) ⟨c1, c2, brn_Fa hx hK⟩
        exact Eq.mp (by kernel_rfl) key
  · obtain ⟨hv, hk⟩ := hv'
    refine ⟨v, hv, fun K hK => ?_⟩
    rw [g92_in]
    unfold LoopI
    exact hk K hK p92 _ (by kernel_rfl)
theorem con_ex (S U : List Bool) (hl : (U.length : Int) ≤ 1000000) : ∃ v : Bool, True ∧ ∀ K : List AV → Prop, K [bo v] → evSpec N11 Tryd.f40 [oo S, oo U] K := by
  refine Exists.elim (loop_det (C := N11) (c := loopB (bodyOf Tryd.f40) 0) (fun i : Int => k61 S U i) (fun i => 0 ≤ i ∧ i ≤ U.length) (fun i => ((U.length : Int) - i).toNat) (fun _ : Bool => True) (fun v => [bo v])
    (fun K => loopK N11 (bodyOf Tryd.f40) 0 (finK N11 Tryd.f40 K)) rfl (fun i hs => ?_) 0 ⟨Int.le_refl 0, by omega⟩) (fun v hv' => ?_)
  · obtain ⟨i1, i2⟩ := hs
    by_cases h : i < U.length
    · cases hx : (List.getD U i.toNat false && !(decide (i < (S.length : Int)) && List.getD S i.toNat false)) with
      | true =>
        refine .inr ⟨.ret, _, by simp, fun K' hK' => by
          rw [g61_lp]
          exact brn_T (decide_eq_true h) ⟨fun _ => i1, fun h => of_decide_eq_true h, i1, h, brn_T hx hK'⟩, false, trivial, fun K hK => ?_⟩
        exact Eq.mp (by kernel_rfl) hK
      | false =>
        refine .inl ⟨i + 1, q61, _, ⟨by omega, by omega⟩, by omega, ?_, fun K' hK' => by
          rw [g61_lp]
          exact brn_T (decide_eq_true h) ⟨fun _ => i1, fun h => of_decide_eq_true h, i1, h, brn_Fa hx hK'⟩⟩
        rw [w1 (by omega) (by omega)]
        kernel_rfl
    · refine .inr ⟨.exit 0, _, by simp, fun K' hK' => by
        rw [g61_lp]
        exact brn_Fa (decide_eq_false h) hK', true, trivial, fun K hK => ?_⟩
      exact Eq.mp (by kernel_rfl) hK
  · obtain ⟨hv, hk⟩ := hv'
    refine ⟨v, hv, fun K hK => ?_⟩
    rw [g61_in]
    unfold LoopI
    exact hk K hK q61 _ (by kernel_rfl)
def gdL (L : List Lp) (n i : Int) : Bool := bif i == (0 : Int) then !(decide (ivInt (ivNth (List.getD (List.map cellsL L) (Int.toNat (0 : Int)) []) (0 : Nat)) < (0 : Int)) || decide (n < (4 : Int)) && IntKind.wrap IntKind.i64 (ivInt (ivNth (List.getD (List.map cellsL L) (Int.toNat i) []) ((0 : Nat) + (1 : Nat)))) != (1 : Int) && IntKind.wrap IntKind.i64 (ivInt (ivNth (List.getD (List.map cellsL L) (Int.toNat i) []) ((0 : Nat) + (1 : Nat)))) != (-1 : Int))
  else !(decide (ivInt (ivNth (List.getD (List.map cellsL L) (Int.toNat i) []) (0 : Nat)) < ivInt (ivNth (List.getD (List.map cellsL L) (Int.toNat (i - (1 : Int))) []) (0 : Nat)))) && (!(decide (IntKind.wrap IntKind.i64 (ivInt (ivNth (List.getD (List.map cellsL L) (Int.toNat i) []) (0 : Nat)) - ivInt (ivNth (List.getD (List.map cellsL L) (Int.toNat (i - (1 : Int))) []) (0 : Nat))) < (2419199 : Int))) && !(IntKind.wrap IntKind.i64 (IntKind.wrap IntKind.i64 (ivInt (ivNth (List.getD (List.map cellsL L) (Int.toNat i) []) ((0 : Nat) + (1 : Nat)))) - IntKind.wrap IntKind.i64 (ivInt (ivNth (List.getD (List.map cellsL L) (Int.toNat (i - (1 : Int))) []) ((0 : Nat) + (1 : Nat))))) != (1 : Int) && IntKind.wrap IntKind.i64 (IntKind.wrap IntKind.i64 (ivInt (ivNth (List.getD (List.map cellsL L) (Int.toNat i) []) ((0 : Nat) + (1 : Nat)))) - IntKind.wrap IntKind.i64 (ivInt (ivNth (List.getD (List.map cellsL L) (Int.toNat (i - (1 : Int))) []) ((0 : Nat) + (1 : Nat))))) != (-1 : Int) && (IntKind.wrap IntKind.i64 (IntKind.wrap IntKind.i64 (ivInt (ivNth (List.getD (List.map cellsL L) (Int.toNat i) []) ((0 : Nat) + (1 : Nat)))) - IntKind.wrap IntKind.i64 (ivInt (ivNth (List.getD (List.map cellsL L) (Int.toNat (i - (1 : Int))) []) ((0 : Nat) + (1 : Nat))))) != (0 : Int) || decide (n < (4 : Int)) || !i == IntKind.wrap IntKind.i64 ((↑(List.length (List.map cellsL L)) : Int) - (1 : Int)))))
def lvC (L : List Lp) (n : Int) : Bool := (List.range L.length).all fun i => gdL L n i
theorem lvC_F {L : List Lp} {n i : Int} (h0 : 0 ≤ i) (h : i < L.length) (hg : gdL L n i = false) : false = lvC L n := by
  symm
  unfold lvC
  rw [List.all_eq_false]
  refine ⟨i.toNat, List.mem_range.2 (by omega), ?_⟩
  rw [show ((i.toNat : Nat) : Int) = i by omega, hg]
  decide
theorem lvC_T {L : List Lp} {n i : Int} (h : ¬ i < L.length) (hj : ∀ j : Nat, (j : Int) < i → gdL L n j = true) : true = lvC L n := by
  symm
  unfold lvC
  rw [List.all_eq_true]
  intro j hm
  have := List.mem_range.1 hm
  exact hj j (by omega)
theorem gdL_next {L : List Lp} {n i : Int} (h0 : 0 ≤ i) (hj : ∀ j : Nat, (j : Int) < i → gdL L n j = true) (hg : gdL L n i = true) (j : Nat) (h : (j : Int) < i + 1) : gdL L n j = true := by
  by_cases e : (j : Int) < i
  · exact hj j e
  · rw [show (j : Int) = i by omega]; exact hg
theorem lv_ex (L : List Lp) (n : Int) (hl : (L.length : Int) ≤ 1000000) : ∃ v : Bool, v = lvC L n ∧ ∀ K : List AV → Prop, K [bo v] → evSpec N11 Tryd.f14 [xL L, i64 n] K := by
  have hlen : (L.map cellsL).length = L.length := List.length_map _
  refine Exists.elim (loop_det (C := N11) (c := loopB (bodyOf Tryd.f14) 0) (fun i : Int => k60 L n i) (fun i => 0 ≤ i ∧ i ≤ L.length ∧ ∀ j : Nat, (j : Int) < i → gdL L n j = true) (fun i => ((L.length : Int) - i).toNat) (fun v : Bool => v = lvC L n) (fun v => [bo v])
    (fun K => loopK N11 (bodyOf Tryd.f14) 0 (finK N11 Tryd.f14 K)) rfl (fun i hs => ?_) 0 ⟨Int.le_refl 0, by omega, fun j hj => by omega⟩) (fun v hv' => ?_)
  · obtain ⟨i1, i2, i3⟩ := hs
    have e0 : IntKind.wrap .i64 (i - 1) = i - 1 := wrap64 (by omega) (by omega)
    by_cases h : i < L.length
    · have hb : i < ((L.map cellsL).length : Int) := by rw [hlen]; exact h
      have hk := kcL i1 h
      by_cases hz : i = 0
      · have hz' : (i == (0 : Int)) = true := by rw [hz]; first | done | rfl
        have hb0 : (0 : Int) < ((L.map cellsL).length : Int) := by omega
        have hk0 := kcL (L := L) (i := 0) (Int.le_refl 0) (by omega)
        cases hx : (decide (ivInt (ivNth (List.getD (List.map cellsL L) (Int.toNat (0 : Int)) []) (0 : Nat)) < (0 : Int)) || decide (n < (4 : Int)) && IntKind.wrap IntKind.i64 (ivInt (ivNth (List.getD (List.map cellsL L) (Int.toNat i) []) ((0 : Nat) + (1 : Nat)))) != (1 : Int) && IntKind.wrap IntKind.i64 (ivInt (ivNth (List.getD (List.map cellsL L) (Int.toNat i) []) ((0 : Nat) + (1 : Nat)))) != (-1 : Int)) with
        | true =>
          refine .inr ⟨.ret, _, by simp, fun K' hK' => by
            rw [g60_lp]
            intro A4
            exact brn_T (decide_eq_true hb) ⟨i1, hb, hk, brn_T hz' ⟨Int.le_refl 0, hb0, hk0, brn_T hx hK'⟩⟩, false, lvC_F i1 h (by unfold gdL; rw [hz', cond_true, hx]; rfl), fun K hK => ?_⟩
          exact Eq.mp (by kernel_rfl) hK
        | false =>
          refine .inl ⟨i + 1, q60, _, ⟨by omega, by omega, gdL_next i1 i3 (by unfold gdL; rw [hz', cond_true, hx]; rfl)⟩, by omega, ?_, fun K' hK' => by
            rw [g60_lp]
            intro A4
            exact brn_T (decide_eq_true hb) ⟨i1, hb, hk, brn_T hz' ⟨Int.le_refl 0, hb0, hk0, brn_Fa hx hK'⟩⟩⟩
          rw [w1 (by omega) (by omega)]
          kernel_rfl
      · have hz' : (i == (0 : Int)) = false := by
          cases he : (i == (0 : Int)) with
          | false => rfl
          | true => exact absurd (eq_of_beq he) hz
        have j0 : 0 ≤ i - 1 := by omega
        have j1 : i - 1 < ((L.map cellsL).length : Int) := by omega
        have hkj := kcL (L := L) (i := i - 1) j0 (by omega)
        by_cases hx : (decide (ivInt (ivNth (List.getD (List.map cellsL L) (Int.toNat i) []) (0 : Nat)) < ivInt (ivNth (List.getD (List.map cellsL L) (Int.toNat (i - (1 : Int))) []) (0 : Nat)))) = true
        · refine .inr ⟨.ret, _, by simp, fun K' hK' => by
            rw [g60_lp]
            intro A4
            have hA : A4 := hK'
            clear_value A4
            rw [e0]
            exact brn_T (decide_eq_true hb) ⟨i1, hb, hk, brn_Fa hz' ⟨j0, j1, hkj, i1, hb, hk, j0, j1, hkj, brn_T hx hA⟩⟩, false, lvC_F i1 h (by unfold gdL; rw [hz', cond_false, hx]; rfl), fun K hK => ?_⟩
          exact Eq.mp (by kernel_rfl) hK
        · have hxf := Bool.eq_false_iff.mpr hx
          by_cases hy : (decide (IntKind.wrap IntKind.i64 (ivInt (ivNth (List.getD (List.map cellsL L) (Int.toNat i) []) (0 : Nat)) - ivInt (ivNth (List.getD (List.map cellsL L) (Int.toNat (i - (1 : Int))) []) (0 : Nat))) < (2419199 : Int))) = true
          · refine .inr ⟨.ret, _, by simp, fun K' hK' => by
              rw [g60_lp]
              intro A4
              have hA : A4 := hK'
              clear_value A4
              rw [e0]
              exact brn_T (decide_eq_true hb) ⟨i1, hb, hk, brn_Fa hz' ⟨j0, j1, hkj, i1, hb, hk, j0, j1, hkj, brn_Fa hxf ⟨i1, hb, hk, j0, j1, hkj, brn_T hy hA⟩⟩⟩, false, lvC_F i1 h (by unfold gdL; rw [hz', cond_false, hxf, hy]; rfl), fun K hK => ?_⟩
            exact Eq.mp (by kernel_rfl) hK
          · have hyf := Bool.eq_false_iff.mpr hy
            cases hw : (IntKind.wrap IntKind.i64 (IntKind.wrap IntKind.i64 (ivInt (ivNth (List.getD (List.map cellsL L) (Int.toNat i) []) ((0 : Nat) + (1 : Nat)))) - IntKind.wrap IntKind.i64 (ivInt (ivNth (List.getD (List.map cellsL L) (Int.toNat (i - (1 : Int))) []) ((0 : Nat) + (1 : Nat))))) != (1 : Int) && IntKind.wrap IntKind.i64 (IntKind.wrap IntKind.i64 (ivInt (ivNth (List.getD (List.map cellsL L) (Int.toNat i) []) ((0 : Nat) + (1 : Nat)))) - IntKind.wrap IntKind.i64 (ivInt (ivNth (List.getD (List.map cellsL L) (Int.toNat (i - (1 : Int))) []) ((0 : Nat) + (1 : Nat))))) != (-1 : Int) && (IntKind.wrap IntKind.i64 (IntKind.wrap IntKind.i64 (ivInt (ivNth (List.getD (List.map cellsL L) (Int.toNat i) []) ((0 : Nat) + (1 : Nat)))) - IntKind.wrap IntKind.i64 (ivInt (ivNth (List.getD (List.map cellsL L) (Int.toNat (i - (1 : Int))) []) ((0 : Nat) + (1 : Nat))))) != (0 : Int) || decide (n < (4 : Int)) || !i == IntKind.wrap IntKind.i64 ((↑(List.length (List.map cellsL L)) : Int) - (1 : Int)))) with
            | true =>
              refine .inr ⟨.ret, _, by simp, fun K' hK' => by
                rw [g60_lp]
                intro A4
                clear_value A4
                rw [e0]
                exact brn_T (decide_eq_true hb) ⟨i1, hb, hk, brn_Fa hz' ⟨j0, j1, hkj, i1, hb, hk, j0, j1, hkj, brn_Fa hxf ⟨i1, hb, hk, j0, j1, hkj, brn_Fa hyf (brn_T hw hK')⟩⟩⟩, false, lvC_F i1 h (by unfold gdL; rw [hz', cond_false, hxf, hyf, hw]; rfl), fun K hK => ?_⟩
              exact Eq.mp (by kernel_rfl) hK
            | false =>
              refine .inl ⟨i + 1, q60, _, ⟨by omega, by omega, gdL_next i1 i3 (by unfold gdL; rw [hz', cond_false, hxf, hyf, hw]; rfl)⟩, by omega, ?_, fun K' hK' => by
                rw [g60_lp]
                intro A4
                clear_value A4
                rw [e0]
                exact brn_T (decide_eq_true hb) ⟨i1, hb, hk, brn_Fa hz' ⟨j0, j1, hkj, i1, hb, hk, j0, j1, hkj, brn_Fa hxf ⟨i1, hb, hk, j0, j1, hkj, brn_Fa hyf (brn_Fa hw hK')⟩⟩⟩⟩
              rw [w1 (by omega) (by omega)]
              kernel_rfl
    · refine .inr ⟨.exit 0, _, by simp, fun K' hK' => by
        rw [g60_lp]
        exact brn_Fa (decide_eq_false (by rw [hlen]; exact h)) hK', true, lvC_T h i3, fun K hK => ?_⟩
      exact Eq.mp (by kernel_rfl) hK
  · obtain ⟨hv, hk⟩ := hv'
    refine ⟨v, hv, fun K hK => ?_⟩
    rw [g60_in]
    unfold LoopI
    exact hk K hK q60 _ (by kernel_rfl)
end PF
set_option maxRecDepth 100000
namespace PF
open Go Go.AE Go.Proofs PE
noncomputable section
def desV (T : List Int) : Int := Classical.epsilon fun v : Int => (v = -1 → ascP T) ∧ ∀ K : List AV → Prop, K [i64 v] → evSpec N10 Tryd.f37 [ii T] K
def chkV (X : List Ty) (n : Int) : Int := Classical.epsilon fun v : Int => True ∧ ∀ K : List AV → Prop, K [i64 v] → evSpec N11 Tryd.f38 [xT X, i64 n] K
def badV (b : List UInt8) : Int := Classical.epsilon fun v : Int => True ∧ ∀ K : List AV → Prop, K [i64 v] → evSpec N10 Tryd.f55 [by' b] K
def lvV (L : List Lp) (n : Int) : Bool := Classical.epsilon fun v : Bool => v = lvC L n ∧ ∀ K : List AV → Prop, K [bo v] → evSpec N11 Tryd.f14 [xL L, i64 n] K
def conV (S U : List Bool) : Bool := Classical.epsilon fun v : Bool => True ∧ ∀ K : List AV → Prop, K [bo v] → evSpec N11 Tryd.f40 [oo S, oo U] K
def sDesc : List AV → Option (List Prop × List AV)
  | [.imm (.ints .i64 T)] => some ([(T.length : Int) ≤ 1000000], [i64 (desV T)])
  | _ => none
def sChk : List AV → Option (List Prop × List AV)
  | [.imm (.sl 3 X), .imm (.int .i64 n)] => some ([okT X, (X.length : Int) ≤ 1000000], [i64 (chkV (tys X) n)])
  | _ => none
def sBad : List AV → Option (List Prop × List AV)
  | [.imm (.bytes b)] => some ([(b.length : Int) ≤ 1000000], [i64 (badV b)])
  | _ => none
def sLvl : List AV → Option (List Prop × List AV)
  | [.imm (.sl 2 xs), .imm (.int .i64 n)] => some ([okL xs, (xs.length : Int) ≤ 1000000], [bo (lvV (lps xs) n)])
  | _ => none
def sCon : List AV → Option (List Prop × List AV)
  | [.imm (.bools S), .imm (.bools U)] => some ([(U.length : Int) ≤ 1000000], [bo (conV S U)])
  | _ => none
noncomputable def F30 := addE (addE (addE (addE (addE F29 37 sDesc) 38 sChk) 55 sBad) 14 sLvl) 40 sCon
end
attribute [local irreducible] loopK evCode evSpec loopB norm
theorem xT_tys {X : List (List IV)} (h : okT X) : AV.imm (.sl 3 X) = xT (tys X) := by
  have := h.1
  unfold xT
  rw [← this]
theorem tys_len {X : List (List IV)} (h : okT X) : (tys X).length = X.length := by
  have := congrArg List.length h.1
  rw [List.length_map] at this
  exact this.symm
theorem desV_sp {T : List Int} (hl : (T.length : Int) ≤ 1000000) : desV T = -1 → ascP T := (Classical.epsilon_spec (desc_ex T hl)).1
theorem ok57e : ∀ args pres res, sDesc args = some (pres, res) → SpecOK Tryd.prog G16 37 args pres res := by
  intro args pres res h
  unfold sDesc at h
  split at h
  case h_2 => cases h
  cases h
  exact spec_ok (C := N10) okF29 noCall_ok Tryd.func37 (by kernel_rfl) (by kernel_rfl) (fun hp => (Classical.epsilon_spec (desc_ex _ (hp _ (by simp)))).2 _ rfl)
theorem ok58e : ∀ args pres res, sChk args = some (pres, res) → SpecOK Tryd.prog G16 38 args pres res := by
  intro args pres res h
  unfold sChk at h
  split at h
  case h_2 => cases h
  cases h
  rename_i X n
  refine spec_ok (C := N11) okF29 noCall_ok Tryd.func38 (by kernel_rfl) (by kernel_rfl) (fun hp => ?_)
  have hX : okT X := hp _ (by simp)
  have hl : (X.length : Int) ≤ 1000000 := hp _ (by simp)
  rw [xT_tys hX]
  exact (Classical.epsilon_spec (chk_ex (tys X) n (by rw [tys_len hX]; exact hl))).2 _ rfl
theorem ok92e : ∀ args pres res, sBad args = some (pres, res) → SpecOK Tryd.prog G16 55 args pres res := by
  intro args pres res h
  unfold sBad at h
  split at h
  case h_2 => cases h
  cases h
  exact spec_ok (C := N10) okF29 noCall_ok Tryd.func55 (by kernel_rfl) (by kernel_rfl) (fun hp => (Classical.epsilon_spec (bad_ex _ (hp _ (by simp)))).2 _ rfl)
theorem ok60e : ∀ args pres res, sLvl args = some (pres, res) → SpecOK Tryd.prog G16 14 args pres res := by
  intro args pres res h
  unfold sLvl at h
  split at h
  case h_2 => cases h
  cases h
  rename_i xs n
  refine spec_ok (C := N11) okF29 noCall_ok Tryd.func14 (by kernel_rfl) (by kernel_rfl) (fun hp => ?_)
  obtain ⟨L, rfl, e, hL⟩ := okL_elim (hp (okL xs) (by simp))
  have h1 := hp (((L.map cellsL).length : Int) ≤ 1000000) (by simp)
  rw [List.length_map] at h1
  rw [e]
  exact (Classical.epsilon_spec (lv_ex L n h1)).2 _ rfl
theorem ok61e : ∀ args pres res, sCon args = some (pres, res) → SpecOK Tryd.prog G16 40 args pres res := by
  intro args pres res h
  unfold sCon at h
  split at h
  case h_2 => cases h
  cases h
  exact spec_ok (C := N11) okF29 noCall_ok Tryd.func40 (by kernel_rfl) (by kernel_rfl) (fun hp => (Classical.epsilon_spec (con_ex _ _ (hp _ (by simp)))).2 _ rfl)
theorem okF30 : EOK Tryd.prog F30 G16 := addE_ok (addE_ok (addE_ok (addE_ok (addE_ok okF29 ok57e) ok58e) ok92e) ok60e) ok61e
theorem lvV_eq {L : List Lp} (n : Int) (h : (L.length : Int) ≤ 1000000) : lvV L n = lvC L n := (Classical.epsilon_spec (lv_ex L n h)).1
end PF
namespace Q6
open Go Go.AE Go.Proofs
noncomputable def B0 := PF.F30
def G6 : Nat → Option (List AV) := P8.G8
def i6 (n : Int) : AV := .imm (.int .i64 n)
def bo6 (b : Bool) : AV := .imm (.bool b)
def sl2 (xs : List (List IV)) : AV := .imm (.sl 2 xs)
def aL (xs : List (List IV)) (i : Int) : Int := ivInt (ivNth (List.getD xs (Int.toNat i) []) 0)
def cL (xs : List (List IV)) (i : Int) : Int := ivInt (ivNth (List.getD xs (Int.toNat i) []) (0 + 1))
structure okX (xs : List (List IV)) : Prop where
  len : (xs.length : Int) ≤ 1000000
  kc : ∀ k : Int, 0 ≤ k → k < (xs.length : Int) → kcells (List.getD xs (Int.toNat k) []) 0 (lapp [CK.int .i64] (lapp [CK.int .i32] [])) = List.getD xs (Int.toNat k) []
def stL (xs : List (List IV)) (i : Int) : Int := IntKind.wrap .i64 (IntKind.wrap .i64 (cL xs i) - IntKind.wrap .i64 (cL xs (i - 1)))
def ru1 (xs : List (List IV)) (i : Int) : Bool := bif i == 0 then decide (aL xs 0 ≥ 0) else decide (aL xs i ≥ aL xs (i - 1)) && decide (IntKind.wrap .i64 (aL xs i - aL xs (i - 1)) ≥ 2419199)
def ru2 (xs : List (List IV)) (i n : Int) : Bool := decide (i > 0) || decide (n ≥ 4) || cL xs 0 == 1 || cL xs 0 == -1
def ru3 (xs : List (List IV)) (i n : Int) : Bool := i == 0 || (stL xs i == 1 || stL xs i == -1 || (stL xs i == 0 && decide (n ≥ 4) && i == (xs.length : Int) - 1))
def lvA (xs : List (List IV)) (n : Int) : Bool := (List.range xs.length).all fun i => ru1 xs i && ru2 xs i n && ru3 xs i n
def sStep : List AV → Option (List Prop × List AV)
  | [.imm (.sl 2 xs), .imm (.int .i64 i)] => some ([1 ≤ i, i < (xs.length : Int), okX xs], [i6 (stL xs i)])
  | _ => none
def sR1 : List AV → Option (List Prop × List AV)
  | [.imm (.sl 2 xs), .imm (.int .i64 i), .imm (.int .i64 n)] => some ([0 ≤ i, i < (xs.length : Int), okX xs], [bo6 (ru1 xs i)])
  | _ => none
def sR2 : List AV → Option (List Prop × List AV)
  | [.imm (.sl 2 xs), .imm (.int .i64 i), .imm (.int .i64 n)] => some ([0 ≤ i, i < (xs.length : Int), okX xs], [bo6 (ru2 xs i n)])
  | _ => none
def sR3 : List AV → Option (List Prop × List AV)
  | [.imm (.sl 2 xs), .imm (.int .i64 i), .imm (.int .i64 n)] => some ([0 ≤ i, i < (xs.length : Int), okX xs], [bo6 (ru3 xs i n)])
  | _ => none
def sLv : List AV → Option (List Prop × List AV)
  | [.imm (.sl 2 xs), .imm (.int .i64 n)] => some ([okX xs], [bo6 (lvA xs n)])
  | _ => none
def sNeed : List AV → Option (List Prop × List AV)
  | [.imm (.sl 2 xs)] => some ([okX xs], [bo6 (lvA xs 4 && !lvA xs 3)])
  | _ => none
noncomputable def H1 := addE B0 140 sStep
noncomputable def H2 := addE (addE (addE H1 137 sR1) 138 sR2) 139 sR3
noncomputable def H3 := addE H2 29 sLv
noncomputable def H4 := addE H3 17 sNeed
noncomputable def M5 : Cx := ⟨Tryd.prog, B0, noCall, G6, 4005⟩
noncomputable def M7 : Cx := ⟨Tryd.prog, B0, noCall, G6, 4007⟩
noncomputable def M8 : Cx := ⟨Tryd.prog, H1, noCall, G6, 4008⟩
noncomputable def M29 : Cx := ⟨Tryd.prog, H2, noCall, G6, 4028⟩
noncomputable def M17 : Cx := ⟨Tryd.prog, H3, noCall, G6, 4003⟩
def ruR : AV := .imm (.sl 2 [[.str [116, 105, 109, 101], .val (.func (.func 137) #[] #[])], [.str [102, 105, 114, 115, 116, 32, 99, 111, 114, 114, 101, 99, 116, 105, 111, 110], .val (.func (.func 138) #[] #[])], [.str [115, 116, 101, 112], .val (.func (.func 139) #[] #[])]])
def k29 (xs : List (List IV)) (n i : Int) : St := ⟨spr [(0, sl2 xs), (1, i6 n), (9, i6 (xs.length : Int)), (10, i6 i)] 0 28, [], 0, []⟩
def q29 : Plan := ⟨[], msk [0, 1, 9, 10] 0 28, []⟩
def k29b (xs : List (List IV)) (n i j : Int) : St := ⟨spr [(0, sl2 xs), (1, i6 n), (5, i6 i), (9, i6 (xs.length : Int)), (10, i6 i), (13, ruR), (14, i6 3), (15, i6 j)] 0 28, [], 0, []⟩
def q29b : Plan := ⟨[], msk [0, 1, 5, 9, 10, 13, 14, 15] 0 28, []⟩
end Q6
set_option maxRecDepth 100000
namespace Q6
open Go Go.AE Go.Proofs PE PF
attribute [local irreducible] loopK evCode evSpec loopB norm
def ruT : List (List IV) := [[IV.str [116, 105, 109, 101], IV.val (Value.func (Fn.func (137 : FuncId)) #[] #[])], [IV.str [102, 105, 114, 115, 116, 32, 99, 111, 114, 114, 101, 99, 116, 105, 111, 110], IV.val (Value.func (Fn.func (138 : FuncId)) #[] #[])], [IV.str [115, 116, 101, 112], IV.val (Value.func (Fn.func (139 : FuncId)) #[] #[])]]
theorem g140_in (xs : List (List IV)) (i : Int) (K : List AV → Prop) : evSpec M5 Tryd.f140 [sl2 xs, i6 i] K = (let E1 : Prop := ((sm (St.mk [.imm (.sl 2 xs), i64 i, .dead, .dead, i64 (IntKind.wrap .i64 (IntKind.wrap .i64 (ivInt (ivNth (List.getD xs i.toNat []) (0 + 1))) - IntKind.wrap .i64 (ivInt (ivNth (List.getD xs (IntKind.wrap .i64 (i - 1)).toNat []) (0 + 1))))), .imm (.sl 2 xs), i64 i, AV.elv [IV.int .i64 (ivInt (ivNth (List.getD xs i.toNat []) 0)), IV.int IntKind.i32 (ivInt (ivNth (List.getD xs i.toNat []) (0 + 1)))], AV.elv [IV.int IntKind.i32 (ivInt (ivNth (List.getD xs i.toNat []) (0 + 1)))], .imm (.int IntKind.i32 (ivInt (ivNth (List.getD xs i.toNat []) (0 + 1)))), i64 (IntKind.wrap .i64 (ivInt (ivNth (List.getD xs i.toNat []) (0 + 1)))), .imm (.sl 2 xs), i64 i, i64 (IntKind.wrap .i64 (i - 1)), AV.elv [IV.int .i64 (ivInt (ivNth (List.getD xs (IntKind.wrap .i64 (i - 1)).toNat []) 0)), IV.int IntKind.i32 (ivInt (ivNth (List.getD xs (IntKind.wrap .i64 (i - 1)).toNat []) (0 + 1)))], AV.elv [IV.int IntKind.i32 (ivInt (ivNth (List.getD xs (IntKind.wrap .i64 (i - 1)).toNat []) (0 + 1)))], .imm (.int IntKind.i32 (ivInt (ivNth (List.getD xs (IntKind.wrap .i64 (i - 1)).toNat []) (0
 + 1)))), i64 (IntKind.wrap .i64 (ivInt (ivNth (List.getD xs (IntKind.wrap .i64 (i - 1)).toNat []) (0 + 1)))), i64 (IntKind.wrap .i64 (IntKind.wrap .i64 (ivInt (ivNth (List.getD xs i.toNat []) (0 + 1))) - IntKind.wrap .i64 (ivInt (ivNth (List.getD xs (IntKind.wrap .i64 (i - 1)).toNat []) (0 + 1)))))] [] 0 []))); ((0 : Int) ≤ i ∧ i < (xs.length : Int) ∧ kcells (List.getD xs i.toNat []) 0 (lapp [CK.int IntKind.i64] (lapp [CK.int IntKind.i32] [])) = List.getD xs i.toNat [] ∧ (0 : Int) ≤ IntKind.wrap .i64 (i - 1) ∧ IntKind.wrap .i64 (i - 1) < (xs.length : Int) ∧ kcells (List.getD xs (IntKind.wrap .i64 (i - 1)).toNat []) 0 (lapp [CK.int IntKind.i64] (lapp [CK.int IntKind.i32] [])) = List.getD xs (IntKind.wrap .i64 (i - 1)).toNat [] ∧ E1 ∧ E1) ∧ K [i64 (IntKind.wrap .i64 (IntKind.wrap .i64 (ivInt (ivNth (List.getD xs i.toNat []) (0 + 1))) - IntKind.wrap .i64 (ivInt (ivNth (List.getD xs (IntKind.wrap .i64 (i - 1)).toNat []) (0 + 1)))))]) := by kernel_rfl
theorem g137_in (xs : List (List IV)) (i : Int) (n : Int) (K : List AV → Prop) : evSpec M7 Tryd.f137 [sl2 xs, i6 i, i6 n] K = (brn (i == 0) ((0 : Int) ≤ 0 ∧ (0 : Int) < (xs.length : Int) ∧ kcells (List.getD xs (0 : Int).toNat []) 0 (lapp [CK.int IntKind.i64] (lapp [CK.int IntKind.i32] [])) = List.getD xs (0 : Int).toNat [] ∧ K [bo (decide (ivInt (ivNth (List.getD xs (0 : Int).toNat []) 0) ≥ 0))]) ((0 : Int) ≤ i ∧ i < (xs.length : Int) ∧ kcells (List.getD xs i.toNat []) 0 (lapp [CK.int IntKind.i64] (lapp [CK.int IntKind.i32] [])) = List.getD xs i.toNat [] ∧ (0 : Int) ≤ IntKind.wrap .i64 (i - 1) ∧ IntKind.wrap .i64 (i - 1) < (xs.length : Int) ∧ kcells (List.getD xs (IntKind.wrap .i64 (i - 1)).toNat []) 0 (lapp [CK.int IntKind.i64] (lapp [CK.int IntKind.i32] [])) = List.getD xs (IntKind.wrap .i64 (i - 1)).toNat [] ∧ brn (decide (ivInt (ivNth (List.getD xs i.toNat []) 0) ≥ ivInt (ivNth (List.getD xs (IntKind.wrap .i64 (i - 1)).toNat []) 0))) ((0 : Int) ≤ i ∧ i < (xs.length : Int) ∧ kcells (List.getD xs i.toNat []) 0 (lapp [CK.int IntKind.i64] (lapp [CK.int IntKind.i32] [])) = List.getD xs i.toNat [] ∧ (0 : Int) ≤ IntKind.wrap .i64 (i - 1) ∧ IntKind.wrap .i64 (i - 1) < (xs.length : Int)
 ∧ kcells (List.getD xs (IntKind.wrap .i64 (i - 1)).toNat []) 0 (lapp [CK.int IntKind.i64] (lapp [CK.int IntKind.i32] [])) = List.getD xs (IntKind.wrap .i64 (i - 1)).toNat [] ∧ K [bo (decide (IntKind.wrap .i64 (ivInt (ivNth (List.getD xs i.toNat []) 0) - ivInt (ivNth (List.getD xs (IntKind.wrap .i64 (i - 1)).toNat []) 0)) ≥ 2419199))]) (K [bo false]))) := by kernel_rfl
theorem g138_in (xs : List (List IV)) (i : Int) (n : Int) (K : List AV → Prop) : evSpec M7 Tryd.f138 [sl2 xs, i6 i, i6 n] K = (((decide (i > 0) || decide (n ≥ 4)) = false → (0 : Int) ≤ 0) ∧ ((decide (i > 0) || decide (n ≥ 4)) = false → (0 : Int) < (xs.length : Int)) ∧ ((decide (i > 0) || decide (n ≥ 4)) = false → kcells (List.getD xs (0 : Int).toNat []) 0 (lapp [CK.int IntKind.i64] (lapp [CK.int IntKind.i32] [])) = List.getD xs (0 : Int).toNat []) ∧ ((decide (i > 0) || decide (n ≥ 4) || ivInt (ivNth (List.getD xs (0 : Int).toNat []) (0 + 1)) == 1) = false → (0 : Int) ≤ 0) ∧ ((decide (i > 0) || decide (n ≥ 4) || ivInt (ivNth (List.getD xs (0 : Int).toNat []) (0 + 1)) == 1) = false → (0 : Int) < (xs.length : Int)) ∧ ((decide (i > 0) || decide (n ≥ 4) || ivInt (ivNth (List.getD xs (0 : Int).toNat []) (0 + 1)) == 1) = false → kcells (List.getD xs (0 : Int).toNat []) 0 (lapp [CK.int IntKind.i64] (lapp [CK.int IntKind.i32] [])) = List.getD xs (0 : Int).toNat []) ∧ K [bo (decide (i > 0) || decide (n ≥ 4) || ivInt (ivNth (List.getD xs (0 : Int).toNat []) (0 + 1)) == 1 || ivInt (ivNth (List.getD xs (0 : Int).toNat []) (0 + 1)) == (-1 : Int))]) := by kernel_rfl
theorem g139_in (xs : List
  (List IV)) (i : Int) (n : Int) (K : List AV → Prop) : evSpec M8 Tryd.f139 [sl2 xs, i6 i, i6 n] K = (brn (i == (0 : Int)) (K [AV.imm (IV.bool true)]) ((1 : Int) ≤ i ∧ i < (↑(List.length xs) : Int) ∧ okX xs ∧ K [AV.imm (IV.bool (stL xs i == (1 : Int) || stL xs i == (-1 : Int) || stL xs i == (0 : Int) && decide (n ≥ (4 : Int)) && i == IntKind.wrap IntKind.i64 ((↑(List.length xs) : Int) - (1 : Int))))])) := by kernel_rfl
theorem g29_in (xs : List (List IV)) (n : Int) (K : List AV → Prop) : evSpec M29 Tryd.f29 [sl2 xs, i6 n] K = (LoopI M29 (bodyOf Tryd.f29) (0 : Nat) (St.mk (lapp [AV.imm (IV.sl (2 : Nat) xs), AV.imm (IV.int IntKind.i64 n), AV.dead, AV.dead, AV.imm (IV.bool false), AV.dead, AV.dead, AV.dead, AV.imm (IV.sl (2 : Nat) xs), AV.imm (IV.int IntKind.i64 (↑(List.length xs) : Int)), AV.imm (IV.int IntKind.i64 (0 : Int))] (dN 17)) [] (0 : Nat) []) (finK M29 Tryd.f29 K)) := by kernel_rfl
theorem g29_lp (xs : List
  (List IV)) (n : Int) (i : Int) (k : AX → St → Prop) : evCode M29 (loopB (bodyOf Tryd.f29) (0 : Nat)) (k29 xs n i) k = (brn (decide (i < (↑(List.length xs) : Int))) (LoopI M29 (loopB (bodyOf Tryd.f29) (0 : Nat)) (0 : Nat) (St.mk (lapp [AV.imm (IV.sl (2 : Nat) xs), AV.imm (IV.int IntKind.i64 n), AV.dead, AV.dead, AV.dead, AV.imm (IV.int IntKind.i64 i), AV.dead, AV.dead, AV.dead, AV.imm (IV.int IntKind.i64 (↑(List.length xs) : Int)), AV.imm (IV.int IntKind.i64 i), AV.imm (IV.bool (decide (i < (↑(List.length xs) : Int)))), AV.imm (IV.int IntKind.i64 i), AV.imm (IV.sl (2 : Nat) ruT), AV.imm (IV.int IntKind.i64 (3 : Int)), AV.imm (IV.int IntKind.i64 (0 : Int))] (dN 12)) [] (0 : Nat) []) k) (k (AX.exit (0 : Nat)) (St.mk (lapp [AV.imm (IV.sl (2 : Nat) xs), AV.imm (IV.int IntKind.i64 n)] (lapp (dN 7) (lapp [AV.imm (IV.int IntKind.i64 (↑(List.length xs) : Int)), AV.imm (IV.int IntKind.i64 i), AV.imm (IV.bool (decide (i < (↑(List.length xs) : Int))))] (dN 16)))) [] (0 : Nat) []))) := by kernel_rfl
theorem g29_l0 (xs : List (List IV)) (n : Int) (i : Int) (k : AX → St → Prop) : evCode M29 (loopB (loopB (bodyOf Tryd.f29) 0) 0) (k29b xs n i (0 : Int)) k = ((0 : Int) ≤ 0 ∧ (0 : Int) < (ruT.length : Int) ∧ kcells (List.getD ruT (0 : Int).toNat []) 0 (lapp [CK.str] (lapp [CK.any] [])) = List.getD ruT (0 : Int).toNat [] ∧ (0 : Int) ≤ i ∧ i < (xs.length : Int) ∧ okX xs ∧ brn (!ru1 xs i) (k AX.ret (St.mk [.imm (.sl 2 xs), i64 n, .dead, .dead, bo false, i64 i, .dead, .ptr 0 0, .dead, i64 (xs.length : Int), i64 i, .dead, .dead, .imm (.sl 2 ruT), i64 3, i64 0, bo true, AV.elv [IV.str (ivStr (ivNth (List.getD ruT (0 : Int).toNat []) 0)), IV.val (Value.func (Fn.func (137 : FuncId)) #[] #[])], .agg [.imm (.str (ivStr (ivNth (List.getD ruT (0 : Int).toNat []) 0))), .imm (.val (Value.func (Fn.func (137 : FuncId)) #[] #[]))], .ptr 0 1, .imm (.val (Value.func (Fn.func (137 : FuncId)) #[] #[])), .imm (.sl 2 xs), i64 i, i64 n, bo (ru1 xs i), bo (!ru1 xs i), .dead, .dead] [(0, Ob.mk true 0 (AObj.cells [.imm (.str (ivStr (ivNth (List.getD ruT (0 : Int).toNat []) 0))), .imm (.val (Value.func (Fn.func (137 : FuncId)) #[] #[]))]))] 1 [])) (k AX.normal (St.mk [.imm (.sl 2 xs), i64 n, .dead, .dead,
 .dead, i64 i, .dead, .ptr 0 0, .dead, i64 (xs.length : Int), i64 i, .dead, .dead, .imm (.sl 2 ruT), i64 3, i64 1, bo true, AV.elv [IV.str (ivStr (ivNth (List.getD ruT (0 : Int).toNat []) 0)), IV.val (Value.func (Fn.func (137 : FuncId)) #[] #[])], .agg [.imm (.str (ivStr (ivNth (List.getD ruT (0 : Int).toNat []) 0))), .imm (.val (Value.func (Fn.func (137 : FuncId)) #[] #[]))], .ptr 0 1, .imm (.val (Value.func (Fn.func (137 : FuncId)) #[] #[])), .imm (.sl 2 xs), i64 i, i64 n, bo (ru1 xs i), bo (!ru1 xs i), i64 1, .dead] [(0, Ob.mk true 0 (AObj.cells [.imm (.str (ivStr (ivNth (List.getD ruT (0 : Int).toNat []) 0))), .imm (.val (Value.func (Fn.func (137 : FuncId)) #[] #[]))]))] 1 []))) := by kernel_rfl
theorem g29_l1 (xs : List (List IV)) (n : Int) (i : Int) (k : AX → St → Prop) : evCode M29 (loopB (loopB (bodyOf Tryd.f29) 0) 0) (k29b xs n i (1 : Int)) k = ((0 : Int) ≤ 1 ∧ (1 : Int) < (ruT.length : Int) ∧ kcells (List.getD ruT (1 : Int).toNat []) 0 (lapp [CK.str] (lapp [CK.any] [])) = List.getD ruT (1 : Int).toNat [] ∧ (0 : Int) ≤ i ∧ i < (xs.length : Int) ∧ okX xs ∧ brn (!ru2 xs i n) (k AX.ret (St.mk [.imm (.sl 2 xs), i64 n, .dead, .dead, bo false, i64 i, .dead, .ptr 0 0, .dead, i64 (xs.length : Int), i64 i, .dead, .dead, .imm (.sl 2 ruT), i64 3, i64 1, bo true, AV.elv [IV.str (ivStr (ivNth (List.getD ruT (1 : Int).toNat []) 0)), IV.val (Value.func (Fn.func (138 : FuncId)) #[] #[])], .agg [.imm (.str (ivStr (ivNth (List.getD ruT (1 : Int).toNat []) 0))), .imm (.val (Value.func (Fn.func (138 : FuncId)) #[] #[]))], .ptr 0 1, .imm (.val (Value.func (Fn.func (138 : FuncId)) #[] #[])), .imm (.sl 2 xs), i64 i, i64 n, bo (ru2 xs i n), bo (!ru2 xs i n), .dead, .dead] [(0, Ob.mk true 0 (AObj.cells [.imm (.str (ivStr (ivNth (List.getD ruT (1 : Int).toNat []) 0))), .imm (.val (Value.func (Fn.func (138 : FuncId)) #[] #[]))]))] 1 [])) (k AX.normal (St.mk [.imm (.sl 2 xs), i64 n, .dead, .dead,
 .dead, i64 i, .dead, .ptr 0 0, .dead, i64 (xs.length : Int), i64 i, .dead, .dead, .imm (.sl 2 ruT), i64 3, i64 2, bo true, AV.elv [IV.str (ivStr (ivNth (List.getD ruT (1 : Int).toNat []) 0)), IV.val (Value.func (Fn.func (138 : FuncId)) #[] #[])], .agg [.imm (.str (ivStr (ivNth (List.getD ruT (1 : Int).toNat []) 0))), .imm (.val (Value.func (Fn.func (138 : FuncId)) #[] #[]))], .ptr 0 1, .imm (.val (Value.func (Fn.func (138 : FuncId)) #[] #[])), .imm (.sl 2 xs), i64 i, i64 n, bo (ru2 xs i n), bo (!ru2 xs i n), i64 2, .dead] [(0, Ob.mk true 0 (AObj.cells [.imm (.str (ivStr (ivNth (List.getD ruT (1 : Int).toNat []) 0))), .imm (.val (Value.func (Fn.func (138 : FuncId)) #[] #[]))]))] 1 []))) := by kernel_rfl
theorem g29_l2 (xs : List (List IV)) (n : Int) (i : Int) (k : AX → St → Prop) : evCode M29 (loopB (loopB (bodyOf Tryd.f29) 0) 0) (k29b xs n i (2 : Int)) k = ((0 : Int) ≤ 2 ∧ (2 : Int) < (ruT.length : Int) ∧ kcells (List.getD ruT (2 : Int).toNat []) 0 (lapp [CK.str] (lapp [CK.any] [])) = List.getD ruT (2 : Int).toNat [] ∧ (0 : Int) ≤ i ∧ i < (xs.length : Int) ∧ okX xs ∧ brn (!ru3 xs i n) (k AX.ret (St.mk [.imm (.sl 2 xs), i64 n, .dead, .dead, bo false, i64 i, .dead, .ptr 0 0, .dead, i64 (xs.length : Int), i64 i, .dead, .dead, .imm (.sl 2 ruT), i64 3, i64 2, bo true, AV.elv [IV.str (ivStr (ivNth (List.getD ruT (2 : Int).toNat []) 0)), IV.val (Value.func (Fn.func (139 : FuncId)) #[] #[])], .agg [.imm (.str (ivStr (ivNth (List.getD ruT (2 : Int).toNat []) 0))), .imm (.val (Value.func (Fn.func (139 : FuncId)) #[] #[]))], .ptr 0 1, .imm (.val (Value.func (Fn.func (139 : FuncId)) #[] #[])), .imm (.sl 2 xs), i64 i, i64 n, bo (ru3 xs i n), bo (!ru3 xs i n), .dead, .dead] [(0, Ob.mk true 0 (AObj.cells [.imm (.str (ivStr (ivNth (List.getD ruT (2 : Int).toNat []) 0))), .imm (.val (Value.func (Fn.func (139 : FuncId)) #[] #[]))]))] 1 [])) (k AX.normal (St.mk [.imm (.sl 2 xs), i64 n, .dead, .dead,
 .dead, i64 i, .dead, .ptr 0 0, .dead, i64 (xs.length : Int), i64 i, .dead, .dead, .imm (.sl 2 ruT), i64 3, i64 3, bo true, AV.elv [IV.str (ivStr (ivNth (List.getD ruT (2 : Int).toNat []) 0)), IV.val (Value.func (Fn.func (139 : FuncId)) #[] #[])], .agg [.imm (.str (ivStr (ivNth (List.getD ruT (2 : Int).toNat []) 0))), .imm (.val (Value.func (Fn.func (139 : FuncId)) #[] #[]))], .ptr 0 1, .imm (.val (Value.func (Fn.func (139 : FuncId)) #[] #[])), .imm (.sl 2 xs), i64 i, i64 n, bo (ru3 xs i n), bo (!ru3 xs i n), i64 3, .dead] [(0, Ob.mk true 0 (AObj.cells [.imm (.str (ivStr (ivNth (List.getD ruT (2 : Int).toNat []) 0))), .imm (.val (Value.func (Fn.func (139 : FuncId)) #[] #[]))]))] 1 []))) := by kernel_rfl
theorem g29_l3 (xs : List (List IV)) (n : Int) (i : Int) (k : AX → St → Prop) : evCode M29 (loopB (loopB (bodyOf Tryd.f29) 0) 0) (k29b xs n i (3 : Int)) k = (k (AX.exit 2) (St.mk (lapp [.imm (.sl 2 xs), i64 n, .dead, .dead, .dead, i64 i, .dead, .dead, .dead, i64 (xs.length : Int), i64 i, .dead, .dead, .imm (.sl 2 ruT), i64 3, i64 3, bo false] (dN 11)) [] 0 [])) := by kernel_rfl
theorem g17_in (xs : List (List IV)) (K : List AV → Prop) : evSpec M17 Tryd.f17 [sl2 xs] K = (okX xs ∧ (lvA xs (4 : Int) = true → okX xs) ∧ K [bo (lvA xs (4 : Int) && !lvA xs (3 : Int))]) := by kernel_rfl
theorem g29_out (xs : List (List IV)) (n : Int) (i : Int) (k : AX → St → Prop) : loopK M29 (loopB (bodyOf Tryd.f29) 0) 0 k (AX.exit 2) (St.mk (lapp [.imm (.sl 2 xs), i64 n, .dead, .dead, .dead, i64 i, .dead, .dead, .dead, i64 (xs.length : Int), i64 i, .dead, .dead, .imm (.sl 2 ruT), i64 3, i64 3, bo false] (dN 11)) [] 0 []) = (k AX.normal (St.mk (lapp [.imm (.sl 2 xs), i64 n, .dead, .dead, .dead, i64 i, .dead, .dead, .dead, i64 (xs.length : Int), i64 (IntKind.wrap .i64 (i + 1)), .dead, .dead, .imm (.sl 2 ruT), i64 3, i64 3, bo false] (lapp (dN 10) [i64 (IntKind.wrap .i64 (i + 1))])) [] 0 [])) := by kernel_rfl
theorem loop_step {C : Cx} {c : Code} {k : AX → St → Prop} {st S st1 : St} {p : Plan} (hu : C.rounds = 0) (hn : norm p st = some S) (hb : ∀ K' : AX → St → Prop, K' .normal st1 → evCode C c S K') (h : evCode C (.loop c) st1 k) : evCode C (.loop c) st k := by
  unfold evCode at h ⊢
  simp only [hu] at h ⊢
  obtain ⟨m, hm⟩ := h
  exact ⟨m + 1, p, S, hn, hb _ hm⟩
theorem loop_stop {C : Cx} {c : Code} {k : AX → St → Prop} {st S st1 : St} {p : Plan} {x : AX} (hx : x ≠ .normal) (hu : C.rounds = 0) (hn : norm p st = some S) (hb : ∀ K' : AX → St → Prop, K' x st1 → evCode C c S K') (h : k x st1) : evCode C (.loop c) st k := by
  unfold evCode
  simp only [hu]
  refine ⟨1, p, S, hn, hb _ ?_⟩
  cases x with
  | normal => exact absurd rfl hx
  | _ => exact h
theorem okB0 : EOK Tryd.prog B0 G6 := okF30
theorem ok140 : ∀ args pres res, sStep args = some (pres, res) → SpecOK Tryd.prog G6 140 args pres res := by
  intro args pres res h
  unfold sStep at h
  split at h
  case h_2 => cases h
  cases h
  rename_i xs i
  refine spec_ok (C := M5) okB0 noCall_ok Tryd.func140 (by kernel_rfl) (by kernel_rfl) (fun hp => ?_)
  have h1 : 1 ≤ i := hp _ (by simp)
  have h2 : i < (xs.length : Int) := hp _ (by simp)
  have h3 : okX xs := hp (okX xs) (by simp)
  have hl := h3.len
  have e0 : IntKind.wrap .i64 (i - 1) = i - 1 := wrap64 (by omega) (by omega)
  refine Eq.mpr (g140_in xs i _) ?_
  intro E1
  have hE : E1 := rfl
  clear_value E1
  rw [e0]
  exact ⟨⟨by omega, h2, h3.kc i (by omega) h2, by omega, by omega, h3.kc (i - 1) (by omega) (by omega), hE, hE⟩, rfl⟩
theorem okH1 : EOK Tryd.prog H1 G6 := addE_ok okB0 ok140
theorem ok137 : ∀ args pres res, sR1 args = some (pres, res) → SpecOK Tryd.prog G6 137 args pres res := by
  intro args pres res h
  unfold sR1 at h
  split at h
  case h_2 => cases h
  cases h
  rename_i xs i n
  refine spec_ok (C := M7) okB0 noCall_ok Tryd.func137 (by kernel_rfl) (by kernel_rfl) (fun hp => ?_)
  have h1 : 0 ≤ i := hp _ (by simp)
  have h2 : i < (xs.length : Int) := hp _ (by simp)
  have h3 : okX xs := hp (okX xs) (by simp)
  have hl := h3.len
  have e0 : IntKind.wrap .i64 (i - 1) = i - 1 := wrap64 (by omega) (by omega)
  refine Eq.mpr (g137_in xs i n _) ?_
  rw [e0]
  refine brn_intro (fun hz => ?_) (fun hz => ?_)
  · have : ru1 xs i = decide (aL xs 0 ≥ 0) := by unfold ru1; rw [hz]; first | done | rfl
    rw [this]
    exact ⟨by decide, by omega, h3.kc 0 (by decide) (by omega), rfl⟩
  · have hz' : i ≠ 0 := fun e => by rw [e] at hz; exact absurd hz (by decide)
    have : ru1 xs i = (decide (aL xs i ≥ aL xs (i - 1)) && decide (IntKind.wrap .i64 (aL xs i - aL xs (i - 1)) ≥ 2419199)) := by unfold ru1; rw [hz]; first | done | rfl
    rw [this]
    have ka := h3.kc i h1 h2
    have kb := h3.kc (i - 1) (by omega) (by omega)
    refine ⟨h1, h2, ka, by omega, by omega, kb, brn_intro (fun hy => ⟨h1, h2, ka, by omega, by omega, kb, ?_⟩) (fun hy => ?_)⟩
    · have hy' : decide (aL xs i ≥ aL xs (i - 1)) = true := hy
      rw [hy']; first | done | rfl
    · have hy' : decide (aL xs i ≥ aL xs (i - 1)) = false := hy
      rw [hy']; first | done | rfl
theorem ok138 : ∀ args pres res, sR2 args = some (pres, res) → SpecOK Tryd.prog G6 138 args pres res := by
  intro args pres res h
  unfold sR2 at h
  split at h
  case h_2 => cases h
  cases h
  rename_i xs i n
  refine spec_ok (C := M7) okB0 noCall_ok Tryd.func138 (by kernel_rfl) (by kernel_rfl) (fun hp => ?_)
  have h1 : 0 ≤ i := hp _ (by simp)
  have h2 : i < (xs.length : Int) := hp _ (by simp)
  have h3 : okX xs := hp (okX xs) (by simp)
  refine Eq.mpr (g138_in xs i n _) ?_
  have k0 := h3.kc 0 (by decide) (by omega)
  exact ⟨fun _ => by decide, fun _ => by omega, fun _ => k0, fun _ => by decide, fun _ => by omega, fun _ => k0, rfl⟩
theorem ok139 : ∀ args pres res, sR3 args = some (pres, res) → SpecOK Tryd.prog G6 139 args pres res := by
  intro args pres res h
  unfold sR3 at h
  split at h
  case h_2 => cases h
  cases h
  rename_i xs i n
  refine spec_ok (C := M8) okH1 noCall_ok Tryd.func139 (by kernel_rfl) (by kernel_rfl) (fun hp => ?_)
  have h1 : 0 ≤ i := hp _ (by simp)
  have h2 : i < (xs.length : Int) := hp _ (by simp)
  have h3 : okX xs := hp (okX xs) (by simp)
  have hl := h3.len
  have e0 : IntKind.wrap .i64 ((xs.length : Int) - 1) = (xs.length : Int) - 1 := wrap64 (by omega) (by omega)
  refine Eq.mpr (g139_in xs i n _) ?_
  rw [e0]
  refine brn_intro (fun hz => ?_) (fun hz => ?_)
  · have : ru3 xs i n = true := by unfold ru3; rw [hz]; first | done | rfl
    rw [this]; first | done | rfl
  · have hz' : i ≠ 0 := fun e => by rw [e] at hz; exact absurd hz (by decide)
    have : ru3 xs i n = (stL xs i == 1 || stL xs i == -1 || (stL xs i == 0 && decide (n ≥ 4) && i == (xs.length : Int) - 1)) := by unfold ru3; rw [hz]; first | done | rfl
    rw [this]
    exact ⟨by omega, h2, h3, rfl⟩
theorem okH2 : EOK Tryd.prog H2 G6 := addE_ok (addE_ok (addE_ok okH1 ok137) ok138) ok139
def ruA (xs : List (List IV)) (n : Int) (i : Nat) : Bool := ru1 xs i && ru2 xs i n && ru3 xs i n
theorem lvA_false {xs : List (List IV)} {n : Int} {i : Nat} (hi : i < xs.length) (h : ruA xs n i = false) : lvA xs n = false := by
  unfold lvA
  rw [List.all_eq_false]
  exact ⟨i, by simpa using hi, by unfold ruA at h; rw [h]; simp⟩
theorem lvA_true {xs : List (List IV)} {n : Int} (h : ∀ i : Nat, i < xs.length → ruA xs n i = true) : lvA xs n = true := by
  unfold lvA
  rw [List.all_eq_true]
  intro i hi
  exact h i (by simpa using hi)
theorem in_ret (K' : AX → St → Prop) (st : St) : loopK M29 (loopB (bodyOf Tryd.f29) 0) 0 K' .ret st = K' .ret st := by kernel_rfl
theorem lv_ex (xs : List (List IV)) (n : Int) (hX : okX xs) : ∀ K : List AV → Prop, K [bo6 (lvA xs n)] → evSpec M29 Tryd.f29 [sl2 xs, i6 n] K := by
  have hl := hX.len
  refine Exists.elim (loop_det (C := M29) (c := loopB (bodyOf Tryd.f29) 0) (fun i : Int => k29 xs n i) (fun i => 0 ≤ i ∧ i ≤ xs.length ∧ ∀ j : Nat, (j : Int) < i → ruA xs n j = true) (fun i => ((xs.length : Int) - i).toNat) (fun v : Bool => v = lvA xs n) (fun v => [bo6 v])
    (fun K => loopK M29 (bodyOf Tryd.f29) 0 (finK M29 Tryd.f29 K)) rfl (fun i hs => ?_) 0 ⟨Int.le_refl 0, by omega, fun j hj => by omega⟩) (fun v hv => ?_)
  · obtain ⟨i1, i2, i3⟩ := hs
    by_cases h : i < xs.length
    · obtain ⟨j, rfl⟩ : ∃ j : Nat, i = j := ⟨i.toNat, by omega⟩
      have hj : j < xs.length := by omega
      have done : ∀ (st1 : St) (K2 : AX → St → Prop), K2 .ret st1 → loopK M29 (loopB (bodyOf Tryd.f29) 0) 0 K2 .ret st1 := fun st1 K2 h => Eq.mpr (in_ret K2 st1) h
      cases q1 : ru1 xs j with
      | false =>
        refine .inr ⟨.ret, _, by simp, fun K' hK' => by
          rw [g29_lp]
          refine brn_T (decide_eq_true h) ?_
          unfold LoopI
          exact loop_stop (p := q29b) (x := .ret) (S := k29b xs n j 0) (by simp) rfl (by kernel_rfl) (fun K2 h2 => by
            rw [g29_l0]
            exact ⟨by decide, by decide, rfl, i1, h, hX, brn_T (by rw [q1]; rfl) h2⟩) (done _ _ hK'), false, (lvA_false hj (by unfold ruA; rw [q1]; rfl)).symm, fun K hK => ?_⟩
        exact Eq.mp (by kernel_rfl) hK
      | true =>
      cases q2 : ru2 xs j n with
      | false =>
        refine .inr ⟨.ret, _, by simp, fun K' hK' => by
          rw [g29_lp]
          refine brn_T (decide_eq_true h) ?_
          unfold LoopI
          exact loop_step (p := q29b) (S := k29b xs n j 0) rfl (by kernel_rfl) (fun K2 h2 => by
            rw [g29_l0]
            exact ⟨by decide, by decide, rfl, i1, h, hX, brn_Fa (by rw [q1]; rfl) h2⟩) (loop_stop (p := q29b) (x := .ret) (S := k29b xs n j 1) (by simp) rfl (by kernel_rfl) (fun K2 h2 => by
            rw [g29_l1]
            exact ⟨by decide, by decide, rfl, i1, h, hX, brn_T (by rw [q2]; rfl) h2⟩) (done _ _ hK')), false, (lvA_false hj (by unfold ruA; rw [q2]; simp)).symm, fun K hK => ?_⟩
        exact Eq.mp (by kernel_rfl) hK
      | true =>
      cases q3 : ru3 xs j n with
      | false =>
        refine .inr ⟨.ret, _, by simp, fun K' hK' => by
          rw [g29_lp]
          refine brn_T (decide_eq_true h) ?_
          unfold LoopI
          exact loop_step (p := q29b) (S := k29b xs n j 0) rfl (by kernel_rfl) (fun K2 h2 => by
            rw [g29_l0]
            exact ⟨by decide, by decide, rfl, i1, h, hX, brn_Fa (by rw [q1]; rfl) h2⟩) (loop_step (p := q29b) (S := k29b xs n j 1) rfl (by kernel_rfl) (fun K2 h2 => by
            rw [g29_l1]
            exact ⟨by decide, by decide, rfl, i1, h, hX, brn_Fa (by rw [q2]; rfl) h2⟩) (loop_stop (p := q29b) (x := .ret) (S := k29b xs n j 2) (by simp) rfl (by kernel_rfl) (fun K2 h2 => by
            rw [g29_l2]
            exact ⟨by decide, by decide, rfl, i1, h, hX, brn_T (by rw [q3]; rfl) h2⟩) (done _ _ hK'))), false, (lvA_false hj (by unfold ruA; rw [q3]; simp)).symm, fun K hK => ?_⟩
        exact Eq.mp (by kernel_rfl) hK
      | true =>
        refine .inl ⟨(j : Int) + 1, q29, _, ⟨by omega, by omega, fun m hm => ?_⟩, by omega, ?_, fun K' hK' => by
          rw [g29_lp]
          refine brn_T (decide_eq_true h) ?_
          unfold LoopI
          exact loop_step (p := q29b) (S := k29b xs n j 0) rfl (by kernel_rfl) (fun K2 h2 => by
            rw [g29_l0]
            exact ⟨by decide, by decide, rfl, i1, h, hX, brn_Fa (by rw [q1]; rfl) h2⟩) (loop_step (p := q29b) (S := k29b xs n j 1) rfl (by kernel_rfl) (fun K2 h2 => by
            rw [g29_l1]
            exact ⟨by decide, by decide, rfl, i1, h, hX, brn_Fa (by rw [q2]; rfl) h2⟩) (loop_step (p := q29b) (S := k29b xs n j 2) rfl (by kernel_rfl) (fun K2 h2 => by
            rw [g29_l2]
            exact ⟨by decide, by decide, rfl, i1, h, hX, brn_Fa (by rw [q3]; rfl) h2⟩) (loop_stop (p := q29b) (x := .exit 2) (S := k29b xs n j 3) (by simp) rfl (by kernel_rfl) (fun K2 h2 => by
            rw [g29_l3]
            exact h2) (Eq.mpr (g29_out xs n j K') hK'))))⟩
        · by_cases hmj : m = j
          · rw [hmj]; unfold ruA; rw [q1, q2, q3]; first | done | rfl
          · exact i3 m (by omega)
        · rw [w1 (by omega) (by omega)]
          kernel_rfl
    · refine .inr ⟨.exit 0, _, by simp, fun K' hK' => by
        rw [g29_lp]
        exact brn_Fa (decide_eq_false h) hK', true, (lvA_true (fun j hj => i3 j (by omega))).symm, fun K hK => ?_⟩
      exact Eq.mp (by kernel_rfl) hK
  · obtain ⟨rfl, hk⟩ := hv
    intro K hK
    rw [g29_in]
    unfold LoopI
    exact hk K hK q29 _ (by kernel_rfl)
theorem ok29 : ∀ args pres res, sLv args = some (pres, res) → SpecOK Tryd.prog G6 29 args pres res := by
  intro args pres res h
  unfold sLv at h
  split at h
  case h_2 => cases h
  cases h
  rename_i xs n
  exact spec_ok (C := M29) okH2 noCall_ok Tryd.func29 (by kernel_rfl) (by kernel_rfl) (fun hp => lv_ex xs n (hp (okX xs) (by simp)) _ rfl)
theorem okH3 : EOK Tryd.prog H3 G6 := addE_ok okH2 ok29
theorem ok17 : ∀ args pres res, sNeed args = some (pres, res) → SpecOK Tryd.prog G6 17 args pres res := by
  intro args pres res h
  unfold sNeed at h
  split at h
  case h_2 => cases h
  cases h
  rename_i xs
  refine spec_ok (C := M17) okH3 noCall_ok Tryd.func17 (by kernel_rfl) (by kernel_rfl) (fun hp => ?_)
  have hX : okX xs := hp (okX xs) (by simp)
  exact Eq.mpr (g17_in xs _) ⟨hX, fun _ => hX, rfl⟩
theorem okH4 : EOK Tryd.prog H4 G6 := addE_ok okH3 ok17
end Q6
namespace Q6
open Go Go.AE Go.Proofs
def sw {α : Type} (l : List α) (d : α) (k : Int) : List α := if k < (l.length : Int) then (l.set 0 (l.getD k.toNat d)).set k.toNat (l.getD 0 d) else l
def rowsT (X : List (List IV)) : Prop := ∀ k : Int, 0 ≤ k → k < (X.length : Int) → kcells (List.getD X (Int.toNat k) []) 0 (lapp [CK.int .i32] (lapp [CK.bool] (lapp [CK.int .u8] []))) = List.getD X (Int.toNat k) []
structure okT6 (X : List (List IV)) : Prop where
  len : (X.length : Int) ≤ 1000000
  kc : rowsT X
  sl : (IV.sl 3 X).isSl = true
def sCloI : List AV → Option (List Prop × List AV)
  | [.imm (.ints .i64 T)] => some ([(T.length : Int) ≤ 1000000], [.new (.ints .i64 T)])
  | _ => none
def sCloB : List AV → Option (List Prop × List AV)
  | [.imm (.bytes T)] => some ([(T.length : Int) ≤ 1000000], [.new (.bytes T)])
  | _ => none
def sCloT : List AV → Option (List Prop × List AV)
  | [.imm (.sl 3 X)] => some ([okT6 X], [.new (.sl 3 X)])
  | _ => none
def sCloO : List AV → Option (List Prop × List AV)
  | [.imm (.bools T)] => some ([(T.length : Int) ≤ 1000000], [.new (.bools T)])
  | _ => none
def sSwO : List AV → Option (List Prop × List AV)
  | [.imm (.bools T), .imm (.int .i64 k)] => some ([(T.length : Int) ≤ 1000000, 0 ≤ k], [.new (.bools (sw T false k))])
  | _ => none
def sSwT : List AV → Option (List Prop × List AV)
  | [.imm (.sl 3 X), .imm (.int .i64 k)] => some ([okT6 X, 0 ≤ k], [.new (.sl 3 (sw X [] k))])
  | _ => none
noncomputable def H5 := addE (addE (addE (addE H4 125 sCloI) 127 sCloB) 132 sCloT) 133 sCloO
noncomputable def H6 := addE (addE H5 128 sSwO) 126 sSwT
noncomputable def V3 : Cx := ⟨Tryd.prog, H4, noCall, G6, 998⟩
noncomputable def V8 : Cx := ⟨Tryd.prog, H5, noCall, G6, 998⟩
end Q6
set_option maxRecDepth 100000
namespace Q6
open Go Go.AE Go.Proofs PE PF
attribute [local irreducible] loopK evCode evSpec loopB norm
theorem g125_in (T : List Int) (K : List AV → Prop) : evSpec V3 Tryd.f125 [.imm (.ints IntKind.i64 T)] K = ((List.length T = 0 → K [AV.new (IV.ints IntKind.i64 [])]) ∧ (([] : List UInt8).length + List.length T) * 8 ≤ 140737488355328 ∧ ([] : List UInt8).length + List.length T ≤ 140737488355328 ∧ K [AV.new (IV.ints IntKind.i64 ([] ++ T))]) := by kernel_rfl
theorem g127_in (T : List UInt8) (K : List AV → Prop) : evSpec V3 Tryd.f127 [by' T] K = ((List.length T = 0 → K [AV.new (IV.bytes [])]) ∧ ((List.map u8 []).length + List.length T) * 1 ≤ 140737488355328 ∧ (List.map u8 []).length + List.length T ≤ 140737488355328 ∧ K [AV.new (IV.bytes (List.map u8 [] ++ T))]) := by kernel_rfl
theorem g132_in (T : List (List IV)) (K : List AV → Prop) : evSpec V3 Tryd.f132 [.imm (.sl 3 T)] K = (Bool.rec False ((List.length T = 0 → K [AV.new (IV.sl 3 [])]) ∧ (([] : List UInt8).length + List.length T) * 8 ≤ 140737488355328 ∧ ([] : List UInt8).length + List.length T ≤ 140737488355328 ∧ K [AV.new (IV.sl 3 T)]) (IV.isSl (IV.sl 3 T))) := by kernel_rfl
theorem g133_in (T : List Bool) (K : List AV → Prop) : evSpec V3 Tryd.f133 [.imm (.bools T)] K = ((List.length T = 0 → K [AV.new (IV.bools [])]) ∧ (([] : List UInt8).length + List.length T) * 1 ≤ 140737488355328 ∧ ([] : List UInt8).length + List.length T ≤ 140737488355328 ∧ K [AV.new (IV.bools ([] ++ T))]) := by kernel_rfl
theorem g128_in (T : List Bool) (j : Int) (K : List AV → Prop) : evSpec V8 Tryd.f128 [.imm (.bools T), i64 j] K = ((T.length : Int) ≤ 1000000 ∧ brn (decide (j < (T.length : Int))) ((0 : Int) ≤ j ∧ j < (T.length : Int) ∧ (0 : Int) ≤ 0 ∧ (0 : Int) < (T.length : Int) ∧ (0 : Int) ≤ 0 ∧ (0 : Int) < (T.length : Int) ∧ (0 : Int) ≤ j ∧ j < (↑(List.set T (0 : Int).toNat (List.getD T j.toNat false)).length : Int) ∧ K [AV.new (IV.bools (List.set (List.set T (0 : Int).toNat (List.getD T j.toNat false)) j.toNat (List.getD T (0 : Int).toNat false)))]) (K [AV.new (IV.bools T)])) := by kernel_rfl
theorem g126_in (T : List (List IV)) (j : Int) (K : List AV → Prop) : evSpec V8 Tryd.f126 [.imm (.sl 3 T), i64 j] K = (let R1 : Prop := K [AV.new (IV.sl 3 (List.set (List.set T (0 : Int).toNat [kcell (CK.int IntKind.i32) (ivNth (List.getD T j.toNat []) 0), kcell CK.bool (ivNth (List.getD T j.toNat []) (0 + 1)), kcell (CK.int IntKind.u8) (ivNth (List.getD T j.toNat []) (0 + 1 + 1))]) j.toNat [kcell (CK.int IntKind.i32) (ivNth (List.getD T (0 : Int).toNat []) 0), kcell CK.bool (ivNth (List.getD T (0 : Int).toNat []) (0 + 1)), kcell (CK.int IntKind.u8) (ivNth (List.getD T (0 : Int).toNat []) (0 + 1 + 1))]))]; let R2 : Prop := (kcells (List.getD T j.toNat []) 0 (lapp [CK.int IntKind.i32] (lapp [CK.bool] (lapp [CK.int IntKind.u8] []))) = List.getD T j.toNat [] ∧ kcells (List.getD T (0 : Int).toNat []) 0 (lapp [CK.int IntKind.i32] (lapp [CK.bool] (lapp [CK.int IntKind.u8] []))) = List.getD T (0 : Int).toNat [] ∧ (0 : Int) ≤ 0 ∧ (0 : Int) < (T.length : Int) ∧ (0 : Int) ≤ j ∧ j < (↑(List.set T (0 : Int).toNat [kcell (CK.int IntKind.i32) (ivNth (List.getD T j.toNat []) 0), kcell CK.bool (ivNth (List.getD T j.toNat []) (0 + 1)), kcell (CK.int IntKind.u8) (ivNth (List.getD T j.toNat []) (0 + 1
 + 1))]).length : Int) ∧ R1); okT6 T ∧ brn (decide (j < (T.length : Int))) (((0 : Int) ≤ j ∧ j < (T.length : Int) ∧ (kcells (List.getD T j.toNat []) 0 (lapp [CK.int IntKind.i32] (lapp [CK.bool] (lapp [CK.int IntKind.u8] []))) = List.getD T j.toNat [] ∧ (0 : Int) ≤ 0 ∧ (0 : Int) < (T.length : Int) ∧ kcells (List.getD T (0 : Int).toNat []) 0 (lapp [CK.int IntKind.i32] (lapp [CK.bool] (lapp [CK.int IntKind.u8] []))) = List.getD T (0 : Int).toNat [] ∧ (0 : Int) ≤ 0 ∧ (0 : Int) < (T.length : Int) ∧ (0 : Int) ≤ j ∧ j < (↑(List.set T (0 : Int).toNat [kcell (CK.int IntKind.i32) (ivNth (List.getD T j.toNat []) 0), kcell CK.bool (ivNth (List.getD T j.toNat []) (0 + 1)), kcell (CK.int IntKind.u8) (ivNth (List.getD T j.toNat []) (0 + 1 + 1))]).length : Int) ∧ R1) ∧ (0 : Int) ≤ 0 ∧ (0 : Int) < (T.length : Int) ∧ R2 ∧ kcells (List.getD T (0 : Int).toNat []) 0 (lapp [CK.int IntKind.i32] (lapp [CK.bool] (lapp [CK.int IntKind.u8] []))) = List.getD T (0 : Int).toNat [] ∧ kcells (List.getD T j.toNat []) 0 (lapp [CK.int IntKind.i32] (lapp [CK.bool] (lapp [CK.int IntKind.u8] []))) = List.getD T j.toNat [] ∧ (0 : Int) ≤ 0 ∧ (0 : Int) < (T.length : Int) ∧ (0 : Int) ≤ j ∧ j < (↑(List.set T (0 : Int).toNat
 [kcell (CK.int IntKind.i32) (ivNth (List.getD T j.toNat []) 0), kcell CK.bool (ivNth (List.getD T j.toNat []) (0 + 1)), kcell (CK.int IntKind.u8) (ivNth (List.getD T j.toNat []) (0 + 1 + 1))]).length : Int) ∧ R1) ∧ (0 : Int) ≤ 0 ∧ (0 : Int) < (T.length : Int) ∧ ((0 : Int) ≤ j ∧ j < (T.length : Int) ∧ R2 ∧ kcells (List.getD T (0 : Int).toNat []) 0 (lapp [CK.int IntKind.i32] (lapp [CK.bool] (lapp [CK.int IntKind.u8] []))) = List.getD T (0 : Int).toNat [] ∧ kcells (List.getD T j.toNat []) 0 (lapp [CK.int IntKind.i32] (lapp [CK.bool] (lapp [CK.int IntKind.u8] []))) = List.getD T j.toNat [] ∧ (0 : Int) ≤ 0 ∧ (0 : Int) < (T.length : Int) ∧ (0 : Int) ≤ j ∧ j < (↑(List.set T (0 : Int).toNat [kcell (CK.int IntKind.i32) (ivNth (List.getD T j.toNat []) 0), kcell CK.bool (ivNth (List.getD T j.toNat []) (0 + 1)), kcell (CK.int IntKind.u8) (ivNth (List.getD T j.toNat []) (0 + 1 + 1))]).length : Int) ∧ R1) ∧ kcells (List.getD T (0 : Int).toNat []) 0 (lapp [CK.int IntKind.i32] (lapp [CK.bool] (lapp [CK.int IntKind.u8] []))) = List.getD T (0 : Int).toNat [] ∧ (0 : Int) ≤ j ∧ j < (T.length : Int) ∧ kcells (List.getD T j.toNat []) 0 (lapp [CK.int IntKind.i32] (lapp [CK.bool] (lapp [CK.int IntKind.u8]
 []))) = List.getD T j.toNat [] ∧ (0 : Int) ≤ 0 ∧ (0 : Int) < (T.length : Int) ∧ (0 : Int) ≤ j ∧ j < (↑(List.set T (0 : Int).toNat [kcell (CK.int IntKind.i32) (ivNth (List.getD T j.toNat []) 0), kcell CK.bool (ivNth (List.getD T j.toNat []) (0 + 1)), kcell (CK.int IntKind.u8) (ivNth (List.getD T j.toNat []) (0 + 1 + 1))]).length : Int) ∧ R1) (K [AV.new (IV.sl 3 T)])) := by kernel_rfl
theorem lnil {α : Type} {l : List α} (h : l.length = 0) : l = [] := List.length_eq_zero_iff.1 h
theorem ok125 : ∀ args pres res, sCloI args = some (pres, res) → SpecOK Tryd.prog G6 125 args pres res := by
  intro args pres res h
  unfold sCloI at h
  split at h
  case h_2 => cases h
  cases h
  rename_i T
  refine spec_ok (C := V3) okH4 noCall_ok Tryd.func125 (by kernel_rfl) (by kernel_rfl) (fun hp => ?_)
  have hl : (T.length : Int) ≤ 1000000 := hp _ (by simp)
  exact Eq.mpr (g125_in T _) ⟨fun h0 => by rw [lnil h0], by simp only [List.length_nil]; omega, by simp only [List.length_nil]; omega, rfl⟩
theorem ok127 : ∀ args pres res, sCloB args = some (pres, res) → SpecOK Tryd.prog G6 127 args pres res := by
  intro args pres res h
  unfold sCloB at h
  split at h
  case h_2 => cases h
  cases h
  rename_i T
  refine spec_ok (C := V3) okH4 noCall_ok Tryd.func127 (by kernel_rfl) (by kernel_rfl) (fun hp => ?_)
  have hl : (T.length : Int) ≤ 1000000 := hp _ (by simp)
  exact Eq.mpr (g127_in T _) ⟨fun h0 => by rw [lnil h0], by simp only [List.map_nil, List.length_nil]; omega, by simp only [List.map_nil, List.length_nil]; omega, rfl⟩
theorem ok132 : ∀ args pres res, sCloT args = some (pres, res) → SpecOK Tryd.prog G6 132 args pres res := by
  intro args pres res h
  unfold sCloT at h
  split at h
  case h_2 => cases h
  cases h
  rename_i T
  refine spec_ok (C := V3) okH4 noCall_ok Tryd.func132 (by kernel_rfl) (by kernel_rfl) (fun hp => ?_)
  have hT : okT6 T := hp (okT6 T) (by simp)
  have hl := hT.len
  refine Eq.mpr (g132_in T _) ?_
  rw [hT.sl]
  exact ⟨fun h0 => by rw [lnil h0], by simp only [List.length_nil]; omega, by simp only [List.length_nil]; omega, rfl⟩
theorem ok133 : ∀ args pres res, sCloO args = some (pres, res) → SpecOK Tryd.prog G6 133 args pres res := by
  intro args pres res h
  unfold sCloO at h
  split at h
  case h_2 => cases h
  cases h
  rename_i T
  refine spec_ok (C := V3) okH4 noCall_ok Tryd.func133 (by kernel_rfl) (by kernel_rfl) (fun hp => ?_)
  have hl : (T.length : Int) ≤ 1000000 := hp _ (by simp)
  exact Eq.mpr (g133_in T _) ⟨fun h0 => by rw [lnil h0], by simp only [List.length_nil]; omega, by simp only [List.length_nil]; omega, rfl⟩
theorem okH5 : EOK Tryd.prog H5 G6 := addE_ok (addE_ok (addE_ok (addE_ok okH4 ok125) ok127) ok132) ok133
theorem ok128 : ∀ args pres res, sSwO args = some (pres, res) → SpecOK Tryd.prog G6 128 args pres res := by
  intro args pres res h
  unfold sSwO at h
  split at h
  case h_2 => cases h
  cases h
  rename_i T k
  refine spec_ok (C := V8) okH5 noCall_ok Tryd.func128 (by kernel_rfl) (by kernel_rfl) (fun hp => ?_)
  have hl : (T.length : Int) ≤ 1000000 := hp _ (by simp)
  have h0 : 0 ≤ k := hp _ (by simp)
  refine Eq.mpr (g128_in T k _) ⟨hl, brn_intro (fun h => ?_) (fun h => ?_)⟩
  · have h := of_decide_eq_true h
    have e : sw T false k = (T.set 0 (T.getD k.toNat false)).set k.toNat (T.getD 0 false) := by unfold sw; rw [if_pos h]
    rw [e]
    have q : (((T.set (Int.toNat 0) (T.getD k.toNat false)).length : Nat) : Int) = T.length := by rw [List.length_set]
    exact ⟨h0, h, by decide, by omega, by decide, by omega, h0, by rw [q]; exact h, rfl⟩
  · have h := of_decide_eq_false h
    have e : sw T false k = T := by unfold sw; rw [if_neg h]
    rw [e]
theorem ok126 : ∀ args pres res, sSwT args = some (pres, res) → SpecOK Tryd.prog G6 126 args pres res := by
  intro args pres res h
  unfold sSwT at h
  split at h
  case h_2 => cases h
  cases h
  rename_i T k
  refine spec_ok (C := V8) okH5 noCall_ok Tryd.func126 (by kernel_rfl) (by kernel_rfl) (fun hp => ?_)
  have hT : okT6 T := hp (okT6 T) (by simp)
  have h0 : 0 ≤ k := hp _ (by simp)
  have hl := hT.len
  refine Eq.mpr (g126_in T k _) ?_
  intro R1 R2
  refine ⟨hT, brn_intro (fun h => ?_) (fun h => ?_)⟩
  · have h := of_decide_eq_true h
    have e : sw T [] k = (T.set 0 (T.getD k.toNat [])).set k.toNat (T.getD 0 []) := by unfold sw; rw [if_pos h]
    have q : ∀ z, (((T.set (Int.toNat 0) z).length : Nat) : Int) = T.length := fun z => by rw [List.length_set]
    have kj := hT.kc k h0 h
    have k0 := hT.kc 0 (by decide) (by omega)
    have hR1 : R1 := by
      show [AV.new (IV.sl 3 ((T.set 0 (kcells (List.getD T (Int.toNat k) []) 0 (lapp [CK.int .i32] (lapp [CK.bool] (lapp [CK.int .u8] []))))).set k.toNat (kcells (List.getD T (Int.toNat 0) []) 0 (lapp [CK.int .i32] (lapp [CK.bool] (lapp [CK.int .u8] []))))))] = [AV.new (IV.sl 3 (sw T [] k))]
      rw [kj, k0, e]
      first | done | rfl
    have hR2 : R2 := ⟨kj, k0, by decide, by omega, h0, by rw [q]; exact h, hR1⟩
    clear_value R1 R2
    have j0 : k < (((T.set (Int.toNat 0) (kcells (List.getD T (Int.toNat k) []) 0 (lapp [CK.int .i32] (lapp [CK.bool] (lapp [CK.int .u8] []))))).length : Nat) : Int) := by rw [q]; exact h
    have z0 : (0 : Int) ≤ 0 := by decide
    have z1 : (0 : Int) < (T.length : Int) := by omega
    exact ⟨⟨h0, h, ⟨kj, z0, z1, k0, z0, z1, h0, j0, hR1⟩, z0, z1, hR2, k0, kj, z0, z1, h0, j0, hR1⟩, z0, z1, ⟨h0, h, hR2, k0, kj, z0, z1, h0, j0, hR1⟩, k0, h0, h, kj, z0, z1, h0, j0, hR1⟩
  · have h := of_decide_eq_false h
    have e : sw T [] k = T := by unfold sw; rw [if_neg h]
    rw [e]
theorem okH6 : EOK Tryd.prog H6 G6 := addE_ok (addE_ok okH5 ok128) ok126
end Q6
namespace Q6
open Go Go.AE Go.Proofs
def aft (T : List Int) (t : Int) : Int := ((T.takeWhile fun x => decide (x ≤ t)).length : Int)
structure asc (T : List Int) : Prop where
  lt : ∀ i j : Nat, i < j → j < T.length → T.getD i 0 < T.getD j 0
def sAft : List AV → Option (List Prop × List AV)
  | [.imm (.ints .i64 T), .imm (.int .i64 t)] => some ([(T.length : Int) ≤ 1000000, asc T], [i6 (aft T t)])
  | _ => none
noncomputable def I7 : FuncId → Option Func := fun f => bif Nat.beq f 130 then some Tryd.f130 else bif Nat.beq f 131 then some Tryd.f131 else none
noncomputable def C7 : Cx := ⟨Tryd.prog, H6, inl I7 Tryd.prog H6 G6 0 3, G6, 0⟩
noncomputable def C6 : Cx := ⟨Tryd.prog, H6, inl I7 Tryd.prog H6 G6 0 2, G6, 0⟩
noncomputable def H7 := addE H6 123 sAft
def ii6 (T : List Int) : AV := .imm (.ints .i64 T)
def fn131 : AV := .fn 131 [] [.ptr 0 0, .ptr 1 0]
def ob6 (T : List Int) (t : Int) : List (Nat × Ob) := [(0, ⟨true, 0, .cells [ii6 T]⟩), (1, ⟨true, 0, .cells [i6 t]⟩)]
def out123 (T : List Int) (t : Int) : List AV := [ii6 T, i6 t, .ptr 0 0, .ptr 1 0, i6 0, ii6 T, i6 (T.length : Int), fn131, .dead]
def k130 (T : List Int) (t i j : Int) : St := ⟨spr [(1, fn131), (5, i6 i), (6, i6 j)] 0 26, ob6 T t, 2, out123 T t⟩
def q130 : Plan := ⟨[], msk [1, 5, 6] 0 26, [0, 1]⟩
noncomputable def ops123 : Array Oper := match codeAt [.r, .l] (bodyOf Tryd.f123) with
  | .region _ ops _ => ops
  | _ => #[]
noncomputable def cont123 (K : List AV → Prop) : AV → St → Prop := fun v st' => evOps C7 false ops123 (fun v st => finK C7 Tryd.f123 K (.panic v) st) (ldrop 4 ops123.toList) [] (st'.put (some 8) v) (fun st => evCode C7 (codeAt [.r, .r] (bodyOf Tryd.f123)) st (finK C7 Tryd.f123 K))
noncomputable def finI (C : Cx) (fn : Func) (n : Nat) (k : AV → St → Prop) : AX → St → Prop := fun x st1 => match x with
    | .normal => match resOf C.P st1 fn.results.toList with
      | some vs => k (resAV vs) (leave n st1)
      | none => False
    | .ret => match resOf C.P st1 fn.results.toList with
      | some vs => k (resAV vs) (leave n st1)
      | none => False
    | .panic _ => False
    | .exit _ => False
end Q6
set_option maxRecDepth 100000
namespace Q6
open Go Go.AE Go.Proofs PE PF
attribute [local irreducible] loopK evCode evSpec loopB norm
theorem g123_in (T : List Int) (t : Int) (K : List AV → Prop) : evSpec C7 Tryd.f123 [ii6 T, i6 t] K = (LoopI C6 (bodyOf Tryd.f130) 0 (St.mk (lapp [i64 (T.length : Int), AV.fn 131 [] [.ptr 0 0, .ptr 1 0], .dead, .dead, i64 0, i64 0, i64 (T.length : Int), .dead, i64 (T.length : Int)] (dN 17)) [(0, Ob.mk true 0 (AObj.cells [.imm (.ints IntKind.i64 T)])), (1, Ob.mk true 0 (AObj.cells [i64 t]))] 2 [.imm (.ints IntKind.i64 T), i64 t, .ptr 0 0, .ptr 1 0, i64 0, .imm (.ints IntKind.i64 T), i64 (T.length : Int), AV.fn 131 [] [.ptr 0 0, .ptr 1 0], .dead]) (finI C6 Tryd.f130 9 (cont123 K))) := by kernel_rfl
theorem g130_lp (T : List Int) (t : Int) (i : Int) (j : Int) (k : AX → St → Prop) : evCode C6 (loopB (bodyOf Tryd.f130) 0) (k130 T t i j) k = (brn (decide (i < j)) ((0 : Int) ≤ 1 ∧ ((0 : Int) ≤ IntKind.wrap .i64 (shrV IntKind.u64 (IntKind.wrap IntKind.u64 (IntKind.wrap .i64 (i + j))) (1 : Int)) ∧ IntKind.wrap .i64 (shrV IntKind.u64 (IntKind.wrap IntKind.u64 (IntKind.wrap .i64 (i + j))) (1 : Int)) < (T.length : Int) ∧ brn (!decide (List.getD T (IntKind.wrap .i64 (shrV IntKind.u64 (IntKind.wrap IntKind.u64 (IntKind.wrap .i64 (i + j))) (1 : Int))).toNat (0 : Int) > t)) (k AX.normal (St.mk [.dead, AV.fn 131 [] [.ptr 0 0, .ptr 1 0], .dead, .dead, .dead, i64 (IntKind.wrap .i64 (IntKind.wrap .i64 (shrV IntKind.u64 (IntKind.wrap IntKind.u64 (IntKind.wrap .i64 (i + j))) (1 : Int)) + 1)), i64 j, i64 (IntKind.wrap .i64 (shrV IntKind.u64 (IntKind.wrap IntKind.u64 (IntKind.wrap .i64 (i + j))) (1 : Int))), .dead, i64 i, i64 j, bo (decide (i < j)), i64 i, i64 j, i64 (IntKind.wrap .i64 (i + j)), .imm (.int IntKind.u64 (IntKind.wrap IntKind.u64 (IntKind.wrap .i64 (i + j)))), .imm (.int IntKind.u64 (shrV IntKind.u64 (IntKind.wrap IntKind.u64 (IntKind.wrap .i64 (i + j))) (1 : Int))), i64 (IntKind.wrap
 .i64 (shrV IntKind.u64 (IntKind.wrap IntKind.u64 (IntKind.wrap .i64 (i + j))) (1 : Int))), AV.fn 131 [] [.ptr 0 0, .ptr 1 0], i64 (IntKind.wrap .i64 (shrV IntKind.u64 (IntKind.wrap IntKind.u64 (IntKind.wrap .i64 (i + j))) (1 : Int))), bo (decide (List.getD T (IntKind.wrap .i64 (shrV IntKind.u64 (IntKind.wrap IntKind.u64 (IntKind.wrap .i64 (i + j))) (1 : Int))).toNat (0 : Int) > t)), bo (!decide (List.getD T (IntKind.wrap .i64 (shrV IntKind.u64 (IntKind.wrap IntKind.u64 (IntKind.wrap .i64 (i + j))) (1 : Int))).toNat (0 : Int) > t)), i64 (IntKind.wrap .i64 (shrV IntKind.u64 (IntKind.wrap IntKind.u64 (IntKind.wrap .i64 (i + j))) (1 : Int))), i64 (IntKind.wrap .i64 (IntKind.wrap .i64 (shrV IntKind.u64 (IntKind.wrap IntKind.u64 (IntKind.wrap .i64 (i + j))) (1 : Int)) + 1)), .dead, .dead] [(0, Ob.mk true 0 (AObj.cells [.imm (.ints IntKind.i64 T)])), (1, Ob.mk true 0 (AObj.cells [i64 t]))] 2 [.imm (.ints IntKind.i64 T), i64 t, .ptr 0 0, .ptr 1 0, i64 0, .imm (.ints IntKind.i64 T), i64 (T.length : Int), AV.fn 131 [] [.ptr 0 0, .ptr 1 0], .dead])) (k AX.normal (St.mk [.dead, AV.fn 131 [] [.ptr 0 0, .ptr 1 0], .dead, .dead, .dead, i64 i, i64 (IntKind.wrap .i64 (shrV IntKind.u64 (IntKind.wrap
 IntKind.u64 (IntKind.wrap .i64 (i + j))) (1 : Int))), i64 (IntKind.wrap .i64 (shrV IntKind.u64 (IntKind.wrap IntKind.u64 (IntKind.wrap .i64 (i + j))) (1 : Int))), .dead, i64 i, i64 j, bo (decide (i < j)), i64 i, i64 j, i64 (IntKind.wrap .i64 (i + j)), .imm (.int IntKind.u64 (IntKind.wrap IntKind.u64 (IntKind.wrap .i64 (i + j)))), .imm (.int IntKind.u64 (shrV IntKind.u64 (IntKind.wrap IntKind.u64 (IntKind.wrap .i64 (i + j))) (1 : Int))), i64 (IntKind.wrap .i64 (shrV IntKind.u64 (IntKind.wrap IntKind.u64 (IntKind.wrap .i64 (i + j))) (1 : Int))), AV.fn 131 [] [.ptr 0 0, .ptr 1 0], i64 (IntKind.wrap .i64 (shrV IntKind.u64 (IntKind.wrap IntKind.u64 (IntKind.wrap .i64 (i + j))) (1 : Int))), bo (decide (List.getD T (IntKind.wrap .i64 (shrV IntKind.u64 (IntKind.wrap IntKind.u64 (IntKind.wrap .i64 (i + j))) (1 : Int))).toNat (0 : Int) > t)), bo (!decide (List.getD T (IntKind.wrap .i64 (shrV IntKind.u64 (IntKind.wrap IntKind.u64 (IntKind.wrap .i64 (i + j))) (1 : Int))).toNat (0 : Int) > t)), .dead, .dead, i64 (IntKind.wrap .i64 (shrV IntKind.u64 (IntKind.wrap IntKind.u64 (IntKind.wrap .i64 (i + j))) (1 : Int))), .dead] [(0, Ob.mk true 0 (AObj.cells [.imm (.ints IntKind.i64 T)])), (1, Ob.mk
 true 0 (AObj.cells [i64 t]))] 2 [.imm (.ints IntKind.i64 T), i64 t, .ptr 0 0, .ptr 1 0, i64 0, .imm (.ints IntKind.i64 T), i64 (T.length : Int), AV.fn 131 [] [.ptr 0 0, .ptr 1 0], .dead]))) ∧ (0 : Int) ≤ IntKind.wrap .i64 (shrV IntKind.u64 (IntKind.wrap IntKind.u64 (IntKind.wrap .i64 (i + j))) (1 : Int)) ∧ IntKind.wrap .i64 (shrV IntKind.u64 (IntKind.wrap IntKind.u64 (IntKind.wrap .i64 (i + j))) (1 : Int)) < (T.length : Int) ∧ brn (!decide (List.getD T (IntKind.wrap .i64 (shrV IntKind.u64 (IntKind.wrap IntKind.u64 (IntKind.wrap .i64 (i + j))) (1 : Int))).toNat (0 : Int) > t)) (k AX.normal (St.mk [.dead, AV.fn 131 [] [.ptr 0 0, .ptr 1 0], .dead, .dead, .dead, i64 (IntKind.wrap .i64 (IntKind.wrap .i64 (shrV IntKind.u64 (IntKind.wrap IntKind.u64 (IntKind.wrap .i64 (i + j))) (1 : Int)) + 1)), i64 j, i64 (IntKind.wrap .i64 (shrV IntKind.u64 (IntKind.wrap IntKind.u64 (IntKind.wrap .i64 (i + j))) (1 : Int))), .dead, i64 i, i64 j, bo (decide (i < j)), i64 i, i64 j, i64 (IntKind.wrap .i64 (i + j)), .imm (.int IntKind.u64 (IntKind.wrap IntKind.u64 (IntKind.wrap .i64 (i + j)))), .imm (.int IntKind.u64 (shrV IntKind.u64 (IntKind.wrap IntKind.u64 (IntKind.wrap .i64 (i + j))) (1 : Int))), i64
 (IntKind.wrap .i64 (shrV IntKind.u64 (IntKind.wrap IntKind.u64 (IntKind.wrap .i64 (i + j))) (1 : Int))), AV.fn 131 [] [.ptr 0 0, .ptr 1 0], i64 (IntKind.wrap .i64 (shrV IntKind.u64 (IntKind.wrap IntKind.u64 (IntKind.wrap .i64 (i + j))) (1 : Int))), bo (decide (List.getD T (IntKind.wrap .i64 (shrV IntKind.u64 (IntKind.wrap IntKind.u64 (IntKind.wrap .i64 (i + j))) (1 : Int))).toNat (0 : Int) > t)), bo (!decide (List.getD T (IntKind.wrap .i64 (shrV IntKind.u64 (IntKind.wrap IntKind.u64 (IntKind.wrap .i64 (i + j))) (1 : Int))).toNat (0 : Int) > t)), i64 (IntKind.wrap .i64 (shrV IntKind.u64 (IntKind.wrap IntKind.u64 (IntKind.wrap .i64 (i + j))) (1 : Int))), i64 (IntKind.wrap .i64 (IntKind.wrap .i64 (shrV IntKind.u64 (IntKind.wrap IntKind.u64 (IntKind.wrap .i64 (i + j))) (1 : Int)) + 1)), .dead, .dead] [(0, Ob.mk true 0 (AObj.cells [.imm (.ints IntKind.i64 T)])), (1, Ob.mk true 0 (AObj.cells [i64 t]))] 2 [.imm (.ints IntKind.i64 T), i64 t, .ptr 0 0, .ptr 1 0, i64 0, .imm (.ints IntKind.i64 T), i64 (T.length : Int), AV.fn 131 [] [.ptr 0 0, .ptr 1 0], .dead])) (k AX.normal (St.mk [.dead, AV.fn 131 [] [.ptr 0 0, .ptr 1 0], .dead, .dead, .dead, i64 i, i64 (IntKind.wrap .i64 (shrV IntKind.u64
 (IntKind.wrap IntKind.u64 (IntKind.wrap .i64 (i + j))) (1 : Int))), i64 (IntKind.wrap .i64 (shrV IntKind.u64 (IntKind.wrap IntKind.u64 (IntKind.wrap .i64 (i + j))) (1 : Int))), .dead, i64 i, i64 j, bo (decide (i < j)), i64 i, i64 j, i64 (IntKind.wrap .i64 (i + j)), .imm (.int IntKind.u64 (IntKind.wrap IntKind.u64 (IntKind.wrap .i64 (i + j)))), .imm (.int IntKind.u64 (shrV IntKind.u64 (IntKind.wrap IntKind.u64 (IntKind.wrap .i64 (i + j))) (1 : Int))), i64 (IntKind.wrap .i64 (shrV IntKind.u64 (IntKind.wrap IntKind.u64 (IntKind.wrap .i64 (i + j))) (1 : Int))), AV.fn 131 [] [.ptr 0 0, .ptr 1 0], i64 (IntKind.wrap .i64 (shrV IntKind.u64 (IntKind.wrap IntKind.u64 (IntKind.wrap .i64 (i + j))) (1 : Int))), bo (decide (List.getD T (IntKind.wrap .i64 (shrV IntKind.u64 (IntKind.wrap IntKind.u64 (IntKind.wrap .i64 (i + j))) (1 : Int))).toNat (0 : Int) > t)), bo (!decide (List.getD T (IntKind.wrap .i64 (shrV IntKind.u64 (IntKind.wrap IntKind.u64 (IntKind.wrap .i64 (i + j))) (1 : Int))).toNat (0 : Int) > t)), .dead, .dead, i64 (IntKind.wrap .i64 (shrV IntKind.u64 (IntKind.wrap IntKind.u64 (IntKind.wrap .i64 (i + j))) (1 : Int))), .dead] [(0, Ob.mk true 0 (AObj.cells [.imm (.ints IntKind.i64
 T)])), (1, Ob.mk true 0 (AObj.cells [i64 t]))] 2 [.imm (.ints IntKind.i64 T), i64 t, .ptr 0 0, .ptr 1 0, i64 0, .imm (.ints IntKind.i64 T), i64 (T.length : Int), AV.fn 131 [] [.ptr 0 0, .ptr 1 0], .dead]))) (k (AX.exit 0) (St.mk (lapp [.dead, AV.fn 131 [] [.ptr 0 0, .ptr 1 0], .dead, .dead, .dead, i64 i, i64 j, .dead, .dead, i64 i, i64 j, bo (decide (i < j))] (dN 14)) [(0, Ob.mk true 0 (AObj.cells [.imm (.ints IntKind.i64 T)])), (1, Ob.mk true 0 (AObj.cells [i64 t]))] 2 [.imm (.ints IntKind.i64 T), i64 t, .ptr 0 0, .ptr 1 0, i64 0, .imm (.ints IntKind.i64 T), i64 (T.length : Int), AV.fn 131 [] [.ptr 0 0, .ptr 1 0], .dead]))) := by kernel_rfl
theorem wrapu {n : Int} (h0 : 0 ≤ n) (h1 : n < 18446744073709551616) : IntKind.wrap .u64 n = n := wrapU h0 h1
theorem mid {i j : Int} (h0 : 0 ≤ i) (h1 : i < j) (h2 : j ≤ 1000000) : IntKind.wrap .i64 (shrV .u64 (IntKind.wrap .u64 (IntKind.wrap .i64 (i + j))) 1) = (i + j) / 2 := by
  have e1 : IntKind.wrap .i64 (i + j) = i + j := wrap64 (by omega) (by omega)
  have e2 : IntKind.wrap .u64 (i + j) = i + j := wrapu (by omega) (by omega)
  have e3 : shrV .u64 (i + j) 1 = (i + j) / 2 := by
    unfold shrV
    exact Int.fdiv_eq_ediv_of_nonneg _ (by decide)
  rw [e1, e2, e3]
  exact wrap64 (by omega) (by omega)
theorem aft_is {T : List Int} {t : Int} (ha : asc T) : ∀ (v : Nat), v ≤ T.length → (∀ k : Nat, k < v → T.getD k 0 ≤ t) → (v < T.length → ¬ T.getD v 0 ≤ t) → aft T t = (v : Int) := by
  clear ha
  unfold aft
  induction T with
  | nil => intro v hv _ _; simp at hv; simp [hv]
  | cons x T ih =>
    intro v hv hk hn
    cases v with
    | zero =>
      have := hn (by simp)
      simp only [List.getD_cons_zero] at this
      simp [List.takeWhile_cons, this]
    | succ v =>
      have h0 := hk 0 (by omega)
      simp only [List.getD_cons_zero] at h0
      have := ih v (by simpa using hv) (fun k hkv => by have := hk (k + 1) (by omega); simpa using this) (fun h => by have := hn (by simpa using h); simpa using this)
      simp only [List.takeWhile_cons, h0, decide_true, if_true, List.length_cons]
      omega
theorem aft_ex (T : List Int) (t : Int) (hl : (T.length : Int) ≤ 1000000) (ha : asc T) : ∀ K : List AV → Prop, K [i6 (aft T t)] → evSpec C7 Tryd.f123 [ii6 T, i6 t] K := by
  refine Exists.elim (loop_det (C := C6) (c := loopB (bodyOf Tryd.f130) 0) (fun s : Int × Int => k130 T t s.1 s.2) (fun s => 0 ≤ s.1 ∧ s.1 ≤ s.2 ∧ s.2 ≤ T.length ∧ (∀ k : Nat, (k : Int) < s.1 → T.getD k 0 ≤ t) ∧ (∀ k : Nat, s.2 ≤ (k : Int) → k < T.length → ¬ T.getD k 0 ≤ t)) (fun s => (s.2 - s.1).toNat) (fun v : Int => v = aft T t) (fun v => [i6 v])
    (fun K => loopK C6 (bodyOf Tryd.f130) 0 (finI C6 Tryd.f130 9 (cont123 K))) rfl (fun s hs => ?_) ((0 : Int), (T.length : Int)) ⟨Int.le_refl 0, by show (0 : Int) ≤ (T.length : Int); omega, Int.le_refl _, fun k hk => by have hk : (k : Int) < 0 := hk; omega, fun k hk hk2 => by have hk : (T.length : Int) ≤ (k : Int) := hk; omega⟩) (fun v hv => ?_)
  · obtain ⟨i, j⟩ := s
    obtain ⟨i1, i2, i3, i4, i5⟩ := hs
    have i1 : 0 ≤ i := i1
    have i2 : i ≤ j := i2
    have i3 : j ≤ T.length := i3
    have i4 : ∀ k : Nat, (k : Int) < i → T.getD k 0 ≤ t := i4
    have i5 : ∀ k : Nat, j ≤ (k : Int) → k < T.length → ¬ T.getD k 0 ≤ t := i5
    by_cases h : i < j
    · have hm := mid i1 h (by omega)
      obtain ⟨m, hm2⟩ : ∃ m : Nat, (i + j) / 2 = (m : Int) := ⟨((i + j) / 2).toNat, by omega⟩
      rw [hm2] at hm
      have m1 : i ≤ (m : Int) := by omega
      have m2 : (m : Int) < j := by omega
      by_cases hx : T.getD m 0 > t
      · refine .inl ⟨(i, (m : Int)), q130, _, ⟨i1, m1, by show (m : Int) ≤ T.length; omega, i4, fun k hk hk2 => ?_⟩, by show ((m : Int) - i).toNat < (j - i).toNat; omega, ?_, fun K' hK' => by
          show evCode C6 (loopB (bodyOf Tryd.f130) 0) (k130 T t i j) K'
          rw [g130_lp, hm]
          exact brn_T (decide_eq_true h) ⟨by decide, ⟨by omega, by omega, brn_Fa (by rw [Int.toNat_natCast, decide_eq_true hx]; rfl) hK'⟩, by omega, by omega, brn_Fa (by rw [Int.toNat_natCast, decide_eq_true hx]; rfl) hK'⟩⟩
        · have hk : (m : Int) ≤ (k : Int) := hk
          rcases Nat.lt_or_ge m k with hlt | hge
          · have := ha.lt m k hlt hk2
            omega
          · have : k = m := by omega
            rw [this]; omega
        · kernel_rfl
      · refine .inl ⟨((m : Int) + 1, j), q130, _, ⟨by show 0 ≤ (m : Int) + 1; omega, by show (m : Int) + 1 ≤ j; omega, i3, fun k hk => ?_, i5⟩, by show (j - ((m : Int) + 1)).toNat < (j - i).toNat; omega, ?_, fun K' hK' => by
          show evCode C6 (loopB (bodyOf Tryd.f130) 0) (k130 T t i j) K'
          rw [g130_lp, hm]
          exact brn_T (decide_eq_true h) ⟨by decide, ⟨by omega, by omega, brn_T (by rw [Int.toNat_natCast, decide_eq_false hx]; rfl) hK'⟩, by omega, by omega, brn_T (by rw [Int.toNat_natCast, decide_eq_false hx]; rfl) hK'⟩⟩
        · have hk : (k : Int) < (m : Int) + 1 := hk
          rcases Nat.lt_or_ge k m with hlt | hge
          · have := ha.lt k m hlt (by omega)
            omega
          · have : k = m := by omega
            rw [this]; omega
        · rw [w1 (by omega) (by omega)]
          kernel_rfl
    · have hij : i = j := by omega
      subst hij
      refine .inr ⟨.exit 0, _, by simp, fun K' hK' => by
        show evCode C6 (loopB (bodyOf Tryd.f130) 0) (k130 T t i i) K'
        rw [g130_lp]
        exact brn_Fa (decide_eq_false h) hK', i, ?_, fun K hK => ?_⟩
      · obtain ⟨n, rfl⟩ : ∃ n : Nat, i = n := ⟨i.toNat, by omega⟩
        exact (aft_is ha n (by omega) (fun k hk => i4 k (by omega)) (fun hn => i5 n (Int.le_refl _) hn)).symm
      · exact Eq.mp (by kernel_rfl) hK
  · obtain ⟨rfl, hk⟩ := hv
    intro K hK
    rw [g123_in]
    unfold LoopI
    exact hk K hK q130 _ (by kernel_rfl)
theorem I7_ok : ∀ f fn, I7 f = some fn → Tryd.prog.funcs[f]? = some fn ∧ (fn.name == "runtime.NumGoroutine") = false := by
  intro f fn h
  unfold I7 at h
  cases h1 : Nat.beq f 130 with
  | true => rw [h1, cond_true] at h; cases h; obtain rfl := nbeq h1; exact ⟨Tryd.func130, by kernel_rfl⟩
  | false =>
    rw [h1, cond_false] at h
    cases h2 : Nat.beq f 131 with
    | true => rw [h2, cond_true] at h; cases h; obtain rfl := nbeq h2; exact ⟨Tryd.func131, by kernel_rfl⟩
    | false => rw [h2, cond_false] at h; cases h
theorem ok123 : ∀ args pres res, sAft args = some (pres, res) → SpecOK Tryd.prog G6 123 args pres res := by
  intro args pres res h
  unfold sAft at h
  split at h
  case h_2 => cases h
  cases h
  rename_i T t
  exact spec_ok (C := C7) okH6 (inl_ok okH6 I7_ok 3) Tryd.func123 (by kernel_rfl) (by kernel_rfl) (fun hp => aft_ex T t (hp _ (by simp)) (hp (asc T) (by simp)) _ rfl)
theorem okH7 : EOK Tryd.prog H7 G6 := addE_ok okH6 ok123
end Q6
namespace Q6
open Go Go.AE Go.Proofs
def inE (T : List Int) (I : List UInt8) (t : Int) : Int := bif aft T t == 0 then 0 else ((I.getD (aft T t - 1).toNat 0).toNat : Int)
structure okV (T : List Int) (I : List UInt8) (X : List (List IV)) (C : List UInt8) (L : List (List IV)) (S U : List Bool) : Prop where
  t : (T.length : Int) ≤ 1000000
  a : asc T
  i : I.length = T.length
  x : okT6 X
  c : (C.length : Int) ≤ 1000000
  l : okX L
  s : (S.length : Int) ≤ 1000000
  u : (U.length : Int) ≤ 1000000
def blk6 (T : List Int) (I : List UInt8) (X : List (List IV)) (C : List UInt8) (L : List (List IV)) (S U : List Bool) : List AV := [.imm (.ints .i64 T), .imm (.bytes I), .imm (.sl 3 X), .imm (.bytes C), .imm (.sl 2 L), .imm (.bools S), .imm (.bools U)]
def sInE : List AV → Option (List Prop × List AV)
  | [.agg [.imm (.ints .i64 T), .imm (.bytes I), .imm (.sl 3 X), .imm (.bytes C), .imm (.sl 2 L), .imm (.bools S), .imm (.bools U)], .imm (.int .i64 t)] => some ([okV T I X C L S U], [i6 (inE T I t)])
  | _ => none
noncomputable def H8 := addE H7 122 sInE
noncomputable def V122 : Cx := ⟨Tryd.prog, H7, noCall, G6, 4019⟩
noncomputable def I8 : FuncId → Option Func := fun f => bif Nat.beq f 124 then some Tryd.f124 else none
noncomputable def VW : Cx := ⟨Tryd.prog, H8, inl I8 Tryd.prog H8 G6 6080 2, G6, 6080⟩
def zS : AV := .imm (.val (.slice none 0 0))
def rowO (v : IV) : Ob := ⟨true, 0, .row v⟩
def clO (l : List AV) : Ob := ⟨true, 0, .cells l⟩
def zB7 : List AV := [zS, zS, zS, zS, zS, zS, zS]
def k120a (b : List AV) (kk : Int) (Tv : List Int) (Xv : List (List IV)) (C : List UInt8) (Sv Uv : List Bool) (J acc : List UInt8) (n i : Int) : St :=
  ⟨spr [(1, .ptr 0 0), (2, .ptr 1 0), (3, .ptr 2 0), (6, .fn 124 [] [.ptr 2 0]), (7, .ptr 3 0), (47, .imm (.bytes J)), (48, i6 n), (49, i6 i)] 0 80,
   [(0, clO b), (1, clO zB7), (2, clO [i6 kk]), (3, clO [.row 4 0, .row 5 0, .row 6 0, .row 7 0, zS, .row 8 0, .row 9 0]), (4, rowO (.ints .i64 Tv)), (5, rowO (.bytes acc)), (6, rowO (.sl 3 Xv)), (7, rowO (.bytes C)), (8, rowO (.bools Sv)), (9, rowO (.bools Uv))], 10, []⟩
def q120i : Plan := ⟨[.obj 3 1 (.bytes [])], msk [1, 2, 3, 6, 7, 47, 48, 49] 0 80, [0, 1, 2, 3, 4, 9, 5, 6, 7, 8]⟩
def k120b (Tv : List Int) (Iv : List UInt8) (Xv : List (List IV)) (C : List UInt8) (Sv Uv : List Bool) (L acc : List (List IV)) (n i : Int) : St :=
  ⟨spr [(2, .ptr 0 0), (7, .ptr 1 0), (63, sl2 L), (64, i6 n), (65, i6 i)] 0 80,
   [(0, clO zB7), (1, clO [.row 2 0, .row 3 0, .row 4 0, .row 5 0, .row 6 0, .row 7 0, .row 8 0]), (2, rowO (.ints .i64 Tv)), (3, rowO (.bytes Iv)), (4, rowO (.sl 3 Xv)), (5, rowO (.bytes C)), (6, rowO (.sl 2 acc)), (7, rowO (.bools Sv)), (8, rowO (.bools Uv))], 9, []⟩
def q120j : Plan := ⟨[.obj 3 4 (.sl 2 [])], msk [2, 7, 63, 64, 65] 0 80, [1, 3, 4, 5, 6, 7, 10, 8, 9]⟩
end Q6
set_option maxRecDepth 100000
namespace Q6
open Go Go.AE Go.Proofs PE PF
attribute [local irreducible] loopK evCode evSpec loopB norm
def nS : IV := (IV.val (Value.slice none 0 0))
theorem g122_in (T : List Int) (I : List UInt8) (X : List (List IV)) (C : List UInt8) (L : List (List IV)) (S : List Bool) (U : List Bool) (t : Int) (K : List AV → Prop) : evSpec V122 Tryd.f122 [.agg (blk6 T I X C L S U), i6 t] K = ((T.length : Int) ≤ 1000000 ∧ asc T ∧ brn (aft T t == 0) (K [i64 0]) ((0 : Int) ≤ IntKind.wrap .i64 (aft T t - 1) ∧ IntKind.wrap .i64 (aft T t - 1) < (I.length : Int) ∧ K [i64 (IntKind.wrap .i64 (↑(UInt8.toNat (List.getD I (IntKind.wrap .i64 (aft T t - 1)).toNat (0 : UInt8))) : Int))])) := by kernel_rfl
theorem g120_in (T : List Int) (I : List UInt8) (X : List (List IV)) (C : List UInt8) (L : List (List IV)) (S : List Bool) (U : List Bool) (K : List AV → Prop) : evSpec VW Tryd.f120 [.agg (blk6 T I X C L S U)] K = (let E1 : Prop := ((sm (St.mk (lapp [.agg (blk6 T I X C L S U), .ptr 0 0, .ptr 1 0, .ptr 2 0, i64 (aft T (-2147483649 : Int)), i64 (aft T (2147483647 : Int))] (lapp (dN 6) (lapp [.agg (blk6 T I X C L S U), i64 (inE T I (-2147483649 : Int)), .ptr 0 0, .imm (.ints IntKind.i64 T), i64 (aft T (-2147483649 : Int)), .ptr 0 0, .imm (.ints IntKind.i64 T), i64 (aft T (2147483647 : Int))] (dN 60)))) [(0, Ob.mk true 0 (AObj.cells (blk6 T I X C L S U))), (1, Ob.mk true 0 (AObj.cells [.imm nS, .imm nS, .imm nS, .imm nS, .imm nS, .imm nS, .imm nS])), (2, Ob.mk true 0 (AObj.cells [i64 (inE T I (-2147483649 : Int))]))] 3 []))); let E2 : Prop := ((sm (St.mk (lapp [.agg (blk6 T I X C L S U), .ptr 0 0, .ptr 1 0, .ptr 2 0, i64 (aft T (-2147483649 : Int)), i64 (aft T (2147483647 : Int)), AV.fn 124 [] [.ptr 2 0], .ptr 3 0] (lapp (dN 4) (lapp [.agg (blk6 T I X C L S U), i64 (inE T I (-2147483649 : Int)), .ptr 0 0, .imm (.ints IntKind.i64 T), i64 (aft T (-2147483649 : Int)), .ptr 0 0, .imm (.ints
 IntKind.i64 T), i64 (aft T (2147483647 : Int)), AV.fn 124 [] [.ptr 2 0], .ptr 0 0, .imm (.ints IntKind.i64 T), i64 (aft T (-2147483649 : Int)), i64 (aft T (2147483647 : Int)), .imm (.ints IntKind.i64 (List.take ((aft T (2147483647 : Int)).toNat - (aft T (-2147483649 : Int)).toNat) (List.drop (aft T (-2147483649 : Int)).toNat T))), AV.row 4 0, .ptr 0 2, .imm (.sl 3 X), i64 (inE T I (-2147483649 : Int)), AV.row 5 0, .ptr 0 3, by' C, AV.row 6 0, .ptr 0 5, .imm (.bools S), i64 (inE T I (-2147483649 : Int)), AV.row 7 0, .ptr 0 6, .imm (.bools U), i64 (inE T I (-2147483649 : Int)), AV.row 8 0, .agg [AV.row 4 0, .imm nS, AV.row 5 0, AV.row 6 0, .imm nS, AV.row 7 0, AV.row 8 0]] (dN 37)))) [(0, Ob.mk true 0 (AObj.cells (blk6 T I X C L S U))), (1, Ob.mk true 0 (AObj.cells [.imm nS, .imm nS, .imm nS, .imm nS, .imm nS, .imm nS, .imm nS])), (2, Ob.mk true 0 (AObj.cells [i64 (inE T I (-2147483649 : Int))])), (3, Ob.mk true 0 (AObj.cells [AV.row 4 0, .imm nS, AV.row 5 0, AV.row 6 0, .imm nS, AV.row 7 0, AV.row 8 0])), (4, Ob.mk true 0 (AObj.row (IV.ints IntKind.i64 (List.take ((aft T (2147483647 : Int)).toNat - (aft T (-2147483649 : Int)).toNat) (List.drop (aft T (-2147483649 : Int)).toNat
 T))))), (5, Ob.mk true 0 (AObj.row (IV.sl 3 (sw X [] (inE T I (-2147483649 : Int)))))), (6, Ob.mk true 0 (AObj.row (IV.bytes C))), (7, Ob.mk true 0 (AObj.row (IV.bools (sw S false (inE T I (-2147483649 : Int)))))), (8, Ob.mk true 0 (AObj.row (IV.bools (sw U false (inE T I (-2147483649 : Int))))))] 9 []))); okV T I X C L S U ∧ ((T.length : Int) ≤ 1000000 ∧ asc T ∧ (T.length : Int) ≤ 1000000 ∧ asc T ∧ E1) ∧ (((0 : Int) ≤ aft T (-2147483649 : Int) ∧ aft T (-2147483649 : Int) ≤ aft T (2147483647 : Int) ∧ aft T (2147483647 : Int) ≤ (T.length : Int) ∧ ((↑(List.take ((aft T (2147483647 : Int)).toNat - (aft T (-2147483649 : Int)).toNat) (List.drop (aft T (-2147483649 : Int)).toNat T)).length : Int) ≤ 1000000 ∧ (okT6 X ∧ (0 : Int) ≤ inE T I (-2147483649 : Int) ∧ ((C.length : Int) ≤ 1000000 ∧ ((S.length : Int) ≤ 1000000 ∧ (0 : Int) ≤ inE T I (-2147483649 : Int) ∧ ((U.length : Int) ≤ 1000000 ∧ (0 : Int) ≤ inE T I (-2147483649 : Int) ∧ E2 ∧ E2) ∧ (U.length : Int) ≤ 1000000 ∧ (0 : Int) ≤ inE T I (-2147483649 : Int) ∧ E2) ∧ (S.length : Int) ≤ 1000000 ∧ (0 : Int) ≤ inE T I (-2147483649 : Int) ∧ (U.length : Int) ≤ 1000000 ∧ (0 : Int) ≤ inE T I (-2147483649 : Int) ∧ E2) ∧ (C.length : Int) ≤ 1000000
 ∧ (S.length : Int) ≤ 1000000 ∧ (0 : Int) ≤ inE T I (-2147483649 : Int) ∧ (U.length : Int) ≤ 1000000 ∧ (0 : Int) ≤ inE T I (-2147483649 : Int) ∧ E2) ∧ okT6 X ∧ (0 : Int) ≤ inE T I (-2147483649 : Int) ∧ (C.length : Int) ≤ 1000000 ∧ (S.length : Int) ≤ 1000000 ∧ (0 : Int) ≤ inE T I (-2147483649 : Int) ∧ (U.length : Int) ≤ 1000000 ∧ (0 : Int) ≤ inE T I (-2147483649 : Int) ∧ E2) ∧ (↑(List.take ((aft T (2147483647 : Int)).toNat - (aft T (-2147483649 : Int)).toNat) (List.drop (aft T (-2147483649 : Int)).toNat T)).length : Int) ≤ 1000000 ∧ okT6 X ∧ (0 : Int) ≤ inE T I (-2147483649 : Int) ∧ (C.length : Int) ≤ 1000000 ∧ (S.length : Int) ≤ 1000000 ∧ (0 : Int) ≤ inE T I (-2147483649 : Int) ∧ (U.length : Int) ≤ 1000000 ∧ (0 : Int) ≤ inE T I (-2147483649 : Int) ∧ E2) ∧ (0 : Int) ≤ aft T (-2147483649 : Int) ∧ aft T (-2147483649 : Int) ≤ aft T (2147483647 : Int) ∧ aft T (2147483647 : Int) ≤ (T.length : Int) ∧ (↑(List.take ((aft T (2147483647 : Int)).toNat - (aft T (-2147483649 : Int)).toNat) (List.drop (aft T (-2147483649 : Int)).toNat T)).length : Int) ≤ 1000000 ∧ okT6 X ∧ (0 : Int) ≤ inE T I (-2147483649 : Int) ∧ (C.length : Int) ≤ 1000000 ∧ (S.length : Int) ≤ 1000000 ∧ (0 : Int) ≤ inE T I
 (-2147483649 : Int) ∧ (U.length : Int) ≤ 1000000 ∧ (0 : Int) ≤ inE T I (-2147483649 : Int) ∧ E2) ∧ (0 : Int) ≤ aft T (-2147483649 : Int) ∧ aft T (-2147483649 : Int) ≤ aft T (2147483647 : Int) ∧ aft T (2147483647 : Int) ≤ (I.length : Int) ∧ LoopI VW (bodyOf Tryd.f120) 0 (St.mk (lapp [.agg (blk6 T I X C L S U), .ptr 0 0, .ptr 1 0, .ptr 2 0, i64 (aft T (-2147483649 : Int)), i64 (aft T (2147483647 : Int)), AV.fn 124 [] [.ptr 2 0], .ptr 3 0] (lapp (dN 4) (lapp [.agg (blk6 T I X C L S U), i64 (inE T I (-2147483649 : Int)), .ptr 0 0, .imm (.ints IntKind.i64 T), i64 (aft T (-2147483649 : Int)), .ptr 0 0, .imm (.ints IntKind.i64 T), i64 (aft T (2147483647 : Int)), AV.fn 124 [] [.ptr 2 0], .ptr 0 0, .imm (.ints IntKind.i64 T), i64 (aft T (-2147483649 : Int)), i64 (aft T (2147483647 : Int)), .imm (.ints IntKind.i64 (List.take ((aft T (2147483647 : Int)).toNat - (aft T (-2147483649 : Int)).toNat) (List.drop (aft T (-2147483649 : Int)).toNat T))), AV.row 4 0, .ptr 0 2, .imm (.sl 3 X), i64 (inE T I (-2147483649 : Int)), AV.row 5 0, .ptr 0 3, by' C, AV.row 6 0, .ptr 0 5, .imm (.bools S), i64 (inE T I (-2147483649 : Int)), AV.row 7 0, .ptr 0 6, .imm (.bools U), i64 (inE T I (-2147483649 : Int)),
 AV.row 8 0, .agg [AV.row 4 0, .imm nS, AV.row 5 0, AV.row 6 0, .imm nS, AV.row 7 0, AV.row 8 0], .ptr 0 1, by' I, i64 (aft T (-2147483649 : Int)), i64 (aft T (2147483647 : Int)), by' (List.take ((aft T (2147483647 : Int)).toNat - (aft T (-2147483649 : Int)).toNat) (List.drop (aft T (-2147483649 : Int)).toNat I)), i64 (↑(List.take ((aft T (2147483647 : Int)).toNat - (aft T (-2147483649 : Int)).toNat) (List.drop (aft T (-2147483649 : Int)).toNat I)).length : Int), i64 0] (dN 30)))) [(0, Ob.mk true 0 (AObj.cells (blk6 T I X C L S U))), (1, Ob.mk true 0 (AObj.cells [.imm nS, .imm nS, .imm nS, .imm nS, .imm nS, .imm nS, .imm nS])), (2, Ob.mk true 0 (AObj.cells [i64 (inE T I (-2147483649 : Int))])), (3, Ob.mk true 0 (AObj.cells [AV.row 4 0, .imm nS, AV.row 5 0, AV.row 6 0, .imm nS, AV.row 7 0, AV.row 8 0])), (4, Ob.mk true 0 (AObj.row (IV.ints IntKind.i64 (List.take ((aft T (2147483647 : Int)).toNat - (aft T (-2147483649 : Int)).toNat) (List.drop (aft T (-2147483649 : Int)).toNat T))))), (5, Ob.mk true 0 (AObj.row (IV.sl 3 (sw X [] (inE T I (-2147483649 : Int)))))), (6, Ob.mk true 0 (AObj.row (IV.bytes C))), (7, Ob.mk true 0 (AObj.row (IV.bools (sw S false (inE T I (-2147483649 :
 Int)))))), (8, Ob.mk true 0 (AObj.row (IV.bools (sw U false (inE T I (-2147483649 : Int))))))] 9 []) (finK VW Tryd.f120 K)) := by kernel_rfl
theorem g120_lp (T : List Int) (I : List UInt8) (X : List (List IV)) (C : List UInt8) (L : List (List IV)) (S : List Bool) (U : List Bool) (kk : Int) (Tv : List Int) (Xv : List (List IV)) (Cv : List UInt8) (Sv : List Bool) (Uv : List Bool) (J : List UInt8) (acc : List UInt8) (n : Int) (i : Int) (k : AX → St → Prop) (jj : Int) (hjj : jj = (↑(UInt8.toNat (List.getD J i.toNat (0 : UInt8))) : Int)) : evCode VW (loopB (bodyOf Tryd.f120) 0) (k120a (blk6 T I X C L S U) kk Tv Xv Cv Sv Uv J acc n i) k = (let A1 : Prop := ((k AX.normal (St.mk (lapp [.dead, .ptr 0 0, .ptr 1 0, .ptr 2 0, .dead, .dead, AV.fn 124 [] [.ptr 2 0], .ptr 3 0, .dead, .imm (.int .u8 jj)] (lapp (dN 37) (lapp [by' J, i64 n, i64 (IntKind.wrap .i64 (i + 1)), bo (decide (i < n)), AV.elv [IV.int .u8 jj], .imm (.int .u8 jj), .ptr 3 1, .dead, AV.fn 124 [] [.ptr 2 0], .imm (.int .u8 jj), .imm (.int .u8 (IntKind.wrap IntKind.u8 kk)), .full (IV.bytes (List.map u8 [IntKind.wrap IntKind.u8 kk])), AV.row 4 0, .ptr 3 1, i64 (IntKind.wrap .i64 (i + 1))] (dN 18)))) [(0, Ob.mk true 0 (AObj.cells (blk6 T I X C L S U))), (1, Ob.mk true 0 (AObj.cells [.imm nS, .imm nS, .imm nS, .imm nS, .imm nS, .imm nS, .imm nS])), (2, Ob.mk true 0
 (AObj.cells [i64 kk])), (3, Ob.mk true 0 (AObj.cells [AV.row 5 0, AV.row 4 0, AV.row 6 0, AV.row 7 0, .imm nS, AV.row 8 0, AV.row 9 0])), (4, Ob.mk true 0 (AObj.row (IV.bytes (acc ++ List.map u8 [IntKind.wrap IntKind.u8 kk])))), (5, Ob.mk true 0 (AObj.row (IV.ints IntKind.i64 Tv))), (6, Ob.mk true 0 (AObj.row (IV.sl 3 Xv))), (7, Ob.mk true 0 (AObj.row (IV.bytes Cv))), (8, Ob.mk true 0 (AObj.row (IV.bools Sv))), (9, Ob.mk true 0 (AObj.row (IV.bools Uv)))] 10 []))); let A8 : Prop := ((k AX.normal (St.mk (lapp [.dead, .ptr 0 0, .ptr 1 0, .ptr 2 0, .dead, .dead, AV.fn 124 [] [.ptr 2 0], .ptr 3 0, .dead, .imm (.int .u8 jj)] (lapp (dN 37) (lapp [by' J, i64 n, i64 (IntKind.wrap .i64 (i + 1)), bo (decide (i < n)), AV.elv [IV.int .u8 jj], .imm (.int .u8 jj), .ptr 3 1, .dead, AV.fn 124 [] [.ptr 2 0], .imm (.int .u8 jj), .imm (.int .u8 0), .full (IV.bytes (List.map u8 [(0 : Int)])), AV.row 4 0, .ptr 3 1, i64 (IntKind.wrap .i64 (i + 1))] (dN 18)))) [(0, Ob.mk true 0 (AObj.cells (blk6 T I X C L S U))), (1, Ob.mk true 0 (AObj.cells [.imm nS, .imm nS, .imm nS, .imm nS, .imm nS, .imm nS, .imm nS])), (2, Ob.mk true 0 (AObj.cells [i64 kk])), (3, Ob.mk true 0 (AObj.cells [AV.row 5 0, AV.row 4 0,
 AV.row 6 0, AV.row 7 0, .imm nS, AV.row 8 0, AV.row 9 0])), (4, Ob.mk true 0 (AObj.row (IV.bytes (acc ++ List.map u8 [(0 : Int)])))), (5, Ob.mk true 0 (AObj.row (IV.ints IntKind.i64 Tv))), (6, Ob.mk true 0 (AObj.row (IV.sl 3 Xv))), (7, Ob.mk true 0 (AObj.row (IV.bytes Cv))), (8, Ob.mk true 0 (AObj.row (IV.bools Sv))), (9, Ob.mk true 0 (AObj.row (IV.bools Uv)))] 10 []))); let A15 : Prop := ((k AX.normal (St.mk (lapp [.dead, .ptr 0 0, .ptr 1 0, .ptr 2 0, .dead, .dead, AV.fn 124 [] [.ptr 2 0], .ptr 3 0, .dead, .imm (.int .u8 jj)] (lapp (dN 37) (lapp [by' J, i64 n, i64 (IntKind.wrap .i64 (i + 1)), bo (decide (i < n)), AV.elv [IV.int .u8 jj], .imm (.int .u8 jj), .ptr 3 1, .dead, AV.fn 124 [] [.ptr 2 0], .imm (.int .u8 jj), .imm (.int .u8 jj), .full (IV.bytes (List.map u8 [jj])), AV.row 4 0, .ptr 3 1, i64 (IntKind.wrap .i64 (i + 1))] (dN 18)))) [(0, Ob.mk true 0 (AObj.cells (blk6 T I X C L S U))), (1, Ob.mk true 0 (AObj.cells [.imm nS, .imm nS, .imm nS, .imm nS, .imm nS, .imm nS, .imm nS])), (2, Ob.mk true 0 (AObj.cells [i64 kk])), (3, Ob.mk true 0 (AObj.cells [AV.row 5 0, AV.row 4 0, AV.row 6 0, AV.row 7 0, .imm nS, AV.row 8 0, AV.row 9 0])), (4, Ob.mk true 0 (AObj.row (IV.bytes (acc ++
 List.map u8 [jj])))), (5, Ob.mk true 0 (AObj.row (IV.ints IntKind.i64 Tv))), (6, Ob.mk true 0 (AObj.row (IV.sl 3 Xv))), (7, Ob.mk true 0 (AObj.row (IV.bytes Cv))), (8, Ob.mk true 0 (AObj.row (IV.bools Sv))), (9, Ob.mk true 0 (AObj.row (IV.bools Uv)))] 10 []))); let A30 : Prop := (((List.length acc + (List.map u8 [IntKind.wrap IntKind.u8 kk]).length) * 1 ≤ 140737488355328 ∧ List.length acc + (List.map u8 [IntKind.wrap IntKind.u8 kk]).length ≤ 140737488355328 ∧ A1)); let A38 : Prop := (((List.length acc + (List.map u8 [(0 : Int)]).length) * 1 ≤ 140737488355328 ∧ List.length acc + (List.map u8 [(0 : Int)]).length ≤ 140737488355328 ∧ A8)); let A46 : Prop := (((List.length acc + (List.map u8 [jj]).length) * 1 ≤ 140737488355328 ∧ List.length acc + (List.map u8 [jj]).length ≤ 140737488355328 ∧ A15)); brn (decide (i < n)) ((0 : Int) ≤ i ∧ i < (J.length : Int) ∧ brn (IntKind.wrap .i64 jj == 0) ((List.length acc + (List.map u8 [IntKind.wrap IntKind.u8 kk]).length) * 1 ≤ 140737488355328 ∧ List.length acc + (List.map u8 [IntKind.wrap IntKind.u8 kk]).length ≤ 140737488355328 ∧ A1) (brn (IntKind.wrap .i64 jj == kk) ((List.length acc + (List.map u8 [(0 : Int)]).length) * 1 ≤ 140737488355328 ∧
 List.length acc + (List.map u8 [(0 : Int)]).length ≤ 140737488355328 ∧ A8) ((List.length acc + (List.map u8 [jj]).length) * 1 ≤ 140737488355328 ∧ List.length acc + (List.map u8 [jj]).length ≤ 140737488355328 ∧ A15)) ∧ brn (IntKind.wrap .i64 jj == 0) (A30 ∧ A30) (brn (IntKind.wrap .i64 jj == kk) (A38 ∧ A38) (A46 ∧ A46))) (k (AX.exit 0) (St.mk (lapp [.dead, .ptr 0 0, .ptr 1 0, .ptr 2 0, .dead, .dead, AV.fn 124 [] [.ptr 2 0], .ptr 3 0] (lapp (dN 39) (lapp [by' J, i64 n, i64 i, bo (decide (i < n))] (dN 29)))) [(0, Ob.mk true 0 (AObj.cells (blk6 T I X C L S U))), (1, Ob.mk true 0 (AObj.cells [.imm nS, .imm nS, .imm nS, .imm nS, .imm nS, .imm nS, .imm nS])), (2, Ob.mk true 0 (AObj.cells [i64 kk])), (3, Ob.mk true 0 (AObj.cells [AV.row 4 0, AV.row 5 0, AV.row 6 0, AV.row 7 0, .imm nS, AV.row 8 0, AV.row 9 0])), (4, Ob.mk true 0 (AObj.row (IV.ints IntKind.i64 Tv))), (5, Ob.mk true 0 (AObj.row (IV.bytes acc))), (6, Ob.mk true 0 (AObj.row (IV.sl 3 Xv))), (7, Ob.mk true 0 (AObj.row (IV.bytes Cv))), (8, Ob.mk true 0 (AObj.row (IV.bools Sv))), (9, Ob.mk true 0 (AObj.row (IV.bools Uv)))] 10 []))) := by subst hjj; kernel_rfl
theorem g120_lp2 (Tv : List Int) (Iv : List UInt8) (Xv : List (List IV)) (C : List UInt8) (Sv : List Bool) (Uv : List Bool) (L : List (List IV)) (acc : List (List IV)) (n : Int) (i : Int) (k : AX → St → Prop) : evCode VW (loopB (bodyOf Tryd.f120) 1) (k120b Tv Iv Xv C Sv Uv L acc n i) k = (brn (decide (i < n)) ((0 : Int) ≤ i ∧ i < (L.length : Int) ∧ kcells (List.getD L i.toNat []) 0 (lapp [CK.int IntKind.i64] (lapp [CK.int IntKind.i32] [])) = List.getD L i.toNat [] ∧ brn (decide (ivInt (ivNth (List.getD L i.toNat []) 0) < 2147483648)) ((List.length acc + List.length [[IV.int .i64 (ivInt (ivNth (List.getD L i.toNat []) 0)), IV.int IntKind.i32 (ivInt (ivNth (List.getD L i.toNat []) (0 + 1)))]]) * 16 ≤ 140737488355328 ∧ List.length acc + List.length [[IV.int .i64 (ivInt (ivNth (List.getD L i.toNat []) 0)), IV.int IntKind.i32 (ivInt (ivNth (List.getD L i.toNat []) (0 + 1)))]] ≤ 140737488355328 ∧ k AX.normal (St.mk (lapp [.dead, .dead, .ptr 0 0] (lapp (dN 4) (lapp [.ptr 1 0, .dead, .dead, .dead, .ptr 2 0] (lapp (dN 51) [.imm (.sl 2 L), i64 n, i64 (IntKind.wrap .i64 (i + 1)), bo (decide (i < n)), AV.elv [IV.int .i64 (ivInt (ivNth (List.getD L i.toNat []) 0)), IV.int IntKind.i32 (ivInt
 (ivNth (List.getD L i.toNat []) (0 + 1)))], .agg [i64 (ivInt (ivNth (List.getD L i.toNat []) 0)), .imm (.int IntKind.i32 (ivInt (ivNth (List.getD L i.toNat []) (0 + 1))))], .ptr 2 0, i64 (ivInt (ivNth (List.getD L i.toNat []) 0)), bo (decide (ivInt (ivNth (List.getD L i.toNat []) 0) < 2147483648)), .ptr 1 4, .dead, .agg [i64 (ivInt (ivNth (List.getD L i.toNat []) 0)), .imm (.int IntKind.i32 (ivInt (ivNth (List.getD L i.toNat []) (0 + 1))))], .full (IV.sl 2 [[IV.int .i64 (ivInt (ivNth (List.getD L i.toNat []) 0)), IV.int IntKind.i32 (ivInt (ivNth (List.getD L i.toNat []) (0 + 1)))]]), AV.row 3 0, .ptr 1 4, i64 (IntKind.wrap .i64 (i + 1)), .dead])))) [(0, Ob.mk true 0 (AObj.cells [.imm nS, .imm nS, .imm nS, .imm nS, .imm nS, .imm nS, .imm nS])), (1, Ob.mk true 0 (AObj.cells [AV.row 4 0, AV.row 5 0, AV.row 6 0, AV.row 7 0, AV.row 3 0, AV.row 8 0, AV.row 9 0])), (2, Ob.mk true 0 (AObj.cells [i64 (ivInt (ivNth (List.getD L i.toNat []) 0)), .imm (.int IntKind.i32 (ivInt (ivNth (List.getD L i.toNat []) (0 + 1))))])), (3, Ob.mk true 0 (AObj.row (IV.sl 2 (acc ++ [[IV.int .i64 (ivInt (ivNth (List.getD L i.toNat []) 0)), IV.int IntKind.i32 (ivInt (ivNth (List.getD L i.toNat []) (0 +
 1)))]])))), (4, Ob.mk true 0 (AObj.row (IV.ints IntKind.i64 Tv))), (5, Ob.mk true 0 (AObj.row (IV.bytes Iv))), (6, Ob.mk true 0 (AObj.row (IV.sl 3 Xv))), (7, Ob.mk true 0 (AObj.row (IV.bytes C))), (8, Ob.mk true 0 (AObj.row (IV.bools Sv))), (9, Ob.mk true 0 (AObj.row (IV.bools Uv)))] 10 [])) (k AX.normal (St.mk (lapp [.dead, .dead, .ptr 0 0] (lapp (dN 4) (lapp [.ptr 1 0, .dead, .dead, .dead, .ptr 2 0] (lapp (dN 51) (lapp [.imm (.sl 2 L), i64 n, i64 (IntKind.wrap .i64 (i + 1)), bo (decide (i < n)), AV.elv [IV.int .i64 (ivInt (ivNth (List.getD L i.toNat []) 0)), IV.int IntKind.i32 (ivInt (ivNth (List.getD L i.toNat []) (0 + 1)))], .agg [i64 (ivInt (ivNth (List.getD L i.toNat []) 0)), .imm (.int IntKind.i32 (ivInt (ivNth (List.getD L i.toNat []) (0 + 1))))], .ptr 2 0, i64 (ivInt (ivNth (List.getD L i.toNat []) 0)), bo (decide (ivInt (ivNth (List.getD L i.toNat []) 0) < 2147483648))] (lapp (dN 6) [i64 (IntKind.wrap .i64 (i + 1)), .dead])))))) [(0, Ob.mk true 0 (AObj.cells [.imm nS, .imm nS, .imm nS, .imm nS, .imm nS, .imm nS, .imm nS])), (1, Ob.mk true 0 (AObj.cells [AV.row 3 0, AV.row 4 0, AV.row 5 0, AV.row 6 0, AV.row 7 0, AV.row 8 0, AV.row 9 0])), (2, Ob.mk true 0 (AObj.cells [i64
 (ivInt (ivNth (List.getD L i.toNat []) 0)), .imm (.int IntKind.i32 (ivInt (ivNth (List.getD L i.toNat []) (0 + 1))))])), (3, Ob.mk true 0 (AObj.row (IV.ints IntKind.i64 Tv))), (4, Ob.mk true 0 (AObj.row (IV.bytes Iv))), (5, Ob.mk true 0 (AObj.row (IV.sl 3 Xv))), (6, Ob.mk true 0 (AObj.row (IV.bytes C))), (7, Ob.mk true 0 (AObj.row (IV.sl 2 acc))), (8, Ob.mk true 0 (AObj.row (IV.bools Sv))), (9, Ob.mk true 0 (AObj.row (IV.bools Uv)))] 10 []))) (k (AX.exit 2) (St.mk (lapp [.dead, .dead, .ptr 0 0] (lapp (dN 4) (lapp [.ptr 1 0] (lapp (dN 55) (lapp [.imm (.sl 2 L), i64 n, i64 i, bo (decide (i < n))] (dN 13)))))) [(0, Ob.mk true 0 (AObj.cells [.imm nS, .imm nS, .imm nS, .imm nS, .imm nS, .imm nS, .imm nS])), (1, Ob.mk true 0 (AObj.cells [AV.row 2 0, AV.row 3 0, AV.row 4 0, AV.row 5 0, AV.row 6 0, AV.row 7 0, AV.row 8 0])), (2, Ob.mk true 0 (AObj.row (IV.ints IntKind.i64 Tv))), (3, Ob.mk true 0 (AObj.row (IV.bytes Iv))), (4, Ob.mk true 0 (AObj.row (IV.sl 3 Xv))), (5, Ob.mk true 0 (AObj.row (IV.bytes C))), (6, Ob.mk true 0 (AObj.row (IV.sl 2 acc))), (7, Ob.mk true 0 (AObj.row (IV.bools Sv))), (8, Ob.mk true 0 (AObj.row (IV.bools Uv)))] 9 []))) := by kernel_rfl
theorem g120_out (T : List Int) (I : List UInt8) (X : List (List IV)) (C : List UInt8) (L : List (List IV)) (S : List Bool) (U : List Bool) (kk : Int) (Tv : List Int) (Xv : List (List IV)) (Cv : List UInt8) (Sv : List Bool) (Uv : List Bool) (J : List UInt8) (acc : List UInt8) (n : Int) (i : Int) (K : List AV → Prop) : loopK VW (bodyOf Tryd.f120) 0 (finK VW Tryd.f120 K) (AX.exit 0) (St.mk (let y := let y := let y := let y := (dN 5); AV.dead :: AV.dead :: AV.dead :: AV.dead :: AV.dead :: y; let y := AV.dead :: AV.dead :: AV.dead :: AV.dead :: AV.dead :: y; AV.dead :: AV.dead :: AV.dead :: AV.dead :: AV.dead :: y; let y := let y := AV.dead :: AV.dead :: AV.dead :: AV.dead :: AV.dead :: y; bo (decide (i < n)) :: AV.dead :: AV.dead :: AV.dead :: AV.dead :: y; let y := AV.dead :: AV.dead :: by' J :: i64 n :: i64 i :: y; AV.dead :: AV.dead :: AV.dead :: AV.dead :: AV.dead :: y; let y := let y := let y := AV.dead :: AV.dead :: AV.dead :: AV.dead :: AV.dead :: y; AV.dead :: AV.dead :: AV.dead :: AV.dead :: AV.dead :: y; let y := AV.dead :: AV.dead :: AV.dead :: AV.dead :: AV.dead :: y; AV.dead :: AV.dead :: AV.dead :: AV.dead :: AV.dead :: y; let y := let y := AV.dead :: AV.dead :: AV.dead :: AV.dead :: AV.dead :: y; AV.dead :: AV.dead :: AV.dead :: AV.dead :: AV.dead :: y; let y := AV.dead :: AV.fn 124 [] [.ptr 2 0] :: AV.ptr 3 0 :: AV.dead :: AV.dead :: y; AV.dead :: AV.ptr 0 0 :: AV.ptr 1 0 :: AV.ptr 2 0 :: AV.dead :: y) [(0, Ob.mk true 0 (AObj.cells (blk6 T I X C L S U))), (1, Ob.mk true 0 (AObj.cells [.imm nS, .imm nS, .imm nS, .imm nS, .imm nS, .imm nS, .imm nS])), (2, Ob.mk true 0 (AObj.cells [i64 kk])), (3, Ob.mk true 0 (AObj.cells [AV.row 4 0, AV.row 5 0, AV.row 6 0, AV.row 7 0, .imm nS, AV.row 8 0, AV.row 9 0])), (4, Ob.mk true 0 (AObj.row (IV.ints IntKind.i64 Tv))), (5, Ob.mk true 0 (AObj.row (IV.bytes acc))), (6, Ob.mk true 0 (AObj.row (IV.sl 3 Xv))), (7, Ob.mk true 0 (AObj.row (IV.bytes Cv))), (8, Ob.mk true 0 (AObj.row (IV.bools Sv))), (9, Ob.mk true 0 (AObj.row (IV.bools Uv)))] 10 []) = (LoopI VW (bodyOf Tryd.f120) 1 (St.mk (lapp [.dead, .ptr 0 0, .ptr 1 0, .ptr 2 0, .dead, .dead, AV.fn 124 [] [.ptr 2 0], .ptr 3 0] (lapp (dN 39) (lapp [by' J, i64 n, i64 i, bo (decide (i < n))] (lapp (dN 11) (lapp [.ptr 0 4, .imm (.sl 2 L), i64 (L.length : Int), i64 0] (dN 14)))))) [(0, Ob.mk true 0 (AObj.cells (blk6 T I X C L S U))), (1, Ob.mk true 0 (AObj.cells [.imm nS, .imm nS, .imm nS, .imm nS, .imm nS, .imm nS, .imm nS])), (2, Ob.mk true 0 (AObj.cells [i64 kk])), (3, Ob.mk true 0 (AObj.cells [AV.row 4 0, AV.row 5 0, AV.row 6 0, AV.row 7 0, .imm nS, AV.row 8 0, AV.row 9 0])), (4, Ob.mk true 0 (AObj.row (IV.ints IntKind.i64 Tv))), (5, Ob.mk true 0 (AObj.row (IV.bytes acc))), (6, Ob.mk true 0 (AObj.row (IV.sl 3 Xv))), (7, Ob.mk true 0 (AObj.row (IV.bytes Cv))), (8, Ob.mk true 0 (AObj.row (IV.bools Sv))), (9, Ob.mk true 0 (AObj.row (IV.bools Uv)))] 10 []) (finK VW Tryd.f120 K)) := by kernel_rfl
theorem g120_out2 (Tv : List Int) (Iv : List UInt8) (Xv : List (List IV)) (C : List UInt8) (Sv : List Bool) (Uv : List Bool) (L : List (List IV)) (acc : List (List IV)) (n : Int) (i : Int) (K : List AV → Prop) : loopK VW (bodyOf Tryd.f120) 1 (finK VW Tryd.f120 K) (AX.exit 2) (St.mk (let y := let y := let y := let y := (dN 5); AV.dead :: AV.dead :: AV.dead :: AV.dead :: AV.dead :: y; let y := i64 i :: bo (decide (i < n)) :: AV.dead :: AV.dead :: AV.dead :: y; AV.dead :: AV.dead :: AV.dead :: AV.imm (.sl 2 L) :: i64 n :: y; let y := let y := AV.dead :: AV.dead :: AV.dead :: AV.dead :: AV.dead :: y; AV.dead :: AV.dead :: AV.dead :: AV.dead :: AV.dead :: y; let y := AV.dead :: AV.dead :: AV.dead :: AV.dead :: AV.dead :: y; AV.dead :: AV.dead :: AV.dead :: AV.dead :: AV.dead :: y; let y := let y := let y := AV.dead :: AV.dead :: AV.dead :: AV.dead :: AV.dead :: y; AV.dead :: AV.dead :: AV.dead :: AV.dead :: AV.dead :: y; let y := AV.dead :: AV.dead :: AV.dead :: AV.dead :: AV.dead :: y; AV.dead :: AV.dead :: AV.dead :: AV.dead :: AV.dead :: y; let y := let y := AV.dead :: AV.dead :: AV.dead :: AV.dead :: AV.dead :: y; AV.dead :: AV.dead :: AV.dead :: AV.dead :: AV.dead :: y; let y := AV.dead :: AV.dead :: AV.ptr 1 0 :: AV.dead :: AV.dead :: y; AV.dead :: AV.dead :: AV.ptr 0 0 :: AV.dead :: AV.dead :: y) [(0, Ob.mk true 0 (AObj.cells [.imm nS, .imm nS, .imm nS, .imm nS, .imm nS, .imm nS, .imm nS])), (1, Ob.mk true 0 (AObj.cells [AV.row 2 0, AV.row 3 0, AV.row 4 0, AV.row 5 0, AV.row 6 0, AV.row 7 0, AV.row 8 0])), (2, Ob.mk true 0 (AObj.row (IV.ints IntKind.i64 Tv))), (3, Ob.mk true 0 (AObj.row (IV.bytes Iv))), (4, Ob.mk true 0 (AObj.row (IV.sl 3 Xv))), (5, Ob.mk true 0 (AObj.row (IV.bytes C))), (6, Ob.mk true 0 (AObj.row (IV.sl 2 acc))), (7, Ob.mk true 0 (AObj.row (IV.bools Sv))), (8, Ob.mk true 0 (AObj.row (IV.bools Uv)))] 9 []) = (K [.agg [AV.new (IV.ints IntKind.i64 Tv), AV.new (IV.bytes Iv), AV.new (IV.sl 3 Xv), AV.new (IV.bytes C), AV.new (IV.sl 2 acc), AV.new (IV.bools Sv), AV.new (IV.bools Uv)]]) := by kernel_rfl
end Q6
namespace Q6
open Go Go.AE Go.Proofs
def renB (kk : Int) (c : UInt8) : UInt8 := if IntKind.wrap .i64 (c.toNat : Int) == 0 then u8 (IntKind.wrap .u8 kk) else if IntKind.wrap .i64 (c.toNat : Int) == kk then u8 0 else u8 (c.toNat : Int)
def lowL : Int := -2147483649
def highL : Int := 2147483647
def vT (T : List Int) : List Int := List.take (Int.toNat (aft T highL) - Int.toNat (aft T lowL)) (List.drop (Int.toNat (aft T lowL)) T)
def vJ (T : List Int) (I : List UInt8) : List UInt8 := List.take (Int.toNat (aft T highL) - Int.toNat (aft T lowL)) (List.drop (Int.toNat (aft T lowL)) I)
def vK (T : List Int) (I : List UInt8) : Int := inE T I lowL
def isLow (el : List IV) : Bool := decide (ivInt (ivNth el 0) < 2147483648)
def sView : List AV → Option (List Prop × List AV)
  | [.agg [.imm (.ints .i64 T), .imm (.bytes I), .imm (.sl 3 X), .imm (.bytes C), .imm (.sl 2 L), .imm (.bools S), .imm (.bools U)]] => some ([okV T I X C L S U],
      [.agg [.new (.ints .i64 (vT T)), .new (.bytes ((vJ T I).map (renB (vK T I)))), .new (.sl 3 (sw X [] (vK T I))), .new (.bytes C), .new (.sl 2 (L.filter isLow)), .new (.bools (sw S false (vK T I))), .new (.bools (sw U false (vK T I)))]])
  | _ => none
noncomputable def H9 := addE H8 120 sView
end Q6
set_option maxRecDepth 100000
namespace Q6
open Go Go.AE Go.Proofs PE PF
attribute [local irreducible] loopK evCode evSpec loopB norm
theorem aft0 (T : List Int) (t : Int) : 0 ≤ aft T t := by unfold aft; omega
theorem aft_le (T : List Int) (t : Int) : aft T t ≤ (T.length : Int) := by
  unfold aft
  have := (List.takeWhile_prefix (fun x => decide (x ≤ t)) (l := T)).length_le
  omega
theorem aft_mono (T : List Int) {s t : Int} (h : s ≤ t) : aft T s ≤ aft T t := by
  unfold aft
  induction T with
  | nil => simp
  | cons x T ih =>
    simp only [List.takeWhile_cons]
    by_cases hx : x ≤ s
    · have : x ≤ t := by omega
      simp [hx, this] at ih ⊢
      omega
    · by_cases hy : x ≤ t
      · simp [hx, hy]; omega
      · simp [hx, hy]
theorem inE0 (T : List Int) (I : List UInt8) (t : Int) : 0 ≤ inE T I t ∧ inE T I t ≤ 255 := by
  unfold inE
  cases aft T t == 0 with
  | true => exact ⟨Int.le_refl 0, (by decide : (0 : Int) ≤ 255)⟩
  | false =>
    have := (I.getD (aft T t - 1).toNat 0).toNat_lt
    show 0 ≤ ((I.getD (aft T t - 1).toNat 0).toNat : Int) ∧ ((I.getD (aft T t - 1).toNat 0).toNat : Int) ≤ 255
    omega
theorem wrapB6 (c : UInt8) : IntKind.wrap .i64 (c.toNat : Int) = (c.toNat : Int) := by
  have := c.toNat_lt
  exact wrap64 (by omega) (by omega)
theorem ok122 : ∀ args pres res, sInE args = some (pres, res) → SpecOK Tryd.prog G6 122 args pres res := by
  intro args pres res h
  unfold sInE at h
  split at h
  case h_2 => cases h
  cases h
  rename_i T I X C L S U t
  refine spec_ok (C := V122) okH7 noCall_ok Tryd.func122 (by kernel_rfl) (by kernel_rfl) (fun hp => ?_)
  have hV : okV T I X C L S U := hp (okV T I X C L S U) (by simp)
  have hl := hV.t
  have a0 := aft0 T t
  have a1 := aft_le T t
  have hi := hV.i
  refine Eq.mpr (g122_in T I X C L S U t _) ⟨hl, hV.a, brn_intro (fun h => ?_) (fun h => ?_)⟩
  · have : inE T I t = 0 := by unfold inE; rw [h]; first | done | rfl
    rw [this]; first | done | rfl
  · have hn : aft T t ≠ 0 := fun e => by rw [e] at h; exact absurd h (by decide)
    have e0 : IntKind.wrap .i64 (aft T t - 1) = aft T t - 1 := wrap64 (by omega) (by omega)
    rw [e0, wrapB6]
    have : inE T I t = ((I.getD (aft T t - 1).toNat 0).toNat : Int) := by unfold inE; rw [h]; first | done | rfl
    rw [this]
    exact ⟨by omega, by omega, rfl⟩
theorem okH8 : EOK Tryd.prog H8 G6 := addE_ok okH7 ok122
theorem I8_ok : ∀ f fn, I8 f = some fn → Tryd.prog.funcs[f]? = some fn ∧ (fn.name == "runtime.NumGoroutine") = false := by
  intro f fn h
  unfold I8 at h
  cases h1 : Nat.beq f 124 with
  | true => rw [h1, cond_true] at h; cases h; obtain rfl := nbeq h1; exact ⟨Tryd.func124, by kernel_rfl⟩
  | false => rw [h1, cond_false] at h; cases h
theorem take_s {α : Type} {l : List α} {i : Nat} (h : i < l.length) (d : α) : l.take (i + 1) = l.take i ++ [l.getD i d] := by
  rw [List.take_succ, List.getD_eq_getElem?_getD, List.getElem?_eq_getElem h]; first | done | rfl
theorem b64 {n m : Nat} (h : n ≤ 1000000) (hm : m ≤ 100) : (n + 1) * m ≤ 140737488355328 := by
  have : (n + 1) * m ≤ 1000001 * 100 := Nat.mul_le_mul (by omega) hm
  omega
theorem lp2_det (Tv : List Int) (Iv : List UInt8) (Xv : List (List IV)) (C : List UInt8) (Sv Uv : List Bool) (L : List (List IV)) (hX : okX L) :
    ∀ K : List AV → Prop, K [.agg [.new (.ints .i64 Tv), .new (.bytes Iv), .new (.sl 3 Xv), .new (.bytes C), .new (.sl 2 (L.filter isLow)), .new (.bools Sv), .new (.bools Uv)]] → ∀ p st, norm p st = some (k120b Tv Iv Xv C Sv Uv L [] (L.length : Int) 0) → evCode VW (.loop (loopB (bodyOf Tryd.f120) 1)) st (loopK VW (bodyOf Tryd.f120) 1 (finK VW Tryd.f120 K)) := by
  have hl := hX.len
  refine Exists.elim (loop_det (C := VW) (c := loopB (bodyOf Tryd.f120) 1) (fun s : Nat × List (List IV) => k120b Tv Iv Xv C Sv Uv L s.2 (L.length : Int) (s.1 : Int)) (fun s => s.1 ≤ L.length ∧ s.2 = (L.take s.1).filter isLow) (fun s => L.length - s.1) (fun _ : Unit => True)
    (fun _ => [.agg [.new (.ints .i64 Tv), .new (.bytes Iv), .new (.sl 3 Xv), .new (.bytes C), .new (.sl 2 (L.filter isLow)), .new (.bools Sv), .new (.bools Uv)]])
    (fun K => loopK VW (bodyOf Tryd.f120) 1 (finK VW Tryd.f120 K)) rfl (fun s hs => ?_) (0, []) ⟨Nat.zero_le _, by simp⟩) (fun v hv => hv.2)
  obtain ⟨i, acc⟩ := s
  obtain ⟨i1, i2⟩ := hs
  have i1 : i ≤ L.length := i1
  have i2 : acc = (L.take i).filter isLow := i2
  have ha : acc.length ≤ i := by rw [i2]; exact Nat.le_trans (List.length_filter_le _ _) (by rw [List.length_take]; omega)
  have hw : IntKind.wrap .i64 ((i : Int) + 1) = ((i + 1 : Nat) : Int) := by rw [w1 (by omega) (by omega)]; first | done | rfl
  by_cases h : i < L.length
  · have hz : (i : Int) < (L.length : Int) := by omega
    have hk := hX.kc i (by omega) hz
    have e : List.getD L (Int.toNat (i : Int)) [] = L.getD i [] := by rw [Int.toNat_natCast]
    cases hx : decide (ivInt (ivNth (List.getD L (Int.toNat (i : Int)) []) 0) < 2147483648) with
    | true =>
      refine .inl ⟨(i + 1, acc ++ [kcells (List.getD L (Int.toNat (i : Int)) []) 0 (lapp [CK.int .i64] (lapp [CK.int .i32] []))]), ⟨[], msk [2, 7, 63, 64, 65] 0 80, [0, 1, 4, 5, 6, 7, 3, 8, 9]⟩, _, ⟨by show i + 1 ≤ L.length; omega, ?_⟩, by show L.length - (i + 1) < L.length - i; omega, ?_, fun K' hK' => by
        show evCode VW (loopB (bodyOf Tryd.f120) 1) (k120b Tv Iv Xv C Sv Uv L acc (L.length : Int) (i : Int)) K'
        rw [g120_lp2, hw]
        exact brn_T (decide_eq_true hz) ⟨by omega, hz, hk, brn_T hx ⟨b64 (by omega) (by decide), by show acc.length + 1 ≤ 140737488355328; omega, hK'⟩⟩⟩
      · show acc ++ [kcells (List.getD L (Int.toNat (i : Int)) []) 0 (lapp [CK.int .i64] (lapp [CK.int .i32] []))] = (L.take (i + 1)).filter isLow
        rw [hk, e, take_s h [], List.filter_append, i2]
        have : isLow (L.getD i []) = true := by rw [e] at hx; exact hx
        rw [show [L.getD i []].filter isLow = [L.getD i []] from by rw [List.filter_cons, this]; rfl]
      · kernel_rfl
    | false =>
      refine .inl ⟨(i + 1, acc), ⟨[], msk [2, 7, 63, 64, 65] 0 80, [0, 1, 3, 4, 5, 6, 7, 8, 9]⟩, _, ⟨by show i + 1 ≤ L.length; omega, ?_⟩, by show L.length - (i + 1) < L.length - i; omega, ?_, fun K' hK' => by
        show evCode VW (loopB (bodyOf Tryd.f120) 1) (k120b Tv Iv Xv C Sv Uv L acc (L.length : Int) (i : Int)) K'
        rw [g120_lp2, hw]
        exact brn_T (decide_eq_true hz) ⟨by omega, hz, hk, brn_Fa hx hK'⟩⟩
      · show acc = (L.take (i + 1)).filter isLow
        rw [take_s h [], List.filter_append, i2]
        have : isLow (L.getD i []) = false := by rw [e] at hx; exact hx
        rw [show [L.getD i []].filter isLow = [] from by rw [List.filter_cons, this]; rfl, List.append_nil]
      · kernel_rfl
  · have hz : ¬ (i : Int) < (L.length : Int) := by omega
    refine .inr ⟨.exit 2, _, by simp, fun K' hK' => by
      show evCode VW (loopB (bodyOf Tryd.f120) 1) (k120b Tv Iv Xv C Sv Uv L acc (L.length : Int) (i : Int)) K'
      rw [g120_lp2]
      exact brn_Fa (decide_eq_false hz) hK', (), trivial, fun K hK => ?_⟩
    have e : acc = L.filter isLow := by rw [i2, List.take_of_length_le (by omega)]
    rw [← e] at hK
    exact Eq.mp (by kernel_rfl) (Eq.mpr (g120_out2 Tv Iv Xv C Sv Uv L acc (L.length : Int) (i : Int) K) hK)
theorem lp1_det (T : List Int) (I : List UInt8) (X : List (List IV)) (C : List UInt8) (L : List (List IV)) (S U : List Bool) (kk : Int) (Tv : List Int) (Xv : List (List IV)) (Cv : List UInt8) (Sv Uv : List Bool) (J : List UInt8) (hJ : J.length ≤ 1000000) (hX : okX L) :
    ∀ K : List AV → Prop, K [.agg [.new (.ints .i64 Tv), .new (.bytes (J.map (renB kk))), .new (.sl 3 Xv), .new (.bytes Cv), .new (.sl 2 (L.filter isLow)), .new (.bools Sv), .new (.bools Uv)]] → ∀ p st, norm p st = some (k120a (blk6 T I X C L S U) kk Tv Xv Cv Sv Uv J [] (J.length : Int) 0) → evCode VW (.loop (loopB (bodyOf Tryd.f120) 0)) st (loopK VW (bodyOf Tryd.f120) 0 (finK VW Tryd.f120 K)) := by
  refine Exists.elim (loop_det (C := VW) (c := loopB (bodyOf Tryd.f120) 0) (fun s : Nat × List UInt8 => k120a (blk6 T I X C L S U) kk Tv Xv Cv Sv Uv J s.2 (J.length : Int) (s.1 : Int)) (fun s => s.1 ≤ J.length ∧ s.2 = (J.take s.1).map (renB kk)) (fun s => J.length - s.1) (fun _ : Unit => True)
    (fun _ => [.agg [.new (.ints .i64 Tv), .new (.bytes (J.map (renB kk))), .new (.sl 3 Xv), .new (.bytes Cv), .new (.sl 2 (L.filter isLow)), .new (.bools Sv), .new (.bools Uv)]])
    (fun K => loopK VW (bodyOf Tryd.f120) 0 (finK VW Tryd.f120 K)) rfl (fun s hs => ?_) (0, []) ⟨Nat.zero_le _, by simp⟩) (fun v hv => hv.2)
  obtain ⟨i, acc⟩ := s
  obtain ⟨i1, i2⟩ := hs
  have i1 : i ≤ J.length := i1
  have i2 : acc = (J.take i).map (renB kk) := i2
  have ha : acc.length ≤ i := by rw [i2, List.length_map, List.length_take]; omega
  have hw : IntKind.wrap .i64 ((i : Int) + 1) = ((i + 1 : Nat) : Int) := by rw [w1 (by omega) (by omega)]; first | done | rfl
  have b1 : (acc.length + 1) * 1 ≤ 140737488355328 := by omega
  have b2 : acc.length + 1 ≤ 140737488355328 := by omega
  by_cases h : i < J.length
  · have hz : (i : Int) < (J.length : Int) := by omega
    have i0 : (0 : Int) ≤ (i : Int) := by omega
    have e : List.getD J (Int.toNat (i : Int)) 0 = J.getD i 0 := by rw [Int.toNat_natCast]
    have next : ∀ c : UInt8, renB kk (J.getD i 0) = c → acc ++ [c] = (J.take (i + 1)).map (renB kk) := fun c hc => by
      rw [take_s h 0, List.map_append, i2]
      rw [show [J.getD i 0].map (renB kk) = [renB kk (J.getD i 0)] from rfl, hc]
    cases hx : (IntKind.wrap .i64 ((List.getD J (Int.toNat (i : Int)) 0).toNat : Int) == 0) with
    | true =>
      refine .inl ⟨(i + 1, acc ++ List.map u8 [IntKind.wrap .u8 kk]), ⟨[], msk [1, 2, 3, 6, 7, 47, 48, 49] 0 80, [0, 1, 2, 3, 5, 4, 6, 7, 8, 9]⟩, _, ⟨by show i + 1 ≤ J.length; omega, next _ ?_⟩, by show J.length - (i + 1) < J.length - i; omega, ?_, fun K' hK' => by
        show evCode VW (loopB (bodyOf Tryd.f120) 0) (k120a (blk6 T I X C L S U) kk Tv Xv Cv Sv Uv J acc (J.length : Int) (i : Int)) K'
        rw [g120_lp (hjj := rfl), hw]
        intro A1 A8 A15 A30 A38 A46
        have hA : A1 := hK'
        have h30 : A30 := ⟨b1, b2, hA⟩
        exact brn_T (decide_eq_true hz) ⟨i0, hz, brn_T hx ⟨b1, b2, hA⟩, brn_T hx ⟨h30, h30⟩⟩⟩
      · unfold renB
        rw [e] at hx
        rw [hx]
        first | done | rfl
      · kernel_rfl
    | false =>
      cases hy : (IntKind.wrap .i64 ((List.getD J (Int.toNat (i : Int)) 0).toNat : Int) == kk) with
      | true =>
        refine .inl ⟨(i + 1, acc ++ List.map u8 [0]), ⟨[], msk [1, 2, 3, 6, 7, 47, 48, 49] 0 80, [0, 1, 2, 3, 5, 4, 6, 7, 8, 9]⟩, _, ⟨by show i + 1 ≤ J.length; omega, next _ ?_⟩, by show J.length - (i + 1) < J.length - i; omega, ?_, fun K' hK' => by
          show evCode VW (loopB (bodyOf Tryd.f120) 0) (k120a (blk6 T I X C L S U) kk Tv Xv Cv Sv Uv J acc (J.length : Int) (i : Int)) K'
          rw [g120_lp (hjj := rfl), hw]
          intro A1 A8 A15 A30 A38 A46
          have hA : A8 := hK'
          have h38 : A38 := ⟨b1, b2, hA⟩
          exact brn_T (decide_eq_true hz) ⟨i0, hz, brn_Fa hx (brn_T hy ⟨b1, b2, hA⟩), brn_Fa hx (brn_T hy ⟨h38, h38⟩)⟩⟩
        · unfold renB
          rw [e] at hx hy
          rw [hx, hy]
          first | done | rfl
        · kernel_rfl
      | false =>
        refine .inl ⟨(i + 1, acc ++ List.map u8 [((List.getD J (Int.toNat (i : Int)) 0).toNat : Int)]), ⟨[], msk [1, 2, 3, 6, 7, 47, 48, 49] 0 80, [0, 1, 2, 3, 5, 4, 6, 7, 8, 9]⟩, _, ⟨by show i + 1 ≤ J.length; omega, next _ ?_⟩, by show J.length - (i + 1) < J.length - i; omega, ?_, fun K' hK' => by
          show evCode VW (loopB (bodyOf Tryd.f120) 0) (k120a (blk6 T I X C L S U) kk Tv Xv Cv Sv Uv J acc (J.length : Int) (i : Int)) K'
          rw [g120_lp (hjj := rfl), hw]
          intro A1 A8 A15 A30 A38 A46
          have hA : A15 := hK'
          have h46 : A46 := ⟨b1, b2, hA⟩
          exact brn_T (decide_eq_true hz) ⟨i0, hz, brn_Fa hx (brn_Fa hy ⟨b1, b2, hA⟩), brn_Fa hx (brn_Fa hy ⟨h46, h46⟩)⟩⟩
        · unfold renB
          rw [e] at hx hy ⊢
          rw [hx, hy]
          first | done | rfl
        · kernel_rfl
  · have hz : ¬ (i : Int) < (J.length : Int) := by omega
    refine .inr ⟨.exit 0, _, by simp, fun K' hK' => by
      show evCode VW (loopB (bodyOf Tryd.f120) 0) (k120a (blk6 T I X C L S U) kk Tv Xv Cv Sv Uv J acc (J.length : Int) (i : Int)) K'
      rw [g120_lp (hjj := rfl)]
      intro A1 A8 A15 A30 A38 A46
      exact brn_Fa (decide_eq_false hz) hK', (), trivial, fun K hK => ?_⟩
    have e : acc = J.map (renB kk) := by rw [i2, List.take_of_length_le (by omega)]
    rw [← e] at hK
    have key := lp2_det Tv acc Xv Cv Sv Uv L hX K hK
    refine Eq.mp (by kernel_rfl) (Eq.mpr (g120_out T I X C L S U kk Tv Xv Cv Sv Uv J acc (J.length : Int) (i : Int) K) ?_)
    unfold LoopI
    exact key q120j _ (by kernel_rfl)
theorem ok120 : ∀ args pres res, sView args = some (pres, res) → SpecOK Tryd.prog G6 120 args pres res := by
  intro args pres res h
  unfold sView at h
  split at h
  case h_2 => cases h
  cases h
  rename_i T I X C L S U
  refine spec_ok (C := VW) okH8 (inl_ok okH8 I8_ok 2) Tryd.func120 (by kernel_rfl) (by kernel_rfl) (fun hp => ?_)
  have hV : okV T I X C L S U := hp (okV T I X C L S U) (by simp)
  have a0 := aft0 T lowL
  have a1 : aft T lowL ≤ aft T highL := aft_mono T (by decide)
  have a2 := aft_le T highL
  have hT := hV.t
  have hA := hV.a
  have hi := hV.i
  have hXX := hV.x
  have hC := hV.c
  have hS := hV.s
  have hU := hV.u
  have hk := (inE0 T I lowL).1
  have hJ : (vJ T I).length ≤ 1000000 := by unfold vJ; rw [List.length_take, List.length_drop]; omega
  have hTv : ((vT T).length : Int) ≤ 1000000 := by unfold vT; rw [List.length_take, List.length_drop]; omega
  have a3 : aft T highL ≤ (I.length : Int) := by rw [hi]; exact a2
  have key := lp1_det T I X C L S U (vK T I) (vT T) (sw X [] (vK T I)) C (sw S false (vK T I)) (sw U false (vK T I)) (vJ T I) hJ hV.l
  refine Eq.mpr (g120_in T I X C L S U _) ?_
  intro E1 E2
  have hE1 : E1 := rfl
  have hE2 : E2 := rfl
  clear_value E1 E2
  refine ⟨hV, ?_⟩
  repeat' apply And.intro
  all_goals first | assumption | skip
  unfold LoopI
  refine key _ ?_ q120i _ ?_
  · rfl
  · kernel_rfl
theorem okH9 : EOK Tryd.prog H9 G6 := addE_ok okH8 ok120
end Q6
namespace Q6
open Go Go.AE Go.Proofs
noncomputable section
def av {α : Type} (n : Int) (x y : α) : α := bif decide (n < 2) then x else y
def fil (n : Int) (T : List Int) (I : List UInt8) (X : List (List IV)) (C : List UInt8) (L : List (List IV)) (S U : List Bool) (T' : List Int) (I' : List UInt8) (X' : List (List IV)) (C' : List UInt8) (L' : List (List IV)) (S' U' : List Bool) (f : List UInt8) : List AV := [.imm (.int .i64 n), .imm (.ints .i64 T), .imm (.bytes I), .imm (.sl 3 X), .imm (.bytes C), .imm (.sl 2 L), .imm (.bools S), .imm (.bools U), .imm (.ints .i64 T'), .imm (.bytes I'), .imm (.sl 3 X'), .imm (.bytes C'), .imm (.sl 2 L'), .imm (.bools S'), .imm (.bools U'), .imm (.str f)]
def sAct : List AV → Option (List Prop × List AV)
  | [.agg [.imm (.int .i64 n), .imm (.ints .i64 T), .imm (.bytes I), .imm (.sl 3 X), .imm (.bytes C), .imm (.sl 2 L), .imm (.bools S), .imm (.bools U), .imm (.ints .i64 T'), .imm (.bytes I'), .imm (.sl 3 X'), .imm (.bytes C'), .imm (.sl 2 L'), .imm (.bools S'), .imm (.bools U'), .imm (.str f)]] => some ([], [.agg [.imm (.ints .i64 (av n T T')), .imm (.bytes (av n I I')), .imm (.sl 3 (av n X X')), .imm (.bytes (av n C C')), .imm (.sl 2 (av n L L')), .imm (.bools (av n S S')), .imm (.bools (av n U U'))]])
  | _ => none
def sSlim : List AV → Option (List Prop × List AV)
  | [] => some ([], [.agg [.imm (.ints .i64 []), .imm (.bytes []), .imm (.sl 3 [[.int .i32 0, .bool false, .int .u8 0]]), .imm (.bytes [0]), .imm (.sl 2 []), .imm (.bools []), .imm (.bools [])]])
  | _ => none
def sViewS : List AV → Option (List Prop × List AV)
  | [.agg [.imm (.ints .i64 T), .imm (.bytes I), .imm (.sl 3 X), .imm (.bytes C), .imm (.sl 2 L), .imm (.bools S), .imm (.bools U)]] => some ([okV T I X C L S U],
      [.agg [.imm (.ints .i64 (vT T)), .imm (.bytes ((vJ T I).map (renB (vK T I)))), .imm (.sl 3 (sw X [] (vK T I))), .imm (.bytes C), .imm (.sl 2 (L.filter isLow)), .imm (.bools (sw S false (vK T I))), .imm (.bools (sw U false (vK T I)))]])
  | _ => none
structure okVA (n : Int) (T : List Int) (I : List UInt8) (X : List (List IV)) (C : List UInt8) (L : List (List IV)) (S U : List Bool) (T' : List Int) (I' : List UInt8) (X' : List (List IV)) (C' : List UInt8) (L' : List (List IV)) (S' U' : List Bool) (f : List UInt8) : Prop where
  v : okV (av n T T') (av n I I') (av n X X') (av n C C') (av n L L') (av n S S') (av n U U')
def sW1 : List AV → Option (List Prop × List AV)
  | [.agg [.imm (.int .i64 n), .imm (.ints .i64 T), .imm (.bytes I), .imm (.sl 3 X), .imm (.bytes C), .imm (.sl 2 L), .imm (.bools S), .imm (.bools U), .imm (.ints .i64 T'), .imm (.bytes I'), .imm (.sl 3 X'), .imm (.bytes C'), .imm (.sl 2 L'), .imm (.bools S'), .imm (.bools U'), .imm (.str f)], .imm (.int .i64 v)] => some ([okVA n T I X C L S U T' I' X' C' L' S' U' f], [.agg [.imm (.int .i64 v), .imm (.ints .i64 (vT (av n T T'))), .imm (.bytes ((vJ (av n T T') (av n I I')).map (renB (vK (av n T T') (av n I I'))))), .imm (.sl 3 (sw (av n X X') [] (vK (av n T T') (av n I I')))), .imm (.bytes (av n C C')), .imm (.sl 2 ((av n L L').filter isLow)), .imm (.bools (sw (av n S S') false (vK (av n T T') (av n I I')))), .imm (.bools (sw (av n U U') false (vK (av n T T') (av n I I')))), .imm (.ints .i64 []), .imm (.bytes []), .imm (.sl 3 []), .imm (.bytes []), .imm (.sl 2 []), .imm (.bools []), .imm (.bools []), .imm (.str [])]])
  | _ => none
def sW2 : List AV → Option (List Prop × List AV)
  | [.agg [.imm (.int .i64 n), .imm (.ints .i64 T), .imm (.bytes I), .imm (.sl 3 X), .imm (.bytes C), .imm (.sl 2 L), .imm (.bools S), .imm (.bools U), .imm (.ints .i64 T'), .imm (.bytes I'), .imm (.sl 3 X'), .imm (.bytes C'), .imm (.sl 2 L'), .imm (.bools S'), .imm (.bools U'), .imm (.str f)], .imm (.int .i64 v)] => some ([], [.agg [.imm (.int .i64 v), .imm (.ints .i64 []), .imm (.bytes []), .imm (.sl 3 [[.int .i32 0, .bool false, .int .u8 0]]), .imm (.bytes [0]), .imm (.sl 2 []), .imm (.bools []), .imm (.bools []), .imm (.ints .i64 (av n T T')), .imm (.bytes (av n I I')), .imm (.sl 3 (av n X X')), .imm (.bytes (av n C C')), .imm (.sl 2 (av n L L')), .imm (.bools (av n S S')), .imm (.bools (av n U U')), .imm (.str f)]])
  | _ => none
def extP (f : List UInt8) : Bool := (P9.ruP f).h && (PA.late (P9.ruP f).S.t || PA.late (P9.ruP f).E.t)
def neV (xs : List (List IV)) : Bool := lvA xs 4 && !lvA xs 3
def exV (n v : Int) (L L' : List (List IV)) (f : List UInt8) : Bool := bif decide (v < 3) && P9.whyP f == 0 && extP f then false else decide (v ≥ 4) || !neV (av n L L')
structure okE (n : Int) (T : List Int) (I : List UInt8) (X : List (List IV)) (C : List UInt8) (L : List (List IV)) (S U : List Bool) (T' : List Int) (I' : List UInt8) (X' : List (List IV)) (C' : List UInt8) (L' : List (List IV)) (S' U' : List Bool) (f : List UInt8) : Prop where
  l : okX (av n L L')
  f : (f.length : Int) ≤ 1000000
def sExp : List AV → Option (List Prop × List AV)
  | [.agg [.imm (.int .i64 n), .imm (.ints .i64 T), .imm (.bytes I), .imm (.sl 3 X), .imm (.bytes C), .imm (.sl 2 L), .imm (.bools S), .imm (.bools U), .imm (.ints .i64 T'), .imm (.bytes I'), .imm (.sl 3 X'), .imm (.bytes C'), .imm (.sl 2 L'), .imm (.bools S'), .imm (.bools U'), .imm (.str f)], .imm (.int .i64 v)] => some ([okE n T I X C L S U T' I' X' C' L' S' U' f], [bo6 (exV n v L L' f)])
  | _ => none
def toC (n v : Int) (L L' : List (List IV)) (f : List UInt8) : Nat := bif decide (v < 1) || decide (v > 4) then 0 else bif decide (n ≤ v) then 1 else bif exV n v L L' f then (bif v == 1 then 3 else 4) else 2
def p5 {α : Type} (c : Nat) (z s w u : α) : α := match c with
  | 0 => z
  | 1 => s
  | 2 => z
  | 3 => w
  | _ => u
def toE (c : Nat) : Int := match c with
  | 0 => 18
  | 2 => 17
  | _ => 0
structure okTo (n : Int) (T : List Int) (I : List UInt8) (X : List (List IV)) (C : List UInt8) (L : List (List IV)) (S U : List Bool) (T' : List Int) (I' : List UInt8) (X' : List (List IV)) (C' : List UInt8) (L' : List (List IV)) (S' U' : List Bool) (f : List UInt8) (v : Int) : Prop where
  e : okE n T I X C L S U T' I' X' C' L' S' U' f
  v : v = 1 → 1 < n → okV (av n T T') (av n I I') (av n X X') (av n C C') (av n L L') (av n S S') (av n U U')
noncomputable def H10 := addE (addE (addE H9 18 sAct) 129 sSlim) 120 sViewS
noncomputable def H11 := addE (addE H10 119 sW1) 121 sW2
noncomputable def H12 := addE H11 9 sExp
noncomputable def V18 : Cx := ⟨Tryd.prog, H9, noCall, G6, 4003⟩
noncomputable def I9 : FuncId → Option Func := fun f => bif Nat.beq f 134 then some Tryd.f134 else bif Nat.beq f 135 then some Tryd.f135 else none
noncomputable def V129 : Cx := ⟨Tryd.prog, H9, inl I9 Tryd.prog H9 G6 2 3, G6, 2⟩
noncomputable def V119 : Cx := ⟨Tryd.prog, H10, noCall, G6, 4005⟩
noncomputable def V9 : Cx := ⟨Tryd.prog, H11, noCall, G6, 4008⟩
noncomputable def V10 : Cx := ⟨Tryd.prog, H12, noCall, G6, 4008⟩
def sTo : List AV → Option (List Prop × List AV)
  | [.agg [.imm (.int .i64 n), .imm (.ints .i64 T), .imm (.bytes I), .imm (.sl 3 X), .imm (.bytes C), .imm (.sl 2 L), .imm (.bools S), .imm (.bools U), .imm (.ints .i64 T'), .imm (.bytes I'), .imm (.sl 3 X'), .imm (.bytes C'), .imm (.sl 2 L'), .imm (.bools S'), .imm (.bools U'), .imm (.str f)], .imm (.int .i64 v)] => some ([okTo n T I X C L S U T' I' X' C' L' S' U' f v], [.agg [.imm (.int .i64 (p5 (toC n v L L' f) 0 n v v)), .imm (.ints .i64 (p5 (toC n v L L' f) [] T (vT (av n T T')) [])), .imm (.bytes (p5 (toC n v L L' f) [] I ((vJ (av n T T') (av n I I')).map (renB (vK (av n T T') (av n I I')))) [])), .imm (.sl 3 (p5 (toC n v L L' f) [] X (sw (av n X X') [] (vK (av n T T') (av n I I'))) [[.int .i32 0, .bool false, .int .u8 0]])), .imm (.bytes (p5 (toC n v L L' f) [] C (av n C C') [0])), .imm (.sl 2 (p5 (toC n v L L' f) [] L ((av n L L').filter isLow) [])), .imm (.bools (p5 (toC n v L L' f) [] S (sw (av n S S') false (vK (av n T T') (av n I I'))) [])), .imm (.bools (p5 (toC n v L L' f) [] U (sw (av n U U') false (vK (av n T T') (av n I I'))) [])), .imm (.ints .i64 (p5 (toC n v L L' f) [] T' [] (av n T T'))), .imm (.bytes (p5 (toC n v L L' f) [] I' [] (av n I I'))), .imm (.sl 3 (p5 (toC n v L L' f) [] X' [] (av n X X'))), .imm (.bytes (p5 (toC n v L L' f) [] C' [] (av n C C'))), .imm (.sl 2 (p5 (toC n v L L' f) [] L' [] (av n L L'))), .imm (.bools (p5 (toC n v L L' f) [] S' [] (av n S S'))), .imm (.bools (p5 (toC n v L L' f) [] U' [] (av n U U'))), .imm (.str (p5 (toC n v L L' f) [] f [] f))], i6 (toE (toC n v L L' f))])
  | _ => none
noncomputable def H13 := addE H12 10 sTo
end
end Q6
set_option maxRecDepth 100000
namespace Q6
open Go Go.AE Go.Proofs PE PF
attribute [local irreducible] loopK evCode evSpec loopB norm
theorem g18_in (n : Int) (T : List Int) (I : List UInt8) (X : List (List IV)) (C : List UInt8) (L : List (List IV)) (S : List Bool) (U : List Bool) (T' : List Int) (I' : List UInt8) (X' : List (List IV)) (C' : List UInt8) (L' : List (List IV)) (S' : List Bool) (U' : List Bool) (f : List UInt8) (K : List AV → Prop) : evSpec V18 Tryd.f18 [.agg (fil n T I X C L S U T' I' X' C' L' S' U' f)] K = (brn (decide (n < 2)) (K [.agg [.imm (.ints IntKind.i64 T), by' I, .imm (.sl 3 X), by' C, .imm (.sl 2 L), .imm (.bools S), .imm (.bools U)]]) (K [.agg [.imm (.ints IntKind.i64 T'), by' I', .imm (.sl 3 X'), by' C', .imm (.sl 2 L'), .imm (.bools S'), .imm (.bools U')]])) := by kernel_rfl
theorem g129_in (K : List AV → Prop) : evSpec V129 Tryd.f129 [] K = ((0 : Int) ≤ 1 ∧ (1 : Int) ≤ 1 ∧ (↑8 : Int) * 1 ≤ 140737488355328 ∧ (1 : Int) ≤ 140737488355328 ∧ K [.agg [AV.new (IV.ints IntKind.i64 []), AV.new (IV.bytes []), AV.new (IV.sl 3 [[IV.int IntKind.i32 (0 : Int), IV.bool false, IV.int .u8 0]]), by' (List.map u8 [(0 : Int)]), AV.new (IV.sl 2 []), AV.new (IV.bools []), AV.new (IV.bools [])]]) := by kernel_rfl
theorem g119_in (n : Int) (T : List Int) (I : List UInt8) (X : List (List IV)) (C : List UInt8) (L : List (List IV)) (S : List Bool) (U : List Bool) (T' : List Int) (I' : List UInt8) (X' : List (List IV)) (C' : List UInt8) (L' : List (List IV)) (S' : List Bool) (U' : List Bool) (f : List UInt8) (v : Int) (K : List AV → Prop) : evSpec V119 Tryd.f119 [.agg (fil n T I X C L S U T' I' X' C' L' S' U' f), i6 v] K = (okV (av n T T') (av n I I') (av n X X') (av n C C') (av n L L') (av n S S') (av n U U') ∧ K [.agg [i64 v, .imm (.ints IntKind.i64 (vT (av n T T'))), by' (List.map (renB (vK (av n T T') (av n I I'))) (vJ (av n T T') (av n I I'))), .imm (.sl 3 (sw (av n X X') [] (vK (av n T T') (av n I I')))), by' (av n C C'), .imm (.sl 2 (List.filter isLow (av n L L'))), .imm (.bools (sw (av n S S') false (vK (av n T T') (av n I I')))), .imm (.bools (sw (av n U U') false (vK (av n T T') (av n I I')))), AV.new (IV.ints IntKind.i64 []), AV.new (IV.bytes []), AV.new (IV.sl 3 []), AV.new (IV.bytes []), AV.new (IV.sl 2 []), AV.new (IV.bools []), AV.new (IV.bools []), .imm (.str [])]]) := by kernel_rfl
theorem g121_in (n : Int) (T : List Int) (I : List UInt8) (X : List (List IV)) (C : List UInt8) (L : List (List IV)) (S : List Bool) (U : List Bool) (T' : List Int) (I' : List UInt8) (X' : List (List IV)) (C' : List UInt8) (L' : List (List IV)) (S' : List Bool) (U' : List Bool) (f : List UInt8) (v : Int) (K : List AV → Prop) : evSpec V119 Tryd.f121 [.agg (fil n T I X C L S U T' I' X' C' L' S' U' f), i6 v] K = (let E1 : Prop := ((sm (St.mk [.agg [i64 n, .imm (.ints IntKind.i64 T), by' I, .imm (.sl 3 X), by' C, .imm (.sl 2 L), .imm (.bools S), .imm (.bools U), .imm (.ints IntKind.i64 T'), by' I', .imm (.sl 3 X'), by' C', .imm (.sl 2 L'), .imm (.bools S'), .imm (.bools U'), .imm (.str f)], i64 v, .ptr 0 0, .dead, .ptr 1 0, i64 v, .agg [.imm (.ints IntKind.i64 []), by' ([]), .imm (.sl 3 [[IV.int IntKind.i32 (0 : Int), IV.bool false, IV.int .u8 0]]), by' ([(0 : UInt8)]), .imm (.sl 2 []), .imm (.bools []), .imm (.bools [])], .agg [i64 n, .imm (.ints IntKind.i64 T), by' I, .imm (.sl 3 X), by' C, .imm (.sl 2 L), .imm (.bools S), .imm (.bools U), .imm (.ints IntKind.i64 T'), by' I', .imm (.sl 3 X'), by' C', .imm (.sl 2 L'), .imm (.bools S'), .imm (.bools U'), .imm (.str f)], .agg [.imm
 (.ints IntKind.i64 (av n T T')), by' (av n I I'), .imm (.sl 3 (av n X X')), by' (av n C C'), .imm (.sl 2 (av n L L')), .imm (.bools (av n S S')), .imm (.bools (av n U U'))], .ptr 0 15, .imm (.str f), .agg [i64 v, .imm (.ints IntKind.i64 []), by' ([]), .imm (.sl 3 [[IV.int IntKind.i32 (0 : Int), IV.bool false, IV.int .u8 0]]), by' ([(0 : UInt8)]), .imm (.sl 2 []), .imm (.bools []), .imm (.bools []), .imm (.ints IntKind.i64 (av n T T')), by' (av n I I'), .imm (.sl 3 (av n X X')), by' (av n C C'), .imm (.sl 2 (av n L L')), .imm (.bools (av n S S')), .imm (.bools (av n U U')), .imm (.str f)]] [(0, Ob.mk true 0 (AObj.cells [i64 n, .imm (.ints IntKind.i64 T), by' I, .imm (.sl 3 X), by' C, .imm (.sl 2 L), .imm (.bools S), .imm (.bools U), .imm (.ints IntKind.i64 T'), by' I', .imm (.sl 3 X'), by' C', .imm (.sl 2 L'), .imm (.bools S'), .imm (.bools U'), .imm (.str f)])), (1, Ob.mk true 0 (AObj.cells [i64 v, .imm (.ints IntKind.i64 []), by' ([]), .imm (.sl 3 [[IV.int IntKind.i32 (0 : Int), IV.bool false, IV.int .u8 0]]), by' ([(0 : UInt8)]), .imm (.sl 2 []), .imm (.bools []), .imm (.bools []), .imm (.ints IntKind.i64 (av n T T')), by' (av n I I'), .imm (.sl 3 (av n X X')), by' (av n C C'),
 .imm (.sl 2 (av n L L')), .imm (.bools (av n S S')), .imm (.bools (av n U U')), .imm (.str f)]))] 2 []))); E1 ∧ K [.agg [i64 v, .imm (.ints IntKind.i64 []), by' ([]), .imm (.sl 3 [[IV.int IntKind.i32 (0 : Int), IV.bool false, IV.int .u8 0]]), by' ([(0 : UInt8)]), .imm (.sl 2 []), .imm (.bools []), .imm (.bools []), .imm (.ints IntKind.i64 (av n T T')), by' (av n I I'), .imm (.sl 3 (av n X X')), by' (av n C C'), .imm (.sl 2 (av n L L')), .imm (.bools (av n S S')), .imm (.bools (av n U U')), .imm (.str f)]]) := by kernel_rfl
theorem g9_in (n : Int) (T : List Int) (I : List UInt8) (X : List (List IV)) (C : List UInt8) (L : List (List IV)) (S : List Bool) (U : List Bool) (T' : List Int) (I' : List UInt8) (X' : List (List IV)) (C' : List UInt8) (L' : List (List IV)) (S' : List Bool) (U' : List Bool) (f : List UInt8) (v : Int) (K : List AV → Prop) : evSpec V9 Tryd.f9 [.agg (fil n T I X C L S U T' I' X' C' L' S' U' f), i6 v] K = ((f.length : Int) ≤ 1000000000000000000 ∧ brn (decide (v < 3) && P9.whyP f == 0 && (P9.Ru.h (P9.ruP f) && (PA.late (P9.Dv.t (P9.Ru.S (P9.ruP f))) || PA.late (P9.Dv.t (P9.Ru.E (P9.ruP f)))))) (K [bo false]) ((decide (v ≥ 4) = false → okX (av n L L')) ∧ K [bo (decide (v ≥ 4) || !(lvA (av n L L') (4 : Int) && !lvA (av n L L') (3 : Int)))])) := by kernel_rfl
theorem g10_in (n : Int) (T : List Int) (I : List UInt8) (X : List (List IV)) (C : List UInt8) (L : List (List IV)) (S : List Bool) (U : List Bool) (T' : List Int) (I' : List UInt8) (X' : List (List IV)) (C' : List UInt8) (L' : List (List IV)) (S' : List Bool) (U' : List Bool) (f : List UInt8) (v : Int) (K : List AV → Prop) : evSpec V10 Tryd.f10 [.agg (fil n T I X C L S U T' I' X' C' L' S' U' f), i6 v] K = (let A12 : Prop := ((brn (decide (n ≤ v)) (K [.agg [i64 n, .imm (.ints IntKind.i64 T), by' I, .imm (.sl 3 X), by' C, .imm (.sl 2 L), .imm (.bools S), .imm (.bools U), .imm (.ints IntKind.i64 T'), by' I', .imm (.sl 3 X'), by' C', .imm (.sl 2 L'), .imm (.bools S'), .imm (.bools U'), .imm (.str f)], i64 0]) (Q6.okE n T I X C L S U T' I' X' C' L' S' U' f ∧ brn (!exV n v L L' f) (K [.agg [i64 0, AV.new (IV.ints IntKind.i64 []), AV.new (IV.bytes []), AV.new (IV.sl 3 []), AV.new (IV.bytes []), AV.new (IV.sl 2 []), AV.new (IV.bools []), AV.new (IV.bools []), AV.new (IV.ints IntKind.i64 []), AV.new (IV.bytes []), AV.new (IV.sl 3 []), AV.new (IV.bytes []), AV.new (IV.sl 2 []), AV.new (IV.bools []), AV.new (IV.bools []), .imm (.str [])], i64 17]) (K [.agg [i64 v, .imm (.ints IntKind.i64 []),
 by' ([]), .imm (.sl 3 [[IV.int IntKind.i32 (0 : Int), IV.bool false, IV.int .u8 0]]), by' ([(0 : UInt8)]), .imm (.sl 2 []), .imm (.bools []), .imm (.bools []), .imm (.ints IntKind.i64 (av n T T')), by' (av n I I'), .imm (.sl 3 (av n X X')), by' (av n C C'), .imm (.sl 2 (av n L L')), .imm (.bools (av n S S')), .imm (.bools (av n U U')), .imm (.str f)], i64 0])))); brn (decide (v = 1)) (brn (decide (n ≤ v)) (K [.agg [i64 n, .imm (.ints IntKind.i64 T), by' I, .imm (.sl 3 X), by' C, .imm (.sl 2 L), .imm (.bools S), .imm (.bools U), .imm (.ints IntKind.i64 T'), by' I', .imm (.sl 3 X'), by' C', .imm (.sl 2 L'), .imm (.bools S'), .imm (.bools U'), .imm (.str f)], i64 0]) (Q6.okE n T I X C L S U T' I' X' C' L' S' U' f ∧ brn (!exV n v L L' f) (K [.agg [i64 0, AV.new (IV.ints IntKind.i64 []), AV.new (IV.bytes []), AV.new (IV.sl 3 []), AV.new (IV.bytes []), AV.new (IV.sl 2 []), AV.new (IV.bools []), AV.new (IV.bools []), AV.new (IV.ints IntKind.i64 []), AV.new (IV.bytes []), AV.new (IV.sl 3 []), AV.new (IV.bytes []), AV.new (IV.sl 2 []), AV.new (IV.bools []), AV.new (IV.bools []), .imm (.str [])], i64 17]) (okVA n T I X C L S U T' I' X' C' L' S' U' f ∧ K [.agg [i64 v, .imm (.ints IntKind.i64
 (vT (av n T T'))), by' (List.map (renB (vK (av n T T') (av n I I'))) (vJ (av n T T') (av n I I'))), .imm (.sl 3 (sw (av n X X') [] (vK (av n T T') (av n I I')))), by' (av n C C'), .imm (.sl 2 (List.filter isLow (av n L L'))), .imm (.bools (sw (av n S S') false (vK (av n T T') (av n I I')))), .imm (.bools (sw (av n U U') false (vK (av n T T') (av n I I')))), .imm (.ints IntKind.i64 []), by' ([]), .imm (.sl 3 []), by' ([]), .imm (.sl 2 []), .imm (.bools []), .imm (.bools []), .imm (.str [])], i64 0]))) (brn (decide (v = 2)) A12 (brn (decide (v = 3)) A12 (brn (decide (v = 4)) A12 (K [.agg [i64 0, AV.new (IV.ints IntKind.i64 []), AV.new (IV.bytes []), AV.new (IV.sl 3 []), AV.new (IV.bytes []), AV.new (IV.sl 2 []), AV.new (IV.bools []), AV.new (IV.bools []), AV.new (IV.ints IntKind.i64 []), AV.new (IV.bytes []), AV.new (IV.sl 3 []), AV.new (IV.bytes []), AV.new (IV.sl 2 []), AV.new (IV.bools []), AV.new (IV.bools []), .imm (.str [])], i64 18]))))) := by kernel_rfl
theorem ok18 : ∀ args pres res, sAct args = some (pres, res) → SpecOK Tryd.prog G6 18 args pres res := by
  intro args pres res h
  unfold sAct at h
  split at h
  case h_2 => cases h
  cases h
  rename_i n T I X C L S U T' I' X' C' L' S' U' f
  refine spec_ok (C := V18) okH9 noCall_ok Tryd.func18 (by kernel_rfl) (by kernel_rfl) (fun hp => ?_)
  refine Eq.mpr (g18_in n T I X C L S U T' I' X' C' L' S' U' f _) ?_
  unfold av
  exact brn_intro (fun h => by rw [h]; rfl) (fun h => by rw [h]; rfl)
theorem ok129 : ∀ args pres res, sSlim args = some (pres, res) → SpecOK Tryd.prog G6 129 args pres res := by
  intro args pres res h
  unfold sSlim at h
  split at h
  case h_2 => cases h
  cases h
  have I9_ok : ∀ f fn, I9 f = some fn → Tryd.prog.funcs[f]? = some fn ∧ (fn.name == "runtime.NumGoroutine") = false := by
    intro f fn h
    unfold I9 at h
    cases h1 : Nat.beq f 134 with
    | true => rw [h1, cond_true] at h; cases h; obtain rfl := nbeq h1; exact ⟨Tryd.func134, by kernel_rfl⟩
    | false =>
      rw [h1, cond_false] at h
      cases h2 : Nat.beq f 135 with
      | true => rw [h2, cond_true] at h; cases h; obtain rfl := nbeq h2; exact ⟨Tryd.func135, by kernel_rfl⟩
      | false => rw [h2, cond_false] at h; cases h
  refine spec_okS (C := V129) okH9 (inl_ok okH9 I9_ok 3) Tryd.func129 (by kernel_rfl) (by kernel_rfl) (fun hp => ?_)
  exact Eq.mpr (g129_in _) ⟨by decide, by decide, by decide, by decide, rfl⟩
theorem ok120s : ∀ args pres res, sViewS args = some (pres, res) → SpecOK Tryd.prog G6 120 args pres res := by
  intro args pres res h
  unfold sViewS at h
  split at h
  case h_2 => cases h
  cases h
  rename_i T I X C L S U
  exact spec_settle (ok120 [.agg (blk6 T I X C L S U)] [okV T I X C L S U] [.agg [.new (.ints .i64 (vT T)), .new (.bytes ((vJ T I).map (renB (vK T I)))), .new (.sl 3 (sw X [] (vK T I))), .new (.bytes C), .new (.sl 2 (L.filter isLow)), .new (.bools (sw S false (vK T I))), .new (.bools (sw U false (vK T I)))]] rfl)
theorem okH10 : EOK Tryd.prog H10 G6 := addE_ok (addE_ok (addE_ok okH9 ok18) ok129) ok120s
theorem ok119 : ∀ args pres res, sW1 args = some (pres, res) → SpecOK Tryd.prog G6 119 args pres res := by
  intro args pres res h
  unfold sW1 at h
  split at h
  case h_2 => cases h
  cases h
  rename_i n T I X C L S U T' I' X' C' L' S' U' f v
  refine spec_okS (C := V119) okH10 noCall_ok Tryd.func119 (by kernel_rfl) (by kernel_rfl) (fun hp => ?_)
  have hV : okVA n T I X C L S U T' I' X' C' L' S' U' f := hp (okVA n T I X C L S U T' I' X' C' L' S' U' f) (by simp)
  exact Eq.mpr (g119_in n T I X C L S U T' I' X' C' L' S' U' f v _) ⟨hV.v, rfl⟩
theorem ok121 : ∀ args pres res, sW2 args = some (pres, res) → SpecOK Tryd.prog G6 121 args pres res := by
  intro args pres res h
  unfold sW2 at h
  split at h
  case h_2 => cases h
  cases h
  rename_i n T I X C L S U T' I' X' C' L' S' U' f v
  refine spec_okS (C := V119) okH10 noCall_ok Tryd.func121 (by kernel_rfl) (by kernel_rfl) (fun hp => ?_)
  refine Eq.mpr (g121_in n T I X C L S U T' I' X' C' L' S' U' f v _) ?_
  intro E1
  exact ⟨rfl, rfl⟩
theorem okH11 : EOK Tryd.prog H11 G6 := addE_ok (addE_ok okH10 ok119) ok121
theorem ok9 : ∀ args pres res, sExp args = some (pres, res) → SpecOK Tryd.prog G6 9 args pres res := by
  intro args pres res h
  unfold sExp at h
  split at h
  case h_2 => cases h
  cases h
  rename_i n T I X C L S U T' I' X' C' L' S' U' f v
  refine spec_ok (C := V9) okH11 noCall_ok Tryd.func9 (by kernel_rfl) (by kernel_rfl) (fun hp => ?_)
  have hE : okE n T I X C L S U T' I' X' C' L' S' U' f := hp (okE n T I X C L S U T' I' X' C' L' S' U' f) (by simp)
  have hf := hE.f
  refine Eq.mpr (g9_in n T I X C L S U T' I' X' C' L' S' U' f v _) ⟨by omega, brn_intro (fun h => ?_) (fun h => ⟨fun _ => hE.l, ?_⟩)⟩
  · have : exV n v L L' f = false := by
      unfold exV extP
      rw [h]; first | done | rfl
    rw [this]; first | done | rfl
  · have : exV n v L L' f = (decide (v ≥ 4) || !neV (av n L L')) := by
      unfold exV extP
      rw [h]; first | done | rfl
    rw [this]; first | done | rfl
theorem okH12 : EOK Tryd.prog H12 G6 := addE_ok okH11 ok9
theorem ok10 : ∀ args pres res, sTo args = some (pres, res) → SpecOK Tryd.prog G6 10 args pres res := by
  intro args pres res h
  unfold sTo at h
  split at h
  case h_2 => cases h
  cases h
  rename_i n T I X C L S U T' I' X' C' L' S' U' f v
  refine spec_okS (C := V10) okH12 noCall_ok Tryd.func10 (by kernel_rfl) (by kernel_rfl) (fun hp => ?_)
  have hO : okTo n T I X C L S U T' I' X' C' L' S' U' f v := hp (okTo n T I X C L S U T' I' X' C' L' S' U' f v) (by simp)
  have hE := hO.e
  refine Eq.mpr (g10_in n T I X C L S U T' I' X' C' L' S' U' f v _) ?_
  intro A12
  have wide : 2 ≤ v → v ≤ 4 → A12 := by
    intro h2 h4
    have c0 : (decide (v < 1) || decide (v > 4)) = false := by
      rw [decide_eq_false (by omega), decide_eq_false (by omega)]; first | done | rfl
    have c1 : (v == 1) = false := beq_eq_false_iff_ne.mpr (by omega)
    refine brn_intro (fun h => ?_) (fun h => ⟨hE, brn_intro (fun hx => ?_) (fun hx => ?_)⟩)
    · have hc : toC n v L L' f = 1 := by unfold toC; rw [c0, h]; first | done | rfl
      rw [hc]; first | done | rfl
    · have hx : exV n v L L' f = false := by simpa using hx
      have hc : toC n v L L' f = 2 := by unfold toC; rw [c0, h, hx]; first | done | rfl
      rw [hc]; first | done | rfl
    · have hx : exV n v L L' f = true := by simpa using hx
      have hc : toC n v L L' f = 4 := by unfold toC; rw [c0, h, hx, c1]; first | done | rfl
      rw [hc]; first | done | rfl
  refine brn_intro (fun hv => ?_) (fun h1 => brn_intro (fun hv => ?_) (fun h2 => brn_intro (fun hv => ?_) (fun h3 => brn_intro (fun hv => ?_) (fun h4 => ?_))))
  · have hv := of_decide_eq_true hv
    have c0 : (decide (v < 1) || decide (v > 4)) = false := by
      rw [decide_eq_false (by omega), decide_eq_false (by omega)]; first | done | rfl
    have c1 : (v == 1) = true := beq_iff_eq.mpr hv
    refine brn_intro (fun h => ?_) (fun h => ⟨hE, brn_intro (fun hx => ?_) (fun hx => ?_)⟩)
    · have hc : toC n v L L' f = 1 := by unfold toC; rw [c0, h]; first | done | rfl
      rw [hc]; first | done | rfl
    · have hx : exV n v L L' f = false := by simpa using hx
      have hc : toC n v L L' f = 2 := by unfold toC; rw [c0, h, hx]; first | done | rfl
      rw [hc]; first | done | rfl
    · have hx : exV n v L L' f = true := by simpa using hx
      have hc : toC n v L L' f = 3 := by unfold toC; rw [c0, h, hx, c1]; first | done | rfl
      rw [hc]
      have hn := of_decide_eq_false h
      exact ⟨⟨hO.v hv (by omega)⟩, rfl⟩
  · have hv := of_decide_eq_true hv; exact wide (by omega) (by omega)
  · have hv := of_decide_eq_true hv; exact wide (by omega) (by omega)
  · have hv := of_decide_eq_true hv; exact wide (by omega) (by omega)
  · have h1 := of_decide_eq_false h1
    have h2 := of_decide_eq_false h2
    have h3 := of_decide_eq_false h3
    have h4 := of_decide_eq_false h4
    have c0 : (decide (v < 1) || decide (v > 4)) = true := by
      by_cases h : v < 1
      · rw [decide_eq_true h]; first | done | rfl
      · rw [decide_eq_true (show v > 4 by omega), Bool.or_true]
    have hc : toC n v L L' f = 0 := by unfold toC; rw [c0]; first | done | rfl
    rw [hc]; first | done | rfl
theorem okH13 : EOK Tryd.prog H13 G6 := addE_ok okH12 ok10
end Q6
