/- The walk's evaluator and its laws (over whatever program), and contracts of the program's functions. -/
import Derived.Test.YtdpejelemcjkdaaGreatDoorAe3
import Derived.KernelRfl
import Derived.Test.YtdpejelemcjkdaaGreatDoorProg
import Derived.Laws.BitsLemmas
import Derived.WalkKit
import Derived.Lib.Walk
import Derived.Lib.SliceRun
import Derived.Lib.AppendZerosOnto
import Derived.Laws.Externs
import Derived.Lib.Mul64
set_option linter.all false
set_option maxRecDepth 100000
namespace PA
open Go Go.AE Go.Proofs P9
attribute [local irreducible] loopK evCode evSpec loopB norm
theorem f27_in (n:Int) (K:List AV→Prop):evSpec K0 Tryz.f45 [i64 n] K =
 (K [AV.imm (IV.bool (decide (n≥(-89999:Int)) && decide (n≤(89999:Int))))]):=by kernel_rfl
theorem f43_in (n:Int) (K:List AV→Prop):evSpec K0 Tryz.f43 [i64 n] K = (K [AV.agg (R8 [] 0),i64 14,i64 n]):=by kernel_rfl
theorem f32_in (k:Int) (d:Int) (m:Int) (w:Int) (e:Int) (t:Int) (K:List AV→Prop):evSpec K0 Tryz.f48 [dayAV k d m w e t] K = (K [.imm (.bool (decide (t < 0) || decide (t > 86400)))]):=by kernel_rfl
theorem f66_in (s:List UInt8) (i:Int) (K:List AV→Prop):evSpec K0 Tryz.f70 [st s,i64 i] K = (LoopI K0 (bodyOf Tryz.f70) (0:Nat) (St.mk (lapp [st s,i64 i,AV.dead,AV.dead,i64 0,i64 0,i64 0,i64 i,i64 i] (dN 42)) [] (0:Nat) []) (finK K0 Tryz.f70 K)):=by kernel_rfl
theorem f66_lp (s:List UInt8) (i:Int) (v:Int) (n:Int) (k:AX→St→Prop) (c:Int) (hc:c = (↑(UInt8.toNat (List.getD s n.toNat (0:UInt8))):Int)):evCode K0 (loopB (bodyOf Tryz.f70) (0:Nat)) (h66 s i v n) k = ((decide (n < (s.length:Int)) = true→(0:Int)≤n)∧(decide (n < (s.length:Int)) = true→n < (s.length:Int))∧((decide (n < (s.length:Int)) && decide (c≥48)) = true→(0:Int)≤n)∧((decide (n < (s.length:Int)) && decide (c≥48)) = true→n < (s.length:Int))∧brn (decide (n < (s.length:Int)) && decide (c≥48) && decide (c≤57)) (brn (decide (IntKind.wrap .i64 (n - i) < 4)) ((0:Int)≤n∧n < (s.length:Int)∧k AX.normal (St.mk (lapp [st s,i64 i,.dead,.dead,i64 0,i64 0,i64 (IntKind.wrap .i64 (IntKind.wrap .i64 (IntKind.wrap .i64 ((10:Int) * v) + IntKind.wrap .i64 c) - 48)),i64 (IntKind.wrap .i64 (n + 1)),.dead,i64 n,st s,i64 (s.length:Int),bo (decide (n < (s.length:Int))),bo (decide (n < (s.length:Int))),.opt [((13:Nat),true)] (st s),.opt [((13:Nat),true)] (i64 n),.opt [((13:Nat),true)] (.imm (.int .u8 c)),.opt [((13:Nat),true)] (bo (decide (c≥48))),bo (decide (n < (s.length:Int)) &&
 decide (c≥48)),bo (decide (n < (s.length:Int)) && decide (c≥48)),.opt [((19:Nat),true)] (st s),.opt [((19:Nat),true)] (i64 n),.opt [((19:Nat),true)] (.imm (.int .u8 c)),.opt [((19:Nat),true)] (bo (decide (c≤57))),bo (decide (n < (s.length:Int)) && decide (c≥48) && decide (c≤57)),i64 n,i64 i,i64 (IntKind.wrap .i64 (n - i)),bo (decide (IntKind.wrap .i64 (n - i) < 4)),i64 v,i64 (IntKind.wrap .i64 ((10:Int) * v)),st s,i64 n,.imm (.int .u8 c),i64 (IntKind.wrap .i64 c),i64 (IntKind.wrap .i64 (IntKind.wrap .i64 ((10:Int) * v) + IntKind.wrap .i64 c)),i64 (IntKind.wrap .i64 (IntKind.wrap .i64 (IntKind.wrap .i64 ((10:Int) * v) + IntKind.wrap .i64 c) - 48)),i64 n,i64 (IntKind.wrap .i64 (n + 1))] (dN 12)) [] (0:Nat) [])) (k AX.normal (St.mk (lapp [st s,i64 i,.dead,.dead,i64 0,i64 0,i64 v,i64 (IntKind.wrap .i64 (n + 1)),.dead,i64 n,st s,i64 (s.length:Int),bo (decide (n < (s.length:Int))),bo (decide (n < (s.length:Int))),.opt [((13:Nat),true)] (st s),.opt [((13:Nat),true)] (i64 n),.opt [((13:Nat),true)] (.imm (.int .u8 c)),.opt [((13:Nat),true)] (bo (decide (c≥48))),bo (decide (n < (s.length:Int)) &&
 decide (c≥48)),bo (decide (n < (s.length:Int)) && decide (c≥48)),.opt [((19:Nat),true)] (st s),.opt [((19:Nat),true)] (i64 n),.opt [((19:Nat),true)] (.imm (.int .u8 c)),.opt [((19:Nat),true)] (bo (decide (c≤57))),bo (decide (n < (s.length:Int)) && decide (c≥48) && decide (c≤57)),i64 n,i64 i,i64 (IntKind.wrap .i64 (n - i)),bo (decide (IntKind.wrap .i64 (n - i) < 4))] (lapp (dN 8) (lapp [i64 n,i64 (IntKind.wrap .i64 (n + 1))] (dN 12)))) [] (0:Nat) []))) (k (AX.exit (0:Nat)) (St.mk (lapp [st s,i64 i,.dead,.dead,i64 0,i64 0,i64 v,i64 n,.dead,i64 n,st s,i64 (s.length:Int),bo (decide (n < (s.length:Int))),bo (decide (n < (s.length:Int))),.opt [((13:Nat),true)] (st s),.opt [((13:Nat),true)] (i64 n),.opt [((13:Nat),true)] (.imm (.int .u8 c)),.opt [((13:Nat),true)] (bo (decide (c≥48))),bo (decide (n < (s.length:Int)) && decide (c≥48)),bo (decide (n < (s.length:Int)) && decide (c≥48)),.opt [((19:Nat),true)] (st s),.opt [((19:Nat),true)] (i64 n),.opt [((19:Nat),true)] (.imm (.int .u8 c)),.opt [((19:Nat),true)] (bo (decide (c≤57))),bo (decide (n < (s.length:Int)) && decide (c≥48) &&
 decide (c≤57))] (dN 26)) [] (0:Nat) []))):=by subst hc; kernel_rfl
theorem f18_in (a:List UInt8) (o:Int) (h:Bool) (b:List UInt8) (p:Int) (k:Int) (d:Int) (m:Int) (w:Int) (e:Int) (t:Int) (k':Int) (d':Int) (m':Int) (w':Int) (e':Int) (t':Int) (K:List AV→Prop):evSpec Q0 Tryz.f23 [ruleAV a o h b p k d m w e t k' d' m' w' e' t'] K = (K [.imm (.bool (h && (late t || late t')))]):=by kernel_rfl
theorem f14_in (a:List UInt8) (o:Int) (h:Bool) (b:List UInt8) (p:Int) (k:Int) (d:Int) (m:Int) (w:Int) (e:Int) (t:Int) (k':Int) (d':Int) (m':Int) (w':Int) (e':Int) (t':Int) (K:List AV→Prop):evSpec Q0 Tryz.f47 [ruleAV a o h b p k d m w e t k' d' m' w' e' t'] K = (a.length≤9223372036854775807∧brn (!P7.valid a || !side o) (K [bo false]) (brn (!h) (K [bo (decide (b = []) && p == 0 && (k == 0 && (d == 0 && (m == 0 && (w == 0 && (e == 0 && (t == 0 && true)))))) && (k' == 0 && (d' == 0 && (m' == 0 && (w' == 0 && (e' == 0 && (t' == 0 && true)))))))]) (b.length≤9223372036854775807∧K [bo (P7.valid b && side p && validDay k d m w e t && validDay k' d' m' w' e' t')]))):=by kernel_rfl
theorem f45_in (s:List UInt8) (K:List AV→Prop) (r1:Int×Int) (hr1:r1 = refnum s (1:Int).toNat) (w1:Int) (hw1:w1 = IntKind.wrap .i64 (Prod.snd r1 + 1)) (r2:Int×Int) (hr2:r2 = refnum s (Int.toNat w1)) (w2:Int) (hw2:w2 = IntKind.wrap .i64 (Prod.snd r2 + 1)) (r3:Int×Int) (hr3:r3 = refnum s (Int.toNat w2)):evSpec Q0 Tryz.f46 [st s] K = ((decide ((s.length:Int) > 0) = true→(0:Int)≤0)∧(decide ((s.length:Int) > 0) = true→(0:Int) < (s.length:Int))∧brn (decide ((s.length:Int) > 0) && (↑(UInt8.toNat (List.getD s (0:Int).toNat (0:UInt8))):Int) == 74) ((0:Int)≤1∧(1:Int)≤(s.length:Int)∧(s.length:Int)≤4611686018427387904∧((decide (Prod.fst r1≥0) && decide (Prod.snd r1 < (s.length:Int))) = true→(0:Int)≤Prod.snd r1)∧((decide (Prod.fst r1≥0) && decide (Prod.snd r1 < (s.length:Int))) = true→Prod.snd r1 < (s.length:Int))∧brn (decide (Prod.fst r1≥0) && decide (Prod.snd r1 < (s.length:Int)) && (↑(UInt8.toNat (List.getD s (Prod.snd r1).toNat (0:UInt8))):Int) == 47) ((0:Int)≤IntKind.wrap .i64 (Prod.snd r1 + 1)∧IntKind.wrap .i64 (Prod.snd r1 + 1)≤(s.length:Int)∧(↑(List.take (s.length
 - Int.toNat w1) (List.drop (Int.toNat w1) s)).length:Int)≤P8.big∧brn (!(P8.parse (List.take (s.length - Int.toNat w1) (List.drop (Int.toNat w1) s))).2.2 || !validDay (1:Int) (Prod.fst r1) (0:Int) (0:Int) (0:Int) (P8.parse (List.take (s.length - Int.toNat w1) (List.drop (Int.toNat w1) s))).1) (K [dayAV 0 0 0 0 0 0,i64 0,bo false]) (K [dayAV 1 (Prod.fst r1) 0 0 0 (P8.parse (List.take (s.length - Int.toNat w1) (List.drop (Int.toNat w1) s))).1,i64 (IntKind.wrap .i64 (IntKind.wrap .i64 (Prod.snd r1 + 1) + (P8.parse (List.take (s.length - Int.toNat w1) (List.drop (Int.toNat w1) s))).2.1)),bo true])) (brn (!decide (Prod.fst r1≥0) || !validDay (1:Int) (Prod.fst r1) (0:Int) (0:Int) (0:Int) (7200:Int)) (K [dayAV 0 0 0 0 0 0,i64 0,bo false]) (K [dayAV 1 (Prod.fst r1) 0 0 0 7200,i64 (Prod.snd r1),bo true]))) ((decide ((s.length:Int) > 0) = true→(0:Int)≤0)∧(decide ((s.length:Int) > 0) = true→(0:Int) < (s.length:Int))∧brn (decide ((s.length:Int) > 0) && (↑(UInt8.toNat (List.getD s (0:Int).toNat (0:UInt8))):Int) == 77) ((0:Int)≤1∧(1:Int)≤(s.length:Int)∧(s.length:Int)≤4611686018427387904∧((decide (Prod.fst r1 < 0) ||
 decide (Prod.snd r1≥(s.length:Int))) = false→(0:Int)≤Prod.snd r1)∧((decide (Prod.fst r1 < 0) || decide (Prod.snd r1≥(s.length:Int))) = false→Prod.snd r1 < (s.length:Int))∧brn (decide (Prod.fst r1 < 0) || decide (Prod.snd r1≥(s.length:Int)) || (↑(UInt8.toNat (List.getD s (Prod.snd r1).toNat (0:UInt8))):Int) != 46) (K [dayAV 0 0 0 0 0 0,i64 0,bo false]) ((0:Int)≤IntKind.wrap .i64 (Prod.snd r1 + 1)∧IntKind.wrap .i64 (Prod.snd r1 + 1)≤(s.length:Int)∧(s.length:Int)≤4611686018427387904∧((decide (Prod.fst r2 < 0) || decide (Prod.snd r2≥(s.length:Int))) = false→(0:Int)≤Prod.snd r2)∧((decide (Prod.fst r2 < 0) || decide (Prod.snd r2≥(s.length:Int))) = false→Prod.snd r2 < (s.length:Int))∧brn (decide (Prod.fst r2 < 0) || decide (Prod.snd r2≥(s.length:Int)) || (↑(UInt8.toNat (List.getD s (Prod.snd r2).toNat (0:UInt8))):Int) != 46) (K [dayAV 0 0 0 0 0 0,i64 0,bo false]) ((0:Int)≤IntKind.wrap .i64 (Prod.snd r2 + 1)∧IntKind.wrap .i64 (Prod.snd r2 + 1)≤(s.length:Int)∧(s.length:Int)≤4611686018427387904∧((decide (Prod.fst r3≥0) && decide (Prod.snd r3 < (s.length:Int))) = true→(0:Int)≤Prod.snd
 r3)∧((decide (Prod.fst r3≥0) && decide (Prod.snd r3 < (s.length:Int))) = true→Prod.snd r3 < (s.length:Int))∧brn (decide (Prod.fst r3≥0) && decide (Prod.snd r3 < (s.length:Int)) && (↑(UInt8.toNat (List.getD s (Prod.snd r3).toNat (0:UInt8))):Int) == 47) ((0:Int)≤IntKind.wrap .i64 (Prod.snd r3 + 1)∧IntKind.wrap .i64 (Prod.snd r3 + 1)≤(s.length:Int)∧(↑(List.take (s.length - (IntKind.wrap .i64 (Prod.snd r3 + 1)).toNat) (List.drop (IntKind.wrap .i64 (Prod.snd r3 + 1)).toNat s)).length:Int)≤P8.big∧brn (!(P8.parse (List.take (s.length - (IntKind.wrap .i64 (Prod.snd r3 + 1)).toNat) (List.drop (IntKind.wrap .i64 (Prod.snd r3 + 1)).toNat s))).2.2 || !validDay (3:Int) (0:Int) (Prod.fst r1) (Prod.fst r2) (Prod.fst r3) (P8.parse (List.take (s.length - (IntKind.wrap .i64 (Prod.snd r3 + 1)).toNat) (List.drop (IntKind.wrap .i64 (Prod.snd r3 + 1)).toNat s))).1) (K [dayAV 0 0 0 0 0 0,i64 0,bo false]) (K [dayAV 3 0 (Prod.fst r1) (Prod.fst r2) (Prod.fst r3) (P8.parse (List.take (s.length - (IntKind.wrap .i64 (Prod.snd r3 + 1)).toNat) (List.drop (IntKind.wrap .i64 (Prod.snd r3 + 1)).toNat s))).1,i64 (IntKind.wrap .i64 (IntKind.wrap .i64 (Prod.snd r3 + 1) +
 (P8.parse (List.take (s.length - (IntKind.wrap .i64 (Prod.snd r3 + 1)).toNat) (List.drop (IntKind.wrap .i64 (Prod.snd r3 + 1)).toNat s))).2.1)),bo true])) (brn (!decide (Prod.fst r3≥0) || !validDay (3:Int) (0:Int) (Prod.fst r1) (Prod.fst r2) (Prod.fst r3) (7200:Int)) (K [dayAV 0 0 0 0 0 0,i64 0,bo false]) (K [dayAV 3 0 (Prod.fst r1) (Prod.fst r2) (Prod.fst r3) 7200,i64 (Prod.snd r3),bo true]))))) ((0:Int)≤0∧(0:Int)≤(s.length:Int)∧(s.length:Int)≤4611686018427387904∧((decide ((refnum s (0:Int).toNat).1≥0) && decide ((refnum s (0:Int).toNat).2 < (s.length:Int))) = true→(0:Int)≤(refnum s (0:Int).toNat).2)∧((decide ((refnum s (0:Int).toNat).1≥0) && decide ((refnum s (0:Int).toNat).2 < (s.length:Int))) = true→(refnum s (0:Int).toNat).2 < (s.length:Int))∧brn (decide ((refnum s (0:Int).toNat).1≥0) && decide ((refnum s (0:Int).toNat).2 < (s.length:Int)) && (↑(UInt8.toNat (List.getD s (refnum s (0:Int).toNat).2.toNat (0:UInt8))):Int) == 47) ((0:Int)≤IntKind.wrap .i64 ((refnum s (0:Int).toNat).2 + 1)∧IntKind.wrap .i64 ((refnum s (0:Int).toNat).2 + 1)≤(s.length:Int)∧(↑(List.take (s.length -
 (IntKind.wrap .i64 ((refnum s (0:Int).toNat).2 + 1)).toNat) (List.drop (IntKind.wrap .i64 ((refnum s (0:Int).toNat).2 + 1)).toNat s)).length:Int)≤P8.big∧brn (!(P8.parse (List.take (s.length - (IntKind.wrap .i64 ((refnum s (0:Int).toNat).2 + 1)).toNat) (List.drop (IntKind.wrap .i64 ((refnum s (0:Int).toNat).2 + 1)).toNat s))).2.2 || !validDay (2:Int) (refnum s (0:Int).toNat).1 (0:Int) (0:Int) (0:Int) (P8.parse (List.take (s.length - (IntKind.wrap .i64 ((refnum s (0:Int).toNat).2 + 1)).toNat) (List.drop (IntKind.wrap .i64 ((refnum s (0:Int).toNat).2 + 1)).toNat s))).1) (K [dayAV 0 0 0 0 0 0,i64 0,bo false]) (K [dayAV 2 (refnum s (0:Int).toNat).1 0 0 0 (P8.parse (List.take (s.length - (IntKind.wrap .i64 ((refnum s (0:Int).toNat).2 + 1)).toNat) (List.drop (IntKind.wrap .i64 ((refnum s (0:Int).toNat).2 + 1)).toNat s))).1,i64 (IntKind.wrap .i64 (IntKind.wrap .i64 ((refnum s (0:Int).toNat).2 + 1) + (P8.parse (List.take (s.length - (IntKind.wrap .i64 ((refnum s (0:Int).toNat).2 + 1)).toNat) (List.drop (IntKind.wrap .i64 ((refnum s (0:Int).toNat).2 + 1)).toNat s))).2.1)),bo true])) (brn (!decide ((refnum s (0:Int).toNat).1≥0) || !validDay (2 :
 Int) (refnum s (0:Int).toNat).1 (0:Int) (0:Int) (0:Int) (7200:Int)) (K [dayAV 0 0 0 0 0 0,i64 0,bo false]) (K [dayAV 2 (refnum s (0:Int).toNat).1 0 0 0 7200,i64 (refnum s (0:Int).toNat).2,bo true]))))):=by subst hr3; subst hw2; subst hr2; subst hw1; subst hr1; kernel_rfl
theorem f17_in (a:List UInt8) (o:Int) (h:Bool) (b:List UInt8) (p:Int) (k:Int) (d:Int) (m:Int) (w:Int) (e:Int) (t:Int) (k':Int) (d':Int) (m':Int) (w':Int) (e':Int) (t':Int) (K:List AV→Prop):evSpec U0 Tryz.f18 [ruleAV a o h b p k d m w e t k' d' m' w' e' t'] K = ((0:Int)≤0∧(0:Int) < (↑(List.length [[IV.int .i64 k,IV.int .i64 d,IV.int .i64 m,IV.int .i64 w,IV.int .i64 e,IV.int .i64 t],[IV.int .i64 k',IV.int .i64 d',IV.int .i64 m',IV.int .i64 w',IV.int .i64 e',IV.int .i64 t']]):Int)∧kcells (List.getD [[IV.int .i64 k,IV.int .i64 d,IV.int .i64 m,IV.int .i64 w,IV.int .i64 e,IV.int .i64 t],[IV.int .i64 k',IV.int .i64 d',IV.int .i64 m',IV.int .i64 w',IV.int .i64 e',IV.int .i64 t']] (0:Int).toNat []) (0:Nat) (lapp [CK.int IntKind.i64] (lapp [CK.int IntKind.i64] (lapp [CK.int IntKind.i64] (lapp [CK.int IntKind.i64] (lapp [CK.int IntKind.i64] (lapp [CK.int IntKind.i64] [])))))) = List.getD [[IV.int .i64 k,IV.int .i64 d,IV.int .i64 m,IV.int .i64 w,IV.int .i64 e,IV.int .i64 t],[IV.int .i64 k',IV.int .i64 d',IV.int .i64 m',IV.int .i64 w',IV.int .i64 e',IV.int .i64 t']] (0:Int).toNat []∧brn (decide (ivInt
 (ivNth (List.getD [[IV.int .i64 k,IV.int .i64 d,IV.int .i64 m,IV.int .i64 w,IV.int .i64 e,IV.int .i64 t],[IV.int .i64 k',IV.int .i64 d',IV.int .i64 m',IV.int .i64 w',IV.int .i64 e',IV.int .i64 t']] (0:Int).toNat []) ((0:Nat) + 1 + 1 + 1 + 1 + 1)) < 0) || decide (ivInt (ivNth (List.getD [[IV.int .i64 k,IV.int .i64 d,IV.int .i64 m,IV.int .i64 w,IV.int .i64 e,IV.int .i64 t],[IV.int .i64 k',IV.int .i64 d',IV.int .i64 m',IV.int .i64 w',IV.int .i64 e',IV.int .i64 t']] (0:Int).toNat []) ((0:Nat) + 1 + 1 + 1 + 1 + 1)) > 86400)) (K [bo h]) ((0:Int)≤IntKind.wrap .i64 ((0:Int) + 1)∧IntKind.wrap .i64 ((0:Int) + 1) < (↑(List.length [[IV.int .i64 k,IV.int .i64 d,IV.int .i64 m,IV.int .i64 w,IV.int .i64 e,IV.int .i64 t],[IV.int .i64 k',IV.int .i64 d',IV.int .i64 m',IV.int .i64 w',IV.int .i64 e',IV.int .i64 t']]):Int)∧kcells (List.getD [[IV.int .i64 k,IV.int .i64 d,IV.int .i64 m,IV.int .i64 w,IV.int .i64 e,IV.int .i64 t],[IV.int .i64 k',IV.int .i64 d',IV.int .i64 m',IV.int .i64 w',IV.int .i64 e',IV.int .i64 t']] (IntKind.wrap .i64 ((0:Int) + 1)).toNat []) (0:Nat) (lapp [CK.int IntKind.i64] (lapp [CK.int IntKind.i64] (lapp [CK.int
 IntKind.i64] (lapp [CK.int IntKind.i64] (lapp [CK.int IntKind.i64] (lapp [CK.int IntKind.i64] [])))))) = List.getD [[IV.int .i64 k,IV.int .i64 d,IV.int .i64 m,IV.int .i64 w,IV.int .i64 e,IV.int .i64 t],[IV.int .i64 k',IV.int .i64 d',IV.int .i64 m',IV.int .i64 w',IV.int .i64 e',IV.int .i64 t']] (IntKind.wrap .i64 ((0:Int) + 1)).toNat []∧brn (decide (ivInt (ivNth (List.getD [[IV.int .i64 k,IV.int .i64 d,IV.int .i64 m,IV.int .i64 w,IV.int .i64 e,IV.int .i64 t],[IV.int .i64 k',IV.int .i64 d',IV.int .i64 m',IV.int .i64 w',IV.int .i64 e',IV.int .i64 t']] (IntKind.wrap .i64 ((0:Int) + 1)).toNat []) ((0:Nat) + 1 + 1 + 1 + 1 + 1)) < 0) || decide (ivInt (ivNth (List.getD [[IV.int .i64 k,IV.int .i64 d,IV.int .i64 m,IV.int .i64 w,IV.int .i64 e,IV.int .i64 t],[IV.int .i64 k',IV.int .i64 d',IV.int .i64 m',IV.int .i64 w',IV.int .i64 e',IV.int .i64 t']] (IntKind.wrap .i64 ((0:Int) + 1)).toNat []) ((0:Nat) + 1 + 1 + 1 + 1 + 1)) > 86400)) (K [bo h]) (K [bo false]))):=by kernel_rfl
theorem f66_out (s:List UInt8) (i:Int) (v:Int) (n:Int) (K:List AV→Prop):loopK K0 (bodyOf Tryz.f70) (0:Nat) (finK K0 Tryz.f70 K) (AX.exit (0:Nat)) (St.mk (let y:=let y:=let y:=[.dead,.dead,.dead,.dead,.dead,.dead,.dead]; AV.dead :: AV.dead :: AV.dead :: AV.dead :: AV.dead :: AV.dead :: y; let y:=AV.dead :: AV.dead :: AV.dead :: AV.dead :: AV.dead :: AV.dead :: AV.dead :: y; AV.dead :: AV.dead :: AV.dead :: AV.dead :: AV.dead :: AV.dead :: y; let y:=let y:=AV.imm (.bool (decide (n < (s.length:Int)) && decide ((↑(UInt8.toNat (List.getD s n.toNat (0:UInt8))):Int)≥48))) :: AV.imm (.bool (decide (n < (s.length:Int)) && decide ((↑(UInt8.toNat (List.getD s n.toNat (0:UInt8))):Int)≥48))) :: AV.opt [((19:Nat),true)] (.imm (.str s)) :: AV.opt [((19:Nat),true)] (.imm (.int .i64 n)) :: AV.opt [((19:Nat),true)] (.imm (.int .u8 (↑(UInt8.toNat (List.getD s n.toNat (0:UInt8))):Int))) :: AV.opt [((19:Nat),true)] (.imm (.bool (decide ((↑(UInt8.toNat (List.getD s n.toNat (0:UInt8))):Int)≤57)))) :: AV.imm (.bool (decide (n < (s.length:Int)) && decide ((↑(UInt8.toNat (List.getD s n.toNat (0:UInt8))):Int)≥48) && decide ((↑(UInt8.toNat (List.getD s n.toNat (0:UInt8))):Int)≤57))) :: y; AV.imm (.bool (decide (n < (s.length:Int)))) :: AV.imm (.bool (decide (n < (s.length:Int)))) :: AV.opt [((13:Nat),true)] (.imm (.str s)) :: AV.opt [((13:Nat),true)] (.imm (.int .i64 n)) :: AV.opt [((13:Nat),true)] (.imm (.int .u8 (↑(UInt8.toNat (List.getD s n.toNat (0:UInt8))):Int))) :: AV.opt [((13:Nat),true)] (.imm (.bool (decide ((↑(UInt8.toNat (List.getD s n.toNat (0:UInt8))):Int)≥48)))) :: y; let y:=AV.imm (.int .i64 v) :: AV.imm (.int .i64 n) :: AV.dead :: AV.imm (.int .i64 n) :: AV.imm (.str s) :: AV.imm (.int .i64 (s.length:Int)) :: y; AV.imm (.str s) :: AV.imm (.int .i64 i) :: AV.dead :: AV.dead :: AV.imm (.int .i64 0) :: AV.imm (.int .i64 0) :: y) [] (0:Nat) []) = (brn (n == i || decide (n > IntKind.wrap .i64 (i + 3))) (K [.imm (.int .i64 (-1:Int)),.imm (.int .i64 i)]) (K [.imm (.int .i64 v),.imm (.int .i64 n)])):=by kernel_rfl
theorem mk {E:FuncId→List AV→Option (List Prop×List AV)} (hE:EOK Tryz.prog E P8.G8) {f:FuncId} {fn:Func} {args res:List AV} {pres:List Prop} (hf:Tryz.prog.funcs[f]? = some fn) (hn:(fn.name == "runtime.NumGoroutine") = false) (hb:fn.body.isNone = false)
  (h:(∀ p,p ∈ pres→p)→∀ K:List AV→Prop,K res→evSpec (cx E) fn args K):SpecOK Tryz.prog P8.G8 f args pres res :=
 spec_ok (C:=cx E) hE noCall_ok hf hn hb (fun hp=>h hp _ rfl)
theorem mku {E:FuncId→List AV→Option (List Prop×List AV)} (hE:EOK Tryz.prog E P8.G8) {f:FuncId} {fn:Func} {args res:List AV} {pres:List Prop} (hf:Tryz.prog.funcs[f]? = some fn) (hn:(fn.name == "runtime.NumGoroutine") = false) (hb:fn.body.isNone = false)
  (h:(∀ p,p ∈ pres→p)→∀ K:List AV→Prop,K res→evSpec (cxu E) fn args K):SpecOK Tryz.prog P8.G8 f args pres res :=
 spec_ok (C:=cxu E) hE noCall_ok hf hn hb (fun hp=>h hp _ rfl)
theorem ok0:EOK Tryz.prog noE P8.G8:=noE_ok
theorem wrap64 {n:Int} (h1:-9223372036854775808≤n) (h2:n≤9223372036854775807):IntKind.wrap .i64 n = n:=P8.wrap64 h1 h2
theorem dd_len (n:Nat):(P8.dd n).length≤3:=(P8.dd_len n).2
theorem ok27:∀ args pres res,sSide args = some (pres,res)→SpecOK Tryz.prog P8.G8 45 args pres res:=by
 intro args pres res h
 unfold sSide at h
 split at h
 case h_2=>cases h
 cases h
 rename_i n
 exact mk ok0 Tryz.func45 (by kernel_rfl) (by kernel_rfl) (fun _ K hK=>Eq.mpr (f27_in n K) hK)
theorem ok43:∀ args pres res,sFail args = some (pres,res)→SpecOK Tryz.prog P8.G8 43 args pres res:=by
 intro args pres res h
 unfold sFail at h
 split at h
 case h_2=>cases h
 cases h
 rename_i n
 exact mk ok0 Tryz.func43 (by kernel_rfl) (by kernel_rfl) (fun _ K hK=>Eq.mpr (f43_in n K) hK)
theorem ok32:∀ args pres res,sLate args = some (pres,res)→SpecOK Tryz.prog P8.G8 48 args pres res:=by
 intro args pres res h
 unfold sLate at h
 split at h
 case h_2=>cases h
 cases h
 exact mk ok0 Tryz.func48 (by kernel_rfl) (by kernel_rfl) (fun _ K hK=>by refine Eq.mpr (f32_in ..) ?_; exact hK)
def p66:Plan:=⟨[],[true,true,false,false,true,true,true,true],[]⟩
theorem w10' {h b:Int} (h0:0≤h) (h1:h≤9999) (h2:48≤b) (h3:b≤57):IntKind.wrap .i64 (IntKind.wrap .i64 (IntKind.wrap .i64 (10 * h) + IntKind.wrap .i64 b) - 48) = 10 * h + (b - 48):=by
 rw [wrap64 (n:=b) (by omega) (by omega),wrap64 (n:=10 * h) (by omega) (by omega),wrap64 (n:=10 * h + b) (by omega) (by omega),wrap64 (by omega) (by omega)]; omega
theorem f66_ev (s:List UInt8) (i:Nat) (hi:i≤s.length) (hs:(s.length:Int)≤4611686018427387904) (K:List AV→Prop) (hK:K [i64 (refnum s i).1,i64 (refnum s i).2]):evSpec K0 Tryz.f70 [st s,i64 (i:Int)] K:=by
 rw [f66_in]
 have hrl:=P8.run_le (s.drop i)
 have hdl:(s.drop i).length = s.length - i:=List.length_drop
 unfold LoopI
 refine loop_rule (fun j:Nat=>h66 s i (P8.num ((P8.runD (s.drop i)).take (min j 4))) ((i + j:Nat):Int)) (fun j=>j≤(P8.runD (s.drop i)).length) (fun j=>(P8.runD (s.drop i)).length - j)
  (fun j hP K' hnorm hexit=>?_) rfl 0 p66 _ (by omega) (by kernel_rfl)
 have ej:IntKind.wrap .i64 (((i + j:Nat):Int) + 1) = ((i + (j + 1):Nat):Int):=by rw [wrap64 (by omega) (by omega)]; omega
 have en:IntKind.wrap .i64 (((i + j:Nat):Int) - (i:Int)) = (j:Int):=by rw [wrap64 (by omega) (by omega)]; omega
 have hd:=P8.run_digit (s.drop i) j hP
 rw [← P8.digit_drop] at hd
 rw [f66_lp (hc:=rfl)]
 refine ⟨fun _=>by omega,fun h=>by simpa using h,fun _=>by omega,fun h=>?_,?_⟩
 ·rw [Bool.and_eq_true] at h; simpa using h.1
 by_cases hlt:j < (P8.runD (s.drop i)).length
 ·rw [if_pos hlt] at hd
  have hh:(P8.digit s (i + j)).2 = true:=by rw [hd]
  refine brn_intro (fun _=>?_) (fun h=>by rw [Int.toNat_natCast] at h; rw [P9.digit_read,hh] at h; cases h)
  obtain ⟨v1,v2,v3,v4⟩:=P9.digit_val hh
  rw [en]
  refine brn_intro (fun h4=>?_) (fun h4=>?_)
  ·have hj4:j < 4:=by simp only [decide_eq_true_eq] at h4; omega
   have hm:min j 4 = j:=by omega
   have hm1:min (j + 1) 4 = j + 1:=by omega
   have hnl:=P8.num_le (s.drop i) j hP
   have hn9:P8.num ((P8.runD (s.drop i)).take j) < 1000:=by
    have:10 ^ j≤10 ^ 3:=Nat.pow_le_pow_right (by decide) (by omega)
    omega
   refine ⟨by omega,by omega,hnorm (j + 1) p66 _ (by omega) (by omega) ?_⟩
   have e2:(P8.num ((P8.runD (s.drop i)).take (min (j + 1) 4)):Int) = 10 * (P8.num ((P8.runD (s.drop i)).take (min j 4)):Int) + (((s.getD (i + j) 0).toNat:Int) - 48):=by
    rw [hm,hm1,P8.num_succ _ _ hlt]
    have:P8.dv ((P8.runD (s.drop i)).getD j 0) = (s.getD (i + j) 0).toNat - 48:=by
     rw [← v4,hd]
    rw [this]
    omega
   have e3:=w10' (h:=(P8.num ((P8.runD (s.drop i)).take (min j 4)):Int)) (b:=((s.getD (i + j) 0).toNat:Int)) (by omega) (by rw [hm]; omega) (by omega) (by omega)
   rw [e2,← e3,← ej]
   show _ = _
   kernel_rfl
  ·have hj4:¬ j < 4:=by simp only [decide_eq_false_iff_not] at h4; omega
   have hm:min (j + 1) 4 = min j 4:=by omega
   refine hnorm (j + 1) p66 _ (by omega) (by omega) ?_
   rw [hm,← ej]
   show _ = _
   kernel_rfl
 ·rw [if_neg hlt] at hd
  have hj:j = (P8.runD (s.drop i)).length:=by omega
  have hh:(P8.digit s (i + j)).2 = false:=by rw [hd]
  refine brn_intro (fun h=>by rw [Int.toNat_natCast] at h; rw [P9.digit_read,hh] at h; cases h) (fun _=>?_)
  refine hexit _ _ (by simp) ?_
  refine Eq.mpr (f66_out s (i:Int) (P8.num ((P8.runD (s.drop i)).take (min j 4))) ((i + j:Nat):Int) K) ?_
  have e3:IntKind.wrap .i64 ((i:Int) + 3) = (i:Int) + 3:=wrap64 (by omega) (by omega)
  rw [e3]
  unfold refnum number at hK
  refine brn_intro (fun h=>?_) (fun h=>?_)
  ·simp only [Bool.or_eq_true,beq_iff_eq,decide_eq_true_eq] at h
   by_cases h3:(P8.runD (s.drop i)).length≤3
   ·rw [if_pos h3] at hK
    have h0:(P8.runD (s.drop i)).length = 0:=by omega
    rw [h0] at hK
    exact hK
   ·rw [if_neg h3] at hK
    exact hK
  ·simp only [Bool.or_eq_false_iff,beq_eq_false_iff_ne,ne_eq,decide_eq_false_iff_not] at h
   have h3:(P8.runD (s.drop i)).length≤3:=by omega
   rw [if_pos h3] at hK
   have hm:min j 4 = (P8.runD (s.drop i)).length:=by omega
   rw [hm,List.take_length]
   have h0:decide (0 < (P8.runD (s.drop i)).length) = true:=by rw [decide_eq_true_eq]; omega
   rw [h0] at hK
   simp only at hK
   rw [if_pos trivial] at hK
   rw [hj]
   have e4:(i:Int) + ((P8.runD (s.drop i)).length:Int) = ((i + (P8.runD (s.drop i)).length:Nat):Int):=by omega
   rw [e4] at hK
   exact hK
theorem ok66:∀ args pres res,sNum args = some (pres,res)→SpecOK Tryz.prog P8.G8 70 args pres res:=by
 intro args pres res h
 unfold sNum at h
 split at h
 case h_2=>cases h
 cases h
 rename_i s n
 refine mk ok0 Tryz.func70 (by kernel_rfl) (by kernel_rfl) (fun hp K hK=>?_)
 have h1:=hp _ (List.mem_cons_self ..)
 have h2:=hp _ (List.mem_cons_of_mem _ (List.mem_cons_self ..))
 have h3:=hp _ (List.mem_cons_of_mem _ (List.mem_cons_of_mem _ (List.mem_cons_self ..)))
 obtain ⟨i,rfl⟩:=P9.nat_of h1
 rw [Int.toNat_natCast] at hK
 exact f66_ev s i (by omega) h3 K hK
theorem okR0:EOK Tryz.prog R0 P8.G8:=addE_ok (addE_ok (addE_ok (addE_ok okF6 ok27) ok43) ok32) ok66
theorem ok14:∀ args pres res,sValidRule args = some (pres,res)→SpecOK Tryz.prog P8.G8 47 args pres res:=by
 intro args pres res h
 unfold sValidRule at h
 split at h
 case h_2=>cases h
 cases h
 rename_i a o h b p k d m w e t k' d' m' w' e' t'
 refine mk okR0 Tryz.func47 (by kernel_rfl) (by kernel_rfl) (fun hp K hK=>?_)
 have ha:=hp _ (List.mem_cons_self ..)
 have hb:=hp _ (List.mem_cons_of_mem _ (List.mem_cons_self ..))
 rw [show cx R0 = Q0 from rfl]
 refine Eq.mpr (f14_in a o h b p k d m w e t k' d' m' w' e' t' K) ?_
 have fin:∀ x,x = validRule a o h b p k d m w e t k' d' m' w' e' t'→K [.imm (.bool x)]:=fun x hx=>by rw [hx]; exact hK
 unfold validRule at fin
 refine ⟨ha,brn_intro (fun h1=>fin _ ?_) (fun h1=>brn_intro (fun h2=>fin _ ?_) (fun h2=>⟨hb,fin _ ?_⟩))⟩
 ·simp only [Bool.or_eq_true,Bool.not_eq_true'] at h1
  rcases h1 with h1 | h1 <;> simp [h1]
 ·simp only [Bool.or_eq_false_iff,Bool.not_eq_false'] at h1
  simp only [Bool.not_eq_true'] at h2
  rw [h1.1,h1.2,h2]
  simp [Bool.and_assoc]
 ·simp only [Bool.or_eq_false_iff,Bool.not_eq_false'] at h1
  simp only [Bool.not_eq_false'] at h2
  rw [h1.1,h1.2,h2]
  simp
theorem ok18:∀ args pres res,sExt args = some (pres,res)→SpecOK Tryz.prog P8.G8 23 args pres res:=by
 intro args pres res h
 unfold sExt at h
 split at h
 case h_2=>cases h
 cases h
 exact mk okR0 Tryz.func23 (by kernel_rfl) (by kernel_rfl) (fun _ K hK=>by rw [show cx R0 = Q0 from rfl]; refine Eq.mpr (f18_in ..) ?_; exact hK)
theorem u8s {s:List UInt8} {i:Nat} {c:UInt8}:((((s.getD i 0).toNat:Int) == (c.toNat:Int)) = true)↔s.getD i 0 = c:=by
 rw [beq_iff_eq]
 constructor
 ·intro h; exact UInt8.toNat_inj.1 (by omega)
 ·intro h; rw [h]
theorem refnum_n (s:List UInt8) (i:Nat) (hi:i≤s.length):∃ n:Nat,(refnum s i).2 = (n:Int)∧i≤n∧n≤s.length:=by
 obtain ⟨v,n,e1,e2,h3,_,_⟩:=number_n (s.drop i)
 rw [List.length_drop] at h3
 unfold refnum
 split
 ·exact ⟨i + n,by show (i:Int) + (number (s.drop i)).2.1 = _; rw [e2]; omega,by omega,by omega⟩
 ·exact ⟨i,rfl,Nat.le_refl _,hi⟩
theorem refnum_ok {s:List UInt8} {i:Nat}:decide ((refnum s i).1≥0) = (number (s.drop i)).2.2:=by
 obtain ⟨v,n,e1,e2,h3,_,_⟩:=number_n (s.drop i)
 unfold refnum
 cases h:(number (s.drop i)).2.2 with
 | true=>rw [if_pos rfl]; simp only [decide_eq_true_eq]; omega
 | false=>rw [if_neg (by simp)]; first | done | rfl
theorem tail45 (s:List UInt8) (k d m w e v:Int) (nn:Nat) (ok:Bool) (hok:decide (v≥0) = ok) (hn:nn≤s.length) (hs:(s.length:Int)≤4000000000000000000)
  (hx:ok = true→date s = ⟨k,d,m,w,e,nn,true⟩) (hx':ok = false→(date s).ok = false) (K:List AV→Prop)
  (hK:K [dayAV (day s).k (day s).d (day s).m (day s).w (day s).e (day s).t,i64 (day s).n,bo (day s).ok]) :
  ((decide (v≥0) && decide ((nn:Int) < (s.length:Int))) = true→(0:Int)≤(nn:Int)) ∧
  ((decide (v≥0) && decide ((nn:Int) < (s.length:Int))) = true→(nn:Int) < (s.length:Int)) ∧
  brn (decide (v≥0) && decide ((nn:Int) < (s.length:Int)) && ((s.getD (Int.toNat (nn:Int)) 0).toNat:Int) == (47:Int))
   ((0:Int)≤IntKind.wrap .i64 ((nn:Int) + 1)∧IntKind.wrap .i64 ((nn:Int) + 1)≤(s.length:Int) ∧
    (((s.drop (IntKind.wrap .i64 ((nn:Int) + 1)).toNat).take (s.length - (IntKind.wrap .i64 ((nn:Int) + 1)).toNat)).length:Int)≤P8.big ∧
    brn (!(P8.parse ((s.drop (IntKind.wrap .i64 ((nn:Int) + 1)).toNat).take (s.length - (IntKind.wrap .i64 ((nn:Int) + 1)).toNat))).2.2 ||
      !validDay k d m w e (P8.parse ((s.drop (IntKind.wrap .i64 ((nn:Int) + 1)).toNat).take (s.length - (IntKind.wrap .i64 ((nn:Int) + 1)).toNat))).1)
     (K [dayAV 0 0 0 0 0 0,i64 0,bo false])
     (K [dayAV k d m w e (P8.parse ((s.drop (IntKind.wrap .i64 ((nn:Int) + 1)).toNat).take (s.length - (IntKind.wrap .i64 ((nn:Int) + 1)).toNat))).1,
      i64 (IntKind.wrap .i64 (IntKind.wrap .i64 ((nn:Int) + 1) + (P8.parse ((s.drop (IntKind.wrap .i64 ((nn:Int) + 1)).toNat).take (s.length - (IntKind.wrap .i64 ((nn:Int) + 1)).toNat))).2.1)),bo true]))
   (brn (!decide (v≥0) || !validDay k d m w e 7200) (K [dayAV 0 0 0 0 0 0,i64 0,bo false]) (K [dayAV k d m w e 7200,i64 (nn:Int),bo true])):=by
 have hb8:P8.big = 9223372036854775000:=rfl
 rw [hok]
 have w1:IntKind.wrap .i64 ((nn:Int) + 1) = ((nn + 1:Nat):Int):=by rw [wrap64 (by omega) (by omega)]; first | done | rfl
 rw [w1]
 simp only [Int.toNat_natCast,P9.take_rest]
 refine ⟨fun _=>by omega,fun h=>?_,?_⟩
 ·rw [Bool.and_eq_true] at h; simpa using h.2
 cases ok with
 | false =>
  have hz:day s = noDy:=by
   unfold day
   have hsl:slash s (date s) = false:=by unfold slash; rw [hx' rfl]; first | done | rfl
   rw [if_neg (by rw [hsl]; simp)]
   unfold dayT
   rw [hx' rfl]
   first | done | rfl
  rw [hz] at hK
  refine brn_intro (fun h=>?_) (fun _=>brn_intro (fun _=>hK) (fun h=>?_))
  ·simp at h
  ·simp at h
 | true =>
  have hd:=hx rfl
  refine brn_intro (fun h=>?_) (fun h=>?_)
  ·simp only [Bool.true_and,Bool.and_eq_true,decide_eq_true_eq] at h
   have h47:s.getD nn 0 = 47:=u8s.1 h.2
   have hsl:slash s (date s) = true:=by
    unfold slash
    rw [hd]
    simp only [Bool.true_and,Bool.and_eq_true,decide_eq_true_eq,beq_iff_eq,Int.toNat_natCast]
    exact ⟨h.1,h47⟩
   unfold day at hK
   rw [if_pos hsl,hd] at hK
   simp only [Int.toNat_natCast] at hK
   obtain ⟨q,eq,hq⟩:=parse_n (s.drop (nn + 1))
   rw [List.length_drop] at hq
   have w2:IntKind.wrap .i64 (((nn + 1:Nat):Int) + (P8.parse (s.drop (nn + 1))).2.1) = (nn:Int) + 1 + (P8.parse (s.drop (nn + 1))).2.1:=by rw [eq,wrap64 (by omega) (by omega)]; omega
   rw [w2]
   unfold dayT at hK
   refine ⟨by omega,by omega,by rw [List.length_drop]; omega,brn_intro (fun h1=>?_) (fun h1=>?_)⟩
   ·rw [if_neg] at hK
    ·exact hK
    ·simp only [Bool.or_eq_true,Bool.not_eq_true'] at h1
     simp only [Bool.and_eq_true,not_and,Bool.not_eq_true]
     rcases h1 with h1 | h1
     ·intro h2; rw [h1] at h2; cases h2
     ·intro _; exact h1
   ·rw [if_pos] at hK
    ·exact hK
    ·simp only [Bool.or_eq_false_iff,Bool.not_eq_false'] at h1
     rw [h1.1,h1.2]; first | done | rfl
  ·have hsl:slash s (date s) = false:=by
    cases hc:slash s (date s) with
    | false=>rfl
    | true =>
     unfold slash at hc
     rw [hd] at hc
     simp only [Bool.true_and,Bool.and_eq_true,decide_eq_true_eq,beq_iff_eq,Int.toNat_natCast] at hc
     have:(true && decide ((nn:Int) < (s.length:Int)) && (((s.getD nn 0).toNat:Int) == (47:Int))) = true:=by
      simp only [Bool.true_and,Bool.and_eq_true,decide_eq_true_eq]
      exact ⟨hc.1,by rw [hc.2]; rfl⟩
     rw [this] at h; cases h
   unfold day at hK
   rw [if_neg (by rw [hsl]; simp),hd] at hK
   unfold dayT at hK
   refine brn_intro (fun h1=>?_) (fun h1=>?_)
   ·rw [if_neg] at hK
    ·exact hK
    ·simp only [Bool.not_true,Bool.false_or,Bool.not_eq_true'] at h1
     rw [h1]; simp
   ·rw [if_pos] at hK
    ·exact hK
    ·simp only [Bool.not_true,Bool.false_or,Bool.not_eq_false'] at h1
     rw [h1]; first | done | rfl
theorem day_noD {s:List UInt8} (h:(date s).ok = false):day s = noDy:=by
 unfold day
 have hsl:slash s (date s) = false:=by unfold slash; rw [h]; first | done | rfl
 rw [if_neg (by rw [hsl]; simp)]
 unfold dayT
 rw [h]
 first | done | rfl
theorem after_not {s:List UInt8} {i:Nat} (h:¬ (i < s.length∧s.getD i 0 = 46)):after s i 46 = (0,0,false):=by
 unfold after
 by_cases hl:i < s.length
 ·rw [P8.getD_drop hl]
  simp only
  rw [if_neg (fun e=>h ⟨hl,e⟩)]
 ·rw [List.drop_eq_nil_of_le (by omega)]
theorem after_yes {s:List UInt8} {i:Nat} (h:i < s.length) (h2:s.getD i 0 = 46) :
  after s i 46 = ((number (s.drop (i + 1))).1,((i + 1:Nat):Int) + (number (s.drop (i + 1))).2.1,(number (s.drop (i + 1))).2.2):=by
 unfold after
 rw [P8.getD_drop h]
 simp only
 rw [if_pos h2]
theorem refnum_t {s:List UInt8} {i:Nat} (h:(number (s.drop i)).2.2 = true):refnum s i = ((number (s.drop i)).1,(i:Int) + (number (s.drop i)).2.1):=if_pos h
theorem refnum_neg {s:List UInt8} {i:Nat}:decide ((refnum s i).1 < 0) = !(number (s.drop i)).2.2:=by
 have:=refnum_ok (s:=s) (i:=i)
 cases h:(number (s.drop i)).2.2 with
 | true=>rw [h] at this; simp only [decide_eq_true_eq] at this; simp; omega
 | false=>rw [h] at this; simp only [decide_eq_false_iff_not] at this; simp; omega
theorem bad46 {s:List UInt8} {v:Int} {n:Nat} {ok:Bool} (hv:decide (v < 0) = !ok):(decide (v < 0) || decide ((n:Int)≥(s.length:Int)) || (((s.getD (Int.toNat (n:Int)) 0).toNat:Int) != (46:Int))) = !(ok && (decide (n < s.length) && decide (s.getD n 0 = 46))):=by
 rw [hv,Int.toNat_natCast]
 have e1:decide ((n:Int)≥(s.length:Int)) = !decide (n < s.length):=by rw [Bool.eq_iff_iff]; simp
 have e2:(((s.getD n 0).toNat:Int) != (46:Int)) = !decide (s.getD n 0 = 46):=by
  rw [Bool.eq_iff_iff]
  simp only [bne_iff_ne,ne_eq,Bool.not_eq_true',decide_eq_false_iff_not]
  constructor
  ·intro h e; exact h (by rw [e]; rfl)
  ·intro h e; exact h (UInt8.toNat_inj.1 (by show _ = 46; omega))
 rw [e1,e2]
 cases ok <;> cases decide (n < s.length) <;> cases decide (s.getD n 0 = 46) <;> rfl
theorem f45_ev (s:List UInt8) (hs:(s.length:Int)≤4000000000000000000) (K:List AV→Prop)
  (hK:K [dayAV (day s).k (day s).d (day s).m (day s).w (day s).e (day s).t,i64 (day s).n,bo (day s).ok]):evSpec Q0 Tryz.f46 [st s] K:=by
 refine Eq.mpr (f45_in s K _ rfl _ rfl _ rfl _ rfl _ rfl) ?_
 have T0:Int.toNat (0:Int) = 0:=rfl
 have T1:Int.toNat (1:Int) = 1:=rfl
 simp only [T0,T1]
 have dflt:(s = []∨(s.getD 0 0≠74∧s.getD 0 0≠77))→∀ n:Nat,(refnum s 0).2 = (n:Int)→((number (s.drop 0)).2.2 = true→date s = ⟨2,(refnum s 0).1,0,0,0,n,true⟩)∧((number (s.drop 0)).2.2 = false→(date s).ok = false):=fun h n en=>by
  refine ⟨fun hok=>?_,fun hok=>?_⟩
  ·rw [refnum_t hok] at en ⊢
   rw [List.drop_zero] at hok en ⊢
   rcases h with rfl | ⟨h74,h77⟩
   ·cases hok
   ·cases s with
    | nil=>cases hok
    | cons b r =>
     rw [date_cons,if_neg (by simpa using h74),if_neg (by simpa using h77)]
     simp only at en ⊢
     rw [hok]
     congr 1
     omega
  ·rw [List.drop_zero] at hok
   rcases h with rfl | ⟨h74,h77⟩
   ·rfl
   ·cases s with
    | nil=>rfl
    | cons b r =>
     rw [date_cons,if_neg (by simpa using h74),if_neg (by simpa using h77)]
     exact hok
 by_cases hne:s = []
 ·refine ⟨fun _=>by omega,fun h=>by simpa using h,brn_intro (fun h=>?_) (fun _=>⟨fun _=>by omega,fun h=>by simpa using h,brn_intro (fun h=>?_) (fun _=>?_)⟩)⟩
  ·subst hne; simp at h
  ·subst hne; simp at h
  ·obtain ⟨n,en,h1,h2⟩:=refnum_n s 0 (Nat.zero_le _)
   have dx:=dflt (.inl hne) n en
   rw [en]
   exact ⟨by decide,by omega,by omega,tail45 s 2 _ 0 0 0 _ n _ refnum_ok h2 hs dx.1 dx.2 K hK⟩
 ·obtain ⟨b,r,rfl⟩:∃ b r,s = b :: r:=by
   cases s with
   | nil=>exact absurd rfl hne
   | cons b r=>exact ⟨b,r,rfl⟩
  have hl:((b :: r).length:Int) = (r.length:Int) + 1:=by simp
  refine ⟨fun _=>by omega,fun h=>by simpa using h,brn_intro (fun h=>?_) (fun h=>?_)⟩
  ·rw [Bool.and_eq_true] at h
   have hb:b = 74:=u8s (s:=b :: r) (i:=0) (c:=74) |>.1 h.2
   subst hb
   obtain ⟨n,en,h1,h2⟩:=refnum_n (74 :: r) 1 (by simp)
   rw [en]
   refine ⟨by decide,by omega,by omega,tail45 (74 :: r) 1 _ 0 0 0 _ n _ refnum_ok h2 hs (fun hok=>?_) (fun hok=>?_) K hK⟩
   ·have e1:(74 :: r:List UInt8).drop 1 = r:=rfl
    rw [refnum_t hok] at en ⊢
    rw [e1] at en hok ⊢
    simp only at en ⊢
    rw [date_cons,if_pos rfl,hok]
    congr 1
    omega
   ·exact hok
  ·have hb74:b≠74:=fun e=>by
    subst e
    simp at h
   refine ⟨fun _=>by omega,fun h=>by simpa using h,brn_intro (fun h=>?_) (fun h=>?_)⟩
   ·rw [Bool.and_eq_true] at h
    have hb:b = 77:=u8s (s:=b :: r) (i:=0) (c:=77) |>.1 h.2
    subst hb
    have hdate:date (77 :: r) = dateM (77 :: r):=rfl
    obtain ⟨n,en,h1,h2⟩:=refnum_n (77 :: r) 1 (by simp)
    have w1:IntKind.wrap .i64 ((n:Int) + 1) = ((n + 1:Nat):Int):=by rw [wrap64 (by omega) (by omega)]; first | done | rfl
    simp only [en,w1,Int.toNat_natCast (n + 1)]
    refine ⟨by decide,by omega,by omega,fun _=>by omega,fun h=>?_,?_⟩
    ·simp only [Bool.or_eq_false_iff,decide_eq_false_iff_not] at h; omega
    rw [bad46 refnum_neg]
    refine brn_intro (fun h3=>?_) (fun h3=>?_)
    ·have:(date (77 :: r)).ok = false:=by
      rw [hdate]
      unfold dateM
      cases hok:(number ((77 :: r:List UInt8).drop 1)).2.2 with
      | false=>rfl
      | true =>
       rw [hok] at h3
       rw [refnum_t hok] at en
       simp only at en
       rw [if_pos rfl]
       have en':(number ((77 :: r:List UInt8).drop 1)).2.1.toNat + 1 = n:=by omega
       rw [en',after_not (fun hh=>by
        have e1:decide (n < (77 :: r:List UInt8).length) = true:=by simpa using hh.1
        have e2:decide ((77 :: r:List UInt8).getD n 0 = 46) = true:=by rw [decide_eq_true_eq]; exact hh.2
        rw [e1,e2] at h3
        cases h3)]
       rfl
     rw [day_noD this] at hK
     exact hK
    ·simp only [Bool.not_eq_false',Bool.and_eq_true,decide_eq_true_eq] at h3
     obtain ⟨hok,hlt,h46⟩:=h3
     obtain ⟨n2,en2,g1,g2⟩:=refnum_n (77 :: r) (n + 1) (by omega)
     have w2:IntKind.wrap .i64 ((n2:Int) + 1) = ((n2 + 1:Nat):Int):=by rw [wrap64 (by omega) (by omega)]; first | done | rfl
     simp only [en2,w2,Int.toNat_natCast (n2 + 1)]
     have en':(number ((77 :: r:List UInt8).drop 1)).2.1.toNat + 1 = n:=by
      rw [refnum_t hok] at en
      simp only at en
      omega
     have hd1:dateM (77 :: r) = if (number ((77 :: r:List UInt8).drop (n + 1))).2.2 then (⟨3,0,(number ((77 :: r:List UInt8).drop 1)).1,(number ((77 :: r:List UInt8).drop (n + 1))).1,(after (77 :: r) (((n + 1:Nat):Int) + (number ((77 :: r:List UInt8).drop (n + 1))).2.1).toNat 46).1,
       (after (77 :: r) (((n + 1:Nat):Int) + (number ((77 :: r:List UInt8).drop (n + 1))).2.1).toNat 46).2.1,(after (77 :: r) (((n + 1:Nat):Int) + (number ((77 :: r:List UInt8).drop (n + 1))).2.1).toNat 46).2.2⟩:D) else noD:=by
      unfold dateM
      rw [if_pos hok,en',after_yes hlt h46]
     refine ⟨by omega,by omega,by omega,fun _=>by omega,fun h=>?_,?_⟩
     ·simp only [Bool.or_eq_false_iff,decide_eq_false_iff_not] at h; omega
     rw [bad46 refnum_neg]
     refine brn_intro (fun h4=>?_) (fun h4=>?_)
     ·have:(date (77 :: r)).ok = false:=by
       rw [hdate,hd1]
       cases hok2:(number ((77 :: r:List UInt8).drop (n + 1))).2.2 with
       | false=>rfl
       | true =>
        rw [hok2] at h4
        rw [refnum_t hok2] at en2
        simp only at en2
        rw [if_pos rfl]
        have en2':(((n + 1:Nat):Int) + (number ((77 :: r:List UInt8).drop (n + 1))).2.1).toNat = n2:=by omega
        rw [en2',after_not (fun hh=>by
         have e1:decide (n2 < (77 :: r:List UInt8).length) = true:=by simpa using hh.1
         have e2:decide ((77 :: r:List UInt8).getD n2 0 = 46) = true:=by rw [decide_eq_true_eq]; exact hh.2
         rw [e1,e2] at h4
         cases h4)]
      rw [day_noD this] at hK
      exact hK
     ·simp only [Bool.not_eq_false',Bool.and_eq_true,decide_eq_true_eq] at h4
      obtain ⟨hok2,hlt2,h462⟩:=h4
      obtain ⟨n3,en3,q1,q2⟩:=refnum_n (77 :: r) (n2 + 1) (by omega)
      have en2':(((n + 1:Nat):Int) + (number ((77 :: r:List UInt8).drop (n + 1))).2.1).toNat = n2:=by
       rw [refnum_t hok2] at en2
       simp only at en2
       omega
      rw [if_pos hok2,en2',after_yes hlt2 h462] at hd1
      rw [en3]
      refine ⟨by omega,by omega,by omega,tail45 (77 :: r) 3 0 _ _ _ _ n3 _ refnum_ok q2 hs (fun hok3=>?_) (fun hok3=>?_) K hK⟩
      ·rw [hdate,hd1]
       rw [refnum_t hok,refnum_t hok2]
       rw [refnum_t hok3] at en3 ⊢
       simp only at en3 ⊢
       rw [hok3]
       congr 1
      ·rw [hdate,hd1]
       exact hok3
   ·have hb77:b≠77:=fun e=>by
     subst e
     simp at h
    obtain ⟨n,en,h1,h2⟩:=refnum_n (b :: r) 0 (Nat.zero_le _)
    have dx:=dflt (.inr ⟨hb74,hb77⟩) n en
    rw [en]
    exact ⟨by decide,by omega,by omega,tail45 (b :: r) 2 _ 0 0 0 _ n _ refnum_ok h2 hs dx.1 dx.2 K hK⟩
theorem ok45:∀ args pres res,sDayR args = some (pres,res)→SpecOK Tryz.prog P8.G8 46 args pres res:=by
 intro args pres res h
 unfold sDayR at h
 split at h
 case h_2=>cases h
 cases h
 rename_i s
 exact mk okR0 Tryz.func46 (by kernel_rfl) (by kernel_rfl) (fun hp K hK=>f45_ev s (hp _ (List.mem_cons_self ..)) K hK)
theorem okR1:EOK Tryz.prog R1 P8.G8:=addE_ok (addE_ok okR0 ok45) ok14
theorem f21_a (s:List UInt8) (N:St→Prop) (K:List AV→Prop) (P1:List UInt8×Int×Bool) (hP1:P1 = P7.parse s) (P2:Int×Int×Bool) (hP2:P2 = P8.parse (List.take (s.length - (Prod.snd P1).1.toNat) (List.drop (Prod.snd P1).1.toNat s))):evCode QU a21 (e21 s) (kN N (finK QU Tryz.f22 K)) = (s.length≤9223372036854775800∧brn (!(Prod.snd P1).2) (K [.agg (R17 (Ru.a zR) 0 false (Ru.b zR) 0 0 0 0 0 0 0 0 0 0 0 0 0),i64 14,i64 0]) ((0:Int)≤(Prod.snd P1).1∧(Prod.snd P1).1≤(s.length:Int)∧(↑(List.take (s.length - (Prod.snd P1).1.toNat) (List.drop (Prod.snd P1).1.toNat s)).length:Int)≤P8.big∧brn (!(Prod.snd P2).2 || !side (Prod.fst P2)) (K [.agg (R17 (Ru.a zR) 0 false (Ru.b zR) 0 0 0 0 0 0 0 0 0 0 0 0 0),i64 14,i64 (Prod.snd P1).1]) (brn (IntKind.wrap .i64 ((Prod.snd P1).1 + (Prod.snd P2).1) == (s.length:Int)) (K [.agg (R8 (Prod.fst P1) (IntKind.wrap .i64 ((0:Int) - Prod.fst P2))),i64 0,i64 0]) (N (St.mk (lapp [st s,.dead,.ptr 0 0,i64 0,i64 0,.ptr 1 0,st (Prod.fst P1),i64 (Prod.snd P1).1,bo (Prod.snd P1).2,i64 (Prod.fst P2),i64 (Prod.snd P2).1,bo (Prod.snd P2).2,i64 (IntKind.wrap .i64 ((Prod.snd P1).1 + (Prod.snd P2).1))] (lapp (dN 5)
 (lapp [.tup [st (Prod.fst P1),i64 (Prod.snd P1).1,bo (Prod.snd P1).2],st s,.tup [st (Prod.fst P1),i64 (Prod.snd P1).1,bo (Prod.snd P1).2],st (Prod.fst P1),i64 (Prod.snd P1).1,bo (Prod.snd P1).2,bo (Prod.snd P1).2,bo (!(Prod.snd P1).2)] (lapp (dN 4) (lapp [.tup [i64 (Prod.fst P2),i64 (Prod.snd P2).1,bo (Prod.snd P2).2],st s,i64 (Prod.snd P1).1,st (List.take (s.length - (Prod.snd P1).1.toNat) (List.drop (Prod.snd P1).1.toNat s)),.tup [i64 (Prod.fst P2),i64 (Prod.snd P2).1,bo (Prod.snd P2).2],i64 (Prod.fst P2),i64 (Prod.snd P2).1,bo (Prod.snd P2).2,bo (Prod.snd P2).2,bo (!(Prod.snd P2).2),bo (!(Prod.snd P2).2),.opt [((40:Nat),false)] (i64 (Prod.fst P2)),.opt [((40:Nat),false)] (bo (side (Prod.fst P2))),.opt [((40:Nat),false)] (bo (!side (Prod.fst P2))),bo (!(Prod.snd P2).2 || !side (Prod.fst P2))] (lapp (dN 5) (lapp [st (Prod.fst P1),.ptr 1 0,i64 (Prod.fst P2),i64 (IntKind.wrap .i64 ((0:Int) - Prod.fst P2)),.ptr 1 1,i64 (Prod.snd P1).1,i64 (Prod.snd P2).1,i64 (IntKind.wrap .i64 ((Prod.snd P1).1 + (Prod.snd P2).1)),i64 (IntKind.wrap .i64 ((Prod.snd P1).1 + (Prod.snd P2).1)),st s,i64 (s.length:Int),bo (IntKind.wrap .i64 ((Prod.snd
 P1).1 + (Prod.snd P2).1) == (s.length:Int))] (dN 110)))))))) [(0,Ob.mk true 0 (AObj.cells (R8 [] 0))),(1,Ob.mk true 0 (AObj.cells (R8 (Prod.fst P1) (IntKind.wrap .i64 ((0:Int) - Prod.fst P2)))))] (2:Nat) []))))):=by subst hP2; subst hP1; kernel_rfl
theorem f21_b (s:List UInt8) (i:Int) (a:List UInt8) (o:Int) (T:Nat→AV) (N:St→Prop) (K:List AV→Prop) (P1:List UInt8×Int×Bool) (hP1:P1 = P7.parse (List.take (s.length - i.toNat) (List.drop i.toNat s))) (w1:Int) (hw1:w1 = IntKind.wrap .i64 (i + (Prod.snd P1).1)) (P2:Int×Int×Bool) (hP2:P2 = P8.parse (List.take (s.length - Int.toNat w1) (List.drop (Int.toNat w1) s))):evCode QU b21 (S21 s i (R8 a o) T) (kN N (finK QU Tryz.f22 K)) = ((0:Int)≤i∧i≤(s.length:Int)∧(List.take (s.length - i.toNat) (List.drop i.toNat s)).length≤9223372036854775800∧brn (!(Prod.snd P1).2) (K [.agg (R17 (Ru.a zR) 0 false (Ru.b zR) 0 0 0 0 0 0 0 0 0 0 0 0 0),i64 14,i64 i]) ((0:Int)≤IntKind.wrap .i64 (i + (Prod.snd P1).1)∧IntKind.wrap .i64 (i + (Prod.snd P1).1)≤(s.length:Int)∧(↑(List.take (s.length - Int.toNat w1) (List.drop (Int.toNat w1) s)).length:Int)≤P8.big∧brn (Prod.snd P2).2 (brn (!side (Prod.fst P2)) (K [.agg (R17 (Ru.a zR) 0 false (Ru.b zR) 0 0 0 0 0 0 0 0 0 0 0 0 0),i64 14,i64 w1]) (N (St.mk (lapp [st s,T 1,.ptr 0 0,i64 0,i64 0,.ptr 1 0,T 6,i64 (Prod.snd P1).1,bo (Prod.snd P1).2,i64 (Prod.fst P2),i64 (Prod.snd P2).1,bo
 (Prod.snd P2).2,i64 (IntKind.wrap .i64 (IntKind.wrap .i64 (i + (Prod.snd P1).1) + (Prod.snd P2).1)),st (Prod.fst P1)] (lapp (tlR T 14 63) (lapp [.tup [st (Prod.fst P1),i64 (Prod.snd P1).1,bo (Prod.snd P1).2],st s,i64 i,st (List.take (s.length - i.toNat) (List.drop i.toNat s)),.tup [st (Prod.fst P1),i64 (Prod.snd P1).1,bo (Prod.snd P1).2],st (Prod.fst P1),i64 (Prod.snd P1).1,bo (Prod.snd P1).2,bo (Prod.snd P1).2,bo (!(Prod.snd P1).2)] (lapp (tlR T 73 78) (lapp [i64 i,i64 (Prod.snd P1).1,i64 w1,.ptr 1 2,st (Prod.fst P1),.ptr 1 3,.ptr 1 1,i64 o,i64 (IntKind.wrap .i64 (o + 3600)),.ptr 1 4,.tup [i64 (Prod.fst P2),i64 (Prod.snd P2).1,bo (Prod.snd P2).2],st s,i64 w1,st (List.take (s.length - Int.toNat w1) (List.drop (Int.toNat w1) s)),.tup [i64 (Prod.fst P2),i64 (Prod.snd P2).1,bo (Prod.snd P2).2],i64 (Prod.fst P2),i64 (Prod.snd P2).1,bo (Prod.snd P2).2,bo (Prod.snd P2).2,i64 (Prod.fst P2),bo (side (Prod.fst P2)),bo (!side (Prod.fst P2))] (lapp (tlR T 100 105) (lapp [i64 (Prod.fst P2),i64 (IntKind.wrap .i64 ((0:Int) - Prod.fst P2)),.ptr 1 4,i64 w1,i64 (Prod.snd P2).1,i64 (IntKind.wrap .i64 (IntKind.wrap .i64 (i + (Prod.snd P1).1) + (Prod.snd
 P2).1))] (tlR T 111 172)))))))) [(0,Ob.mk true 0 (AObj.cells (R8 [] 0))),(1,Ob.mk true 0 (AObj.cells (R17 a o true (Prod.fst P1) (IntKind.wrap .i64 ((0:Int) - Prod.fst P2)) 0 0 0 0 0 0 0 0 0 0 0 0)))] (2:Nat) []))) (N (St.mk (lapp [st s,T 1,.ptr 0 0,i64 0,i64 0,.ptr 1 0,T 6,i64 (Prod.snd P1).1,bo (Prod.snd P1).2,i64 (Prod.fst P2),i64 (Prod.snd P2).1,bo (Prod.snd P2).2,i64 w1,st (Prod.fst P1)] (lapp (tlR T 14 63) (lapp [.tup [st (Prod.fst P1),i64 (Prod.snd P1).1,bo (Prod.snd P1).2],st s,i64 i,st (List.take (s.length - i.toNat) (List.drop i.toNat s)),.tup [st (Prod.fst P1),i64 (Prod.snd P1).1,bo (Prod.snd P1).2],st (Prod.fst P1),i64 (Prod.snd P1).1,bo (Prod.snd P1).2,bo (Prod.snd P1).2,bo (!(Prod.snd P1).2)] (lapp (tlR T 73 78) (lapp [i64 i,i64 (Prod.snd P1).1,i64 w1,.ptr 1 2,st (Prod.fst P1),.ptr 1 3,.ptr 1 1,i64 o,i64 (IntKind.wrap .i64 (o + 3600)),.ptr 1 4,.tup [i64 (Prod.fst P2),i64 (Prod.snd P2).1,bo (Prod.snd P2).2],st s,i64 w1,st (List.take (s.length - Int.toNat w1) (List.drop (Int.toNat w1) s)),.tup [i64 (Prod.fst P2),i64 (Prod.snd P2).1,bo (Prod.snd P2).2],i64 (Prod.fst P2),i64 (Prod.snd P2).1,bo (Prod.snd P2).2,bo
 (Prod.snd P2).2] (tlR T 97 172)))))) [(0,Ob.mk true 0 (AObj.cells (R8 [] 0))),(1,Ob.mk true 0 (AObj.cells (R17 a o true (Prod.fst P1) (IntKind.wrap .i64 (o + 3600)) 0 0 0 0 0 0 0 0 0 0 0 0)))] (2:Nat) [])))):=by subst hP2; subst hw1; subst hP1; kernel_rfl
theorem f21_c (s:List UInt8) (i:Int) (a:List UInt8) (o:Int) (b:List UInt8) (p:Int) (T:Nat→AV) (N:St→Prop) (K:List AV→Prop) (w1:Int) (hw1:w1 = IntKind.wrap .i64 (i + 1)) (D1:Dy) (hD1:D1 = day (List.take (s.length - Int.toNat w1) (List.drop (Int.toNat w1) s))) (a1:Int) (ha1:a1 = IntKind.wrap .i64 (i + 1) + Dy.n D1) (w3:Int) (hw3:w3 = IntKind.wrap .i64 (IntKind.wrap .i64 a1 + 1)) (D2:Dy) (hD2:D2 = day (List.take (s.length - Int.toNat w3) (List.drop (Int.toNat w3) s))):evCode QU (q21 (18:Nat)) (S21 s i (R17 a o true b p (0:Int) (0:Int) (0:Int) (0:Int) (0:Int) (0:Int) (0:Int) (0:Int) (0:Int) (0:Int) (0:Int) (0:Int)) T) (kN N (finK QU Tryz.f22 K)) = ((decide (i≥(s.length:Int)) = false→(0:Int)≤i)∧(decide (i≥(s.length:Int)) = false→i < (s.length:Int))∧brn (decide (i≥(s.length:Int)) || (↑(UInt8.toNat (List.getD s i.toNat (0:UInt8))):Int) != 44) (K [.agg (R17 (Ru.a zR) 0 false (Ru.b zR) 0 0 0 0 0 0 0 0 0 0 0 0 0),i64 14,i64 i]) ((0:Int)≤IntKind.wrap .i64 (i + 1)∧IntKind.wrap .i64 (i + 1)≤(s.length:Int)∧(↑(List.take (s.length - Int.toNat w1) (List.drop (Int.toNat w1) s)).length :
 Int)≤4000000000000000000∧brn (!Dy.ok D1) (K [.agg (R17 (Ru.a zR) 0 false (Ru.b zR) 0 0 0 0 0 0 0 0 0 0 0 0 0),i64 14,i64 w1]) ((decide (IntKind.wrap .i64 a1≥(s.length:Int)) = false→(0:Int)≤IntKind.wrap .i64 a1)∧(decide (IntKind.wrap .i64 a1≥(s.length:Int)) = false→IntKind.wrap .i64 a1 < (s.length:Int))∧brn (decide (IntKind.wrap .i64 a1≥(s.length:Int)) || (↑(UInt8.toNat (List.getD s (IntKind.wrap .i64 a1).toNat (0:UInt8))):Int) != 44) (K [.agg (R17 (Ru.a zR) 0 false (Ru.b zR) 0 0 0 0 0 0 0 0 0 0 0 0 0),i64 14,i64 (IntKind.wrap .i64 a1)]) ((0:Int)≤IntKind.wrap .i64 (IntKind.wrap .i64 a1 + 1)∧IntKind.wrap .i64 (IntKind.wrap .i64 a1 + 1)≤(s.length:Int)∧(↑(List.take (s.length - Int.toNat w3) (List.drop (Int.toNat w3) s)).length:Int)≤4000000000000000000∧brn (!Dy.ok D2) (K [.agg (R17 (Ru.a zR) 0 false (Ru.b zR) 0 0 0 0 0 0 0 0 0 0 0 0 0),i64 14,i64 w3]) (N (St.mk (lapp [st s,clean1 (clean1 (T 1)),.ptr 0 0,i64 0,i64 0,.ptr 1 0] (lapp (tlC T 6 12) (lapp [i64 (IntKind.wrap .i64 (IntKind.wrap .i64 (IntKind.wrap .i64 a1 + 1) + Dy.n D2)),clean1 (clean1 (T (nat_lit 13))),i64 2,.ptr 3 0,i64 (Dy.n D2),bo (Dy.ok D2)] (lapp (tlC T 18
 111) (lapp [i64 2,bo false,i64 1,i64 2,i64 (IntKind.wrap .i64 a1),st s,i64 (s.length:Int),bo (decide (IntKind.wrap .i64 a1≥(s.length:Int))),bo (decide (IntKind.wrap .i64 a1≥(s.length:Int))),.opt [((119:Nat),false)] (st s),.opt [((119:Nat),false)] (i64 (IntKind.wrap .i64 a1)),.opt [((119:Nat),false)] (.imm (.int .u8 (↑(UInt8.toNat (List.getD s (IntKind.wrap .i64 a1).toNat (0:UInt8))):Int))),.opt [((119:Nat),false)] (bo ((↑(UInt8.toNat (List.getD s (IntKind.wrap .i64 a1).toNat (0:UInt8))):Int) != 44)),bo (decide (IntKind.wrap .i64 a1≥(s.length:Int)) || (↑(UInt8.toNat (List.getD s (IntKind.wrap .i64 a1).toNat (0:UInt8))):Int) != 44)] (lapp (tlC T 125 130) (lapp [.tup [dayAV (Dy.k D2) (Dy.d D2) (Dy.m D2) (Dy.w D2) (Dy.e D2) (Dy.t D2),i64 (Dy.n D2),bo (Dy.ok D2)],st s,i64 (IntKind.wrap .i64 a1),i64 w3,st (List.take (s.length - Int.toNat w3) (List.drop (Int.toNat w3) s)),.tup [dayAV (Dy.k D2) (Dy.d D2) (Dy.m D2) (Dy.w D2) (Dy.e D2) (Dy.t D2),i64 (Dy.n D2),bo (Dy.ok D2)],dayAV (Dy.k D2) (Dy.d D2) (Dy.m D2) (Dy.w D2) (Dy.e D2) (Dy.t D2),i64 (Dy.n D2),bo (Dy.ok D2),bo (Dy.ok D2),bo (!Dy.ok D2)] (lapp (tlC T 141 147) (lapp [i64
 (IntKind.wrap .i64 a1),i64 w3,i64 (Dy.n D2),i64 (IntKind.wrap .i64 (IntKind.wrap .i64 (IntKind.wrap .i64 a1 + 1) + Dy.n D2)),i64 1,bo false,dayAV (Dy.k D1) (Dy.d D1) (Dy.m D1) (Dy.w D1) (Dy.e D1) (Dy.t D1),.ptr 1 5,dayAV (Dy.k D2) (Dy.d D2) (Dy.m D2) (Dy.w D2) (Dy.e D2) (Dy.t D2),.ptr 1 11] (tlC T 157 172)))))))))) [(0,Ob.mk true 0 (AObj.cells (R8 [] 0))),(1,Ob.mk true 0 (AObj.cells (R17 a o true b p (Dy.k D1) (Dy.d D1) (Dy.m D1) (Dy.w D1) (Dy.e D1) (Dy.t D1) (Dy.k D2) (Dy.d D2) (Dy.m D2) (Dy.w D2) (Dy.e D2) (Dy.t D2)))),(2,Ob.mk true 0 (AObj.cells [i64 (Dy.k D1),i64 (Dy.d D1),i64 (Dy.m D1),i64 (Dy.w D1),i64 (Dy.e D1),i64 (Dy.t D1)])),(3,Ob.mk true 0 (AObj.cells [i64 (Dy.k D2),i64 (Dy.d D2),i64 (Dy.m D2),i64 (Dy.w D2),i64 (Dy.e D2),i64 (Dy.t D2)]))] (4:Nat) [])))))):=by subst hD2; subst hw3; subst ha1; subst hD1; subst hw1; kernel_rfl
theorem f21_d (s:List UInt8) (i:Int) (a:List UInt8) (o:Int) (h:Bool) (b:List UInt8) (p:Int) (k:Int) (d:Int) (m:Int) (w:Int) (e:Int) (t:Int) (k':Int) (d':Int) (m':Int) (w':Int) (e':Int) (t':Int) (X:List AV) (Y:List AV) (T:Nat→AV) (K:List AV→Prop):evCode QU (c21 (lrepl (19:Nat) Dir.r)) (S21e s i (R17 a o h b p k d m w e t k' d' m' w' e' t') X Y T) (finK QU Tryz.f22 K) = (((i != (s.length:Int)) = false→a.length≤9223372036854775807)∧((i != (s.length:Int)) = false→b.length≤9223372036854775807)∧brn (i != (s.length:Int) || !validRule a o h b p k d m w e t k' d' m' w' e' t') (K [.agg (R17 (Ru.a zR) 0 false (Ru.b zR) 0 0 0 0 0 0 0 0 0 0 0 0 0),i64 14,i64 i]) (K [.agg (R17 a o h b p k d m w e t k' d' m' w' e' t'),i64 0,i64 0])):=by kernel_rfl
end PA
set_option maxRecDepth 100000
namespace PA
open Go Go.AE Go.Proofs P9
attribute [local irreducible] loopK evCode evSpec loopB norm finK c21 q21
def seqR:List Code→Code→Code
 | [],c=>c
 | a :: l,c=>.seq a (seqR l c)
theorem evCode_seq (C:Cx) (a b:Code) (st:St) (k:AX→St→Prop):evCode C (.seq a b) st k = evCode C a st (kN (fun st=>evCode C b st k) k):=by
 conv=>lhs; unfold evCode
 congr 1
theorem evCode_cut (C:Cx) (q r:Code):∀ (l:List Code) (st:St) (k:AX→St→Prop),evCode C (seqR l (.seq q r)) st k = evCode C (seqR l q) st (kN (fun st=>evCode C r st k) k)
 | [],st,k=>evCode_seq C q r st k
 | a :: l,st,k=>by
  show evCode C (.seq a (seqR l (.seq q r))) st k = evCode C (.seq a (seqR l q)) st _
  rw [evCode_seq,evCode_seq]
  congr 1
  funext x st
  cases x with
  | normal=>exact evCode_cut C q r l st k
  | _=>rfl
theorem spec_code (C:Cx) (fn:Func) (args:List AV) (K:List AV→Prop) (c:Code) (h:fn.body = some c):evSpec C fn args K = evCode C c (entry fn.ntmps args st0) (finK C fn K):=by
 unfold evSpec evFunc
 rw [h]
 show evCode C c _ _ = _
 congr 1
 funext x st
 unfold finK
 cases x <;> rfl
theorem cut21 (s:List UInt8) (K:List AV→Prop):evSpec QU Tryz.f22 [st s] K = evCode QU a21 (e21 s) (kN (fun st=>evCode QU (c21 (lrepl 10 .r)) st (finK QU Tryz.f22 K)) (finK QU Tryz.f22 K)) :=
 (spec_code QU Tryz.f22 [st s] K (seqR [q21 0,q21 1,q21 2,q21 3,q21 4,q21 5,q21 6,q21 7,q21 8] (.seq (q21 9) (c21 (lrepl 10 .r)))) (by kernel_rfl)).trans
  ((congrArg (fun S=>evCode QU _ S _) (by kernel_rfl:entry Tryz.f22.ntmps [st s] st0 = e21 s)).trans ((evCode_cut QU (q21 9) (c21 (lrepl 10 .r)) [q21 0,q21 1,q21 2,q21 3,q21 4,q21 5,q21 6,q21 7,q21 8] (e21 s) _).trans (congrArg (fun c=>evCode QU c (e21 s) _) (by kernel_rfl:seqR [q21 0,q21 1,q21 2,q21 3,q21 4,q21 5,q21 6,q21 7,q21 8] (q21 9) = a21))))
theorem cut21b (st:St) (K:AX→St→Prop):evCode QU (c21 (lrepl 10 .r)) st K = evCode QU b21 st (kN (fun st=>evCode QU (c21 (lrepl 18 .r)) st K) K) :=
 (congrArg (fun c=>evCode QU c st K) (by kernel_rfl:c21 (lrepl 10 .r) = seqR [q21 10,q21 11,q21 12,q21 13,q21 14,q21 15,q21 16] (.seq (q21 17) (c21 (lrepl 18 .r))))).trans
  ((evCode_cut QU (q21 17) (c21 (lrepl 18 .r)) [q21 10,q21 11,q21 12,q21 13,q21 14,q21 15,q21 16] st K).trans (congrArg (fun c=>evCode QU c st _) (by kernel_rfl:seqR [q21 10,q21 11,q21 12,q21 13,q21 14,q21 15,q21 16] (q21 17) = b21)))
theorem cut21c (st:St) (K:AX→St→Prop):evCode QU (c21 (lrepl 18 .r)) st K = evCode QU (q21 18) st (kN (fun st=>evCode QU (c21 (lrepl 19 .r)) st K) K) :=
 (congrArg (fun c=>evCode QU c st K) (by kernel_rfl:c21 (lrepl 18 .r) = .seq (q21 18) (c21 (lrepl 19 .r)))).trans (evCode_seq QU (q21 18) (c21 (lrepl 19 .r)) st K)
theorem go21 {s:List UInt8} {i:Int} {R:List AV} {c:Code} {K:AX→St→Prop} {st':St} (h:st' = S21 s i R (fun j=>nth .dead st'.tmps j)) (H:∀ T,evCode QU c (S21 s i R T) K):evCode QU c st' K :=
 (congrArg (fun x=>evCode QU c x K) h).mpr (H _)
theorem go21e {s:List UInt8} {i:Int} {R X Y:List AV} {c:Code} {K:AX→St→Prop} {st':St} (h:st' = S21e s i R X Y (fun j=>nth .dead st'.tmps j)) (H:∀ T,evCode QU c (S21e s i R X Y T) K):evCode QU c st' K :=
 (congrArg (fun x=>evCode QU c x K) h).mpr (H _)
variable {s:List UInt8} {K:List AV→Prop}
theorem d21 (hs:(s.length:Int)≤1000000000000000000) (i:Nat) (r:Ru) (ha:r.a.length≤s.length) (hb:r.b.length≤s.length) (hK:K (res9 (endP s r i))) (X Y:List AV) (T:Nat→AV) :
  evCode QU (c21 (lrepl 19 .r)) (S21e s i r.cells X Y T) (finK QU Tryz.f22 K):=by
 refine Eq.mpr (f21_d s i r.a r.o r.h r.b r.p r.S.k r.S.d r.S.m r.S.w r.S.e r.S.t r.E.k r.E.d r.E.m r.E.w r.E.e r.E.t X Y T K) ?_
 unfold endP validRu at hK
 refine ⟨fun _=>by omega,fun _=>by omega,brn_intro (fun h=>?_) (fun h=>?_)⟩
 ·simp only [Bool.or_eq_true,bne_iff_ne,ne_eq,Bool.not_eq_true'] at h
  have hK':K (res9 (.stop i)):=by
   by_cases h1:i = s.length
   ·rw [if_pos h1,if_neg] at hK
    ·exact hK
    ·rcases h with h | h
     ·omega
     ·rw [h]; simp
   ·rw [if_neg h1] at hK; exact hK
  exact Eq.mp (by kernel_rfl) hK'
 ·simp only [Bool.or_eq_false_iff,bne_eq_false_iff_eq,Bool.not_eq_false'] at h
  rw [if_pos (by omega),if_pos h.2] at hK
  exact Eq.mp (by kernel_rfl) hK
theorem bad44 {i:Nat}:(decide ((i:Int)≥(s.length:Int)) || (((s.getD (Int.toNat (i:Int)) 0).toNat:Int) != (44:Int))) = !comma s i:=by
 rw [comma_eq,Int.toNat_natCast]
 have e1:decide ((i:Int)≥(s.length:Int)) = !decide (i < s.length):=by rw [Bool.eq_iff_iff]; simp
 have e2:(((s.getD i 0).toNat:Int) != (44:Int)) = !(s.getD i 0 == 44):=by
  rw [Bool.eq_iff_iff]
  simp only [bne_iff_ne,ne_eq,Bool.not_eq_true',beq_eq_false_iff_ne]
  constructor
  ·intro h e; exact h (by rw [e]; rfl)
  ·intro h e; exact h (UInt8.toNat_inj.1 (by show _ = 44; omega))
 rw [e1,e2]
 cases decide (i < s.length) <;> cases (s.getD i 0 == 44) <;> rfl
theorem c21_ev (hs:(s.length:Int)≤1000000000000000000) (i:Nat) (hi:i≤s.length) (a:List UInt8) (o:Int) (b:List UInt8) (p:Int) (ha:a.length≤s.length) (hb:b.length≤s.length)
  (hK:K (res9 (commaQ s i fun i=>dayQ s i fun S i=>commaQ s i fun i=>dayQ s i fun E i=>endP s ⟨a,o,true,b,p,S,E⟩ i))) (T:Nat→AV) :
  evCode QU (c21 (lrepl 18 .r)) (S21 s i (R17 a o true b p 0 0 0 0 0 0 0 0 0 0 0 0) T) (finK QU Tryz.f22 K):=by
 rw [cut21c]
 refine Eq.mpr (f21_c s i a o b p T _ K _ rfl _ rfl _ rfl _ rfl _ rfl) ?_
 unfold commaQ dayQ at hK
 have w1:IntKind.wrap .i64 ((i:Int) + 1) = ((i + 1:Nat):Int):=by rw [wrap64 (by omega) (by omega)]; first | done | rfl
 obtain ⟨n,en,hn⟩:=day_n (s.drop (i + 1))
 rw [List.length_drop] at hn
 rw [w1]
 simp only [Int.toNat_natCast (i + 1),P9.take_rest,en] at hK ⊢
 rw [bad44]
 refine ⟨fun _=>by omega,fun h=>by simpa using h,brn_intro (fun h=>?_) (fun h=>?_)⟩
 ·simp only [Bool.not_eq_true'] at h
  rw [h,if_neg (by simp)] at hK
  exact Eq.mp (by kernel_rfl) hK
 ·simp only [Bool.not_eq_false'] at h
  have hlt:=comma_lt h
  rw [h,if_pos rfl] at hK
  have w2:IntKind.wrap .i64 (((i + 1:Nat):Int) + (n:Int)) = ((i + 1 + n:Nat):Int):=by rw [wrap64 (by omega) (by omega)]; omega
  have w3:IntKind.wrap .i64 (((i + 1 + n:Nat):Int) + 1) = ((i + 1 + n + 1:Nat):Int):=by rw [wrap64 (by omega) (by omega)]; first | done | rfl
  obtain ⟨n2,en2,hn2⟩:=day_n (s.drop (i + 1 + n + 1))
  rw [List.length_drop] at hn2
  simp only [w2,w3,Int.toNat_natCast (i + 1 + n + 1),P9.take_rest,en2,Int.toNat_natCast n] at hK ⊢
  refine ⟨by omega,by omega,by rw [List.length_drop]; omega,brn_intro (fun h1=>?_) (fun h1=>?_)⟩
  ·simp only [Bool.not_eq_true'] at h1
   rw [h1,if_neg (by simp)] at hK
   exact Eq.mp (by kernel_rfl) hK
  ·simp only [Bool.not_eq_false'] at h1
   rw [h1,if_pos rfl] at hK
   rw [bad44]
   refine ⟨fun _=>by omega,fun h=>by simpa using h,brn_intro (fun h2=>?_) (fun h2=>?_)⟩
   ·simp only [Bool.not_eq_true'] at h2
    rw [h2,if_neg (by simp)] at hK
    exact Eq.mp (by kernel_rfl) hK
   ·simp only [Bool.not_eq_false'] at h2
    have hlt2:=comma_lt h2
    rw [h2,if_pos rfl] at hK
    refine ⟨by omega,by omega,by rw [List.length_drop]; omega,brn_intro (fun h3=>?_) (fun h3=>?_)⟩
    ·simp only [Bool.not_eq_true'] at h3
     rw [h3,if_neg (by simp)] at hK
     exact Eq.mp (by kernel_rfl) hK
    ·simp only [Bool.not_eq_false'] at h3
     rw [h3,if_pos rfl] at hK
     have w4:IntKind.wrap .i64 (((i + 1 + n + 1:Nat):Int) + (n2:Int)) = ((i + 1 + n + 1 + n2:Nat):Int):=by rw [wrap64 (by omega) (by omega)]; omega
     simp only [w4,Int.toNat_natCast n2] at hK ⊢
     exact go21e (i:=((i + 1 + n + 1 + n2:Nat):Int)) (R:=(⟨a,o,true,b,p,(day (s.drop (i + 1))).dv,(day (s.drop (i + 1 + n + 1))).dv⟩:Ru).cells)
      (X:=[i64 (day (s.drop (i + 1))).k,i64 (day (s.drop (i + 1))).d,i64 (day (s.drop (i + 1))).m,i64 (day (s.drop (i + 1))).w,i64 (day (s.drop (i + 1))).e,i64 (day (s.drop (i + 1))).t])
      (Y:=[i64 (day (s.drop (i + 1 + n + 1))).k,i64 (day (s.drop (i + 1 + n + 1))).d,i64 (day (s.drop (i + 1 + n + 1))).m,i64 (day (s.drop (i + 1 + n + 1))).w,i64 (day (s.drop (i + 1 + n + 1))).e,i64 (day (s.drop (i + 1 + n + 1))).t])
      (by kernel_rfl) (fun T=>d21 hs _ _ ha hb hK _ _ T)
theorem b21_ev (hs:(s.length:Int)≤1000000000000000000) (i:Nat) (hi:i≤s.length) (a:List UInt8) (o:Int) (ho0:-89999≤o) (ho1:o≤89999) (ha:a.length≤s.length)
  (hK:K (res9 (dstQ s i a o (endP s)))) (T:Nat→AV):evCode QU (c21 (lrepl 10 .r)) (S21 s i (R8 a o) T) (finK QU Tryz.f22 K):=by
 have hb8:P8.big = 9223372036854775000:=rfl
 rw [cut21b]
 refine Eq.mpr (f21_b s i a o T _ K _ rfl _ rfl _ rfl) ?_
 unfold dstQ nameQ dstOffQ offQ at hK
 obtain ⟨n,en,hn,hl⟩:=parse7_n (s.drop i)
 rw [List.length_drop] at hn hl
 have w1:IntKind.wrap .i64 ((i:Int) + (n:Int)) = ((i + n:Nat):Int):=by rw [wrap64 (by omega) (by omega)]; first | done | rfl
 simp only [Int.toNat_natCast i,P9.take_rest,en,w1,Int.toNat_natCast (i + n),Int.toNat_natCast n] at hK ⊢
 refine ⟨by omega,by omega,by rw [List.length_drop]; omega,brn_intro (fun h=>?_) (fun h=>?_)⟩
 ·simp only [Bool.not_eq_true'] at h
  rw [h,if_neg (by simp)] at hK
  exact Eq.mp (by kernel_rfl) hK
 ·simp only [Bool.not_eq_false'] at h
  rw [h,if_pos rfl] at hK
  obtain ⟨m,em,hm⟩:=parse_n (s.drop (i + n))
  rw [List.length_drop] at hm
  have w2:IntKind.wrap .i64 (((i + n:Nat):Int) + (m:Int)) = ((i + n + m:Nat):Int):=by rw [wrap64 (by omega) (by omega)]; first | done | rfl
  have w3:IntKind.wrap .i64 (o + 3600) = o + 3600:=wrap64 (by omega) (by omega)
  simp only [em,w2,w3,Int.toNat_natCast m] at hK ⊢
  refine ⟨by omega,by omega,by rw [List.length_drop]; omega,brn_intro (fun h1=>?_) (fun h1=>?_)⟩
  ·rw [h1,if_pos rfl] at hK
   refine brn_intro (fun h2=>?_) (fun h2=>?_)
   ·simp only [Bool.not_eq_true'] at h2
    rw [h2,if_neg (by simp)] at hK
    exact Eq.mp (by kernel_rfl) hK
   ·simp only [Bool.not_eq_false'] at h2
    obtain ⟨b0,b1⟩:=side_b h2
    rw [h2,if_pos (by rfl)] at hK
    have w4:IntKind.wrap .i64 (0 - (P8.parse (s.drop (i + n))).1) = 0 - (P8.parse (s.drop (i + n))).1:=wrap64 (by omega) (by omega)
    simp only [w4]
    exact go21 (i:=((i + n + m:Nat):Int)) (R:=R17 a o true (P7.parse (s.drop i)).1 (0 - (P8.parse (s.drop (i + n))).1) 0 0 0 0 0 0 0 0 0 0 0 0) (by kernel_rfl)
     (fun T=>c21_ev hs _ (by omega) a o _ _ ha (by omega) hK T)
  ·rw [h1,if_neg (by simp)] at hK
   exact go21 (i:=((i + n:Nat):Int)) (R:=R17 a o true (P7.parse (s.drop i)).1 (o + 3600) 0 0 0 0 0 0 0 0 0 0 0 0) (by kernel_rfl)
     (fun T=>c21_ev hs _ (by omega) a o _ _ ha (by omega) hK T)
theorem parse7_valid {s:List UInt8} (h:(P7.parse s).2.2 = true):P7.valid (P7.parse s).1 = true:=by
 have hP:∀ s,(P7.parseP s).2.2 = true→P7.valid (P7.parseP s).1 = true:=by
  intro s h
  unfold P7.parseP at h ⊢
  split at h
  ·rename_i hv; rw [if_pos hv]; exact hv
  ·cases h
 unfold P7.parse at h ⊢
 split at h
 ·split at h
  ·rename_i hb
   simp only [hb,if_true]
   unfold P7.parseQ at h ⊢
   split at h
   ·rename_i hp
    rw [if_pos hp]
    split at h
    ·rename_i hv; rw [if_pos hv]; exact hv
    ·cases h
   ·cases h
  ·rename_i hb
   simp only [hb,if_false]
   exact hP _ h
 ·exact hP _ h
theorem validRu_std {a:List UInt8} {o:Int} (ha:P7.valid a = true) (ho:side o = true):validRu (stdR a o) = true:=by
 unfold validRu validRule stdR
 simp only
 rw [ha,ho]
 first | done | rfl
theorem f21_ev (s:List UInt8) (hs:(s.length:Int)≤1000000000000000000) (K:List AV→Prop) (hK:K (res9 (parse9 s))):evSpec QU Tryz.f22 [st s] K:=by
 have hb8:P8.big = 9223372036854775000:=rfl
 rw [cut21]
 refine Eq.mpr (f21_a s _ K _ rfl _ rfl) ?_
 unfold parse9 nameQ offQ at hK
 rw [List.drop_zero] at hK
 obtain ⟨n,en,hn,hl⟩:=parse7_n s
 simp only [en,Int.toNat_natCast n,P9.take_rest,Nat.zero_add] at hK ⊢
 refine ⟨by omega,brn_intro (fun h=>?_) (fun h=>?_)⟩
 ·simp only [Bool.not_eq_true'] at h
  rw [h,if_neg (by simp)] at hK
  exact Eq.mp (by kernel_rfl) hK
 ·simp only [Bool.not_eq_false'] at h
  rw [h,if_pos rfl] at hK
  have hv:=parse7_valid h
  obtain ⟨m,em,hm⟩:=parse_n (s.drop n)
  rw [List.length_drop] at hm
  have w2:IntKind.wrap .i64 ((n:Int) + (m:Int)) = ((n + m:Nat):Int):=by rw [wrap64 (by omega) (by omega)]; first | done | rfl
  simp only [em,w2,Int.toNat_natCast m] at hK ⊢
  refine ⟨by omega,by omega,by rw [List.length_drop]; omega,brn_intro (fun h1=>?_) (fun h1=>?_)⟩
  ·have:((P8.parse (s.drop n)).2.2 && side (P8.parse (s.drop n)).1) = false:=by
    simp only [Bool.or_eq_true,Bool.not_eq_true'] at h1
    rcases h1 with h1 | h1 <;> simp [h1]
   rw [if_neg (by rw [this]; simp)] at hK
   exact Eq.mp (by kernel_rfl) hK
  ·simp only [Bool.or_eq_false_iff,Bool.not_eq_false'] at h1
   obtain ⟨b0,b1⟩:=side_b h1.2
   rw [h1.1,h1.2,if_pos (by rfl)] at hK
   have w4:IntKind.wrap .i64 (0 - (P8.parse (s.drop n)).1) = 0 - (P8.parse (s.drop n)).1:=wrap64 (by omega) (by omega)
   simp only [w4]
   refine brn_intro (fun h2=>?_) (fun h2=>?_)
   ·have e:n + m = s.length:=by
     simp only [beq_iff_eq] at h2; omega
    rw [if_neg (by omega)] at hK
    unfold endP at hK
    rw [if_pos e,validRu_std hv (by unfold side; simp only [Bool.and_eq_true,decide_eq_true_eq]; omega)] at hK
    exact Eq.mp (by kernel_rfl) hK
   ·have e:n + m < s.length:=by
     simp only [beq_eq_false_iff_ne,ne_eq] at h2; omega
    rw [if_pos e] at hK
    exact go21 (i:=((n + m:Nat):Int)) (R:=R8 (P7.parse s).1 (0 - (P8.parse (s.drop n)).1)) (by kernel_rfl)
     (fun T=>b21_ev hs _ (by omega) _ _ (by omega) (by omega) (by omega) hK T)
theorem ok21:∀ args pres res,sParseP args = some (pres,res)→SpecOK Tryz.prog P8.G8 22 args pres res:=by
 intro args pres res h
 unfold sParseP at h
 split at h
 case h_2=>cases h
 cases h
 rename_i s
 refine mku okR1 Tryz.func22 (by kernel_rfl) (by kernel_rfl) (fun hp K hK=>?_)
 have h1:=hp _ (List.mem_cons_self ..)
 exact f21_ev s h1 K (by rw [res9_eq]; exact hK)
end PA
set_option maxRecDepth 100000
namespace PA
open Go Go.AE Go.Proofs P9
attribute [local irreducible] loopK evCode evSpec loopB norm
theorem rule_parts {a:List UInt8} {o:Int} {h:Bool} {b:List UInt8} {p k d m w e t k' d' m' w' e' t':Int} (hv:validRule a o h b p k d m w e t k' d' m' w' e' t' = true) :
  P7.valid a = true∧-89999≤o∧o≤89999∧(h = true→P7.valid b = true∧-89999≤p∧p≤89999∧validDay k d m w e t = true∧validDay k' d' m' w' e' t' = true) ∧
   (h = false→b = []∧p = 0∧k = 0∧d = 0∧m = 0∧w = 0∧e = 0∧t = 0∧k' = 0∧d' = 0∧m' = 0∧w' = 0∧e' = 0∧t' = 0):=by
 unfold validRule at hv
 simp only [Bool.and_eq_true] at hv
 obtain ⟨⟨ha,ho⟩,hr⟩:=hv
 obtain ⟨o0,o1⟩:=side_b ho
 refine ⟨ha,o0,o1,fun hh=>?_,fun hh=>?_⟩
 ·rw [if_pos hh] at hr
  simp only [Bool.and_eq_true] at hr
  obtain ⟨⟨⟨hb,hp⟩,hs⟩,he⟩:=hr
  obtain ⟨p0,p1⟩:=side_b hp
  exact ⟨hb,p0,p1,hs,he⟩
 ·rw [hh] at hr
  simpa [Bool.and_eq_true,decide_eq_true_eq,and_assoc] using hr
theorem okR2:EOK Tryz.prog R2 P8.G8:=addE_ok (addE_ok okR1 ok21) ok18
theorem okP_rule {s:List UInt8} (h:okP s = true):parse9 s = .rule (ruP s)∧validRu (ruP s) = true:=by
 unfold okP whyP whyOf at h
 unfold ruP ruOf
 cases hp:parse9 s with
 | stop j=>rw [hp] at h; cases h
 | rule r=>exact ⟨rfl,parse9_valid hp⟩
theorem ok17:∀ args pres res,sExt args = some (pres,res)→SpecOK Tryz.prog P8.G8 18 args pres res:=by
 intro args pres res h
 unfold sExt at h
 split at h
 case h_2=>cases h
 cases h
 rename_i a o h b p k d m w e t k' d' m' w' e' t'
 refine mku okR0 Tryz.func18 (by kernel_rfl) (by kernel_rfl) (fun hp K hK=>?_)
 refine Eq.mpr (f17_in a o h b p k d m w e t k' d' m' w' e' t' K) ?_
 have fin:∀ x,x = (h && (late t || late t'))→K [.imm (.bool x)]:=fun x hx=>by rw [hx]; exact hK
 refine ⟨by decide,(by decide:(0:Int) < 2),rfl,brn_intro (fun h1=>fin _ ?_) (fun h1=>⟨by decide,(by decide:IntKind.wrap .i64 (0 + 1) < 2),rfl,brn_intro (fun h2=>fin _ ?_) (fun h2=>fin _ ?_)⟩)⟩
 ·have h1':late t = true:=h1
  rw [h1']; simp
 ·have h1':late t = false:=h1
  have h2':late t' = true:=h2
  rw [h1',h2']; simp
 ·have h1':late t = false:=h1
  have h2':late t' = false:=h2
  rw [h1',h2']; simp
end PA
namespace PA
open Go Go.AE Go.Proofs P9
noncomputable def R4:=addE R2 18 sExt
theorem okR4:EOK Tryz.prog R4 P8.G8:=addE_ok okR2 ok17
end PA
namespace PE
open Go Go.AE Go.Proofs
def G16:Nat→Option (List AV):=P8.G8
structure Ty where
 o:Int
 d:Bool
 g:Int
deriving DecidableEq
def cellsT (t:Ty):List IV:=[.int .i32 t.o,.bool t.d,.int .u8 t.g]
def tyOf (el:List IV):Ty:=⟨ivInt (ivNth el 0),ivBool (ivNth el 1),ivInt (ivNth el 2)⟩
def tys (xs:List (List IV)):List Ty:=xs.map tyOf
def okTy (t:Ty):Prop:=-2147483648≤t.o∧t.o≤2147483647∧0≤t.g∧t.g≤255
def okT (xs:List (List IV)):Prop:=xs = (tys xs).map cellsT∧∀ t ∈ tys xs,okTy t
def bo (b:Bool):AV:=.imm (.bool b)
def i64 (n:Int):AV:=.imm (.int .i64 n)
def st (s:List UInt8):AV:=.imm (.str s)
def slT (L:List Ty):IV:=.sl 3 (L.map cellsT)
def be:Nat→Nat→List UInt8
 | 0,_=>[]
 | n + 1,v=>be n (v / 256) ++ [UInt8.ofNat (v % 256)]
def sgnN (n:Nat) (v:Nat):Int:=if v < 2 ^ (8 * n - 1) then (v:Int) else (v:Int) - 2 ^ (8 * n)
def u64 (n:Int):Nat:=(n % 18446744073709551616).toNat
def enc1 (t:Ty):List UInt8:=be 4 (u64 t.o) ++ [if t.d then 1 else 0,u8 t.g]
def enc:List Ty→List UInt8
 | []=>[]
 | t :: r=>enc1 t ++ enc r
def hold (t:Ty) (s:List UInt8):Bool:=t.o == 0 && !t.d && decide (s = [45,48,48])
def big:Int:=4611686018427387904
def sHalf:List AV→Option (List Prop×List AV)
 | [.imm (.int .i64 n)]=>some ([1≤n,n≤8],[.imm (.int .u64 (2 ^ (8 * n.toNat - 1)))])
 | _=>none
def sSameB:List AV→Option (List Prop×List AV)
 | [.imm (.bytes a),.imm (.bytes b)]=>some ([(a.length:Int)≤big,(b.length:Int)≤big],[bo (decide (a = b))])
 | _=>none
def sSameT:List AV→Option (List Prop×List AV)
 | [.imm (.sl 3 xs),.imm (.sl 3 ys)]=>some ([okT xs,okT ys,(xs.length:Int)≤big,(ys.length:Int)≤big],[bo (decide (tys xs = tys ys))])
 | _=>none
noncomputable def E1:=addE (addE PA.R4 72 sHalf) 30 sSameB
noncomputable def E2:=E1
noncomputable def E3:=addE E2 31 sSameT
noncomputable def E4:=E3
noncomputable def cx (E:FuncId→List AV→Option (List Prop×List AV)):Cx:=⟨Tryz.prog,E,noCall,G16,0⟩
noncomputable def C0:Cx:=cx noE
noncomputable def C1:Cx:=cx E1
noncomputable def C2:Cx:=cx E2
noncomputable def C3:Cx:=cx E3
noncomputable def C4:Cx:=cx E4
def by' (b:List UInt8):AV:=.imm (.bytes b)
def u6 (n:Int):AV:=.imm (.int .u64 n)
def tl' (xs:List (List IV)):AV:=.imm (.sl 3 xs)
def ln (n:Nat):AV:=.imm (.int .i64 (n:Int))
def rowB (l:List UInt8):List (Nat×Ob):=[(0,⟨true,0,.row (.bytes l)⟩)]
def rowT (L:List Ty):List (Nat×Ob):=[(0,⟨true,0,.row (slT L)⟩)]
def h30 (n p:Int) (i:Nat):St:=⟨spr [(0,i64 n),(3,u6 p),(4,ln i)] 0 13,[],0,[]⟩
def p30:Plan:=⟨[],msk [0,3,4] 0 13,[]⟩
def h11 (a b:List UInt8) (i:Nat):St:=⟨spr [(0,by' a),(1,by' b),(5,ln i)] 0 26,[],0,[]⟩
def p11:Plan:=⟨[],msk [0,1,5] 0 26,[]⟩
def h10 (a b:List (List IV)) (i:Nat):St:=⟨spr [(0,tl' a),(1,tl' b),(5,ln i)] 0 26,[],0,[]⟩
def h12 (xs:List (List IV)) (l:List UInt8) (i:Nat):St:=⟨spr [(3,.row 0 0),(11,tl' xs),(12,ln xs.length),(13,ln i)] 0 33,rowB l,1,[]⟩
def h13 (xs:List (List IV)) (l:List UInt8) (i:Nat):St:=⟨spr [(0,tl' xs),(3,.row 0 0),(4,ln i)] 0 36,rowB l,1,[]⟩
def h8 (b:List UInt8) (L:List Ty) (i:Nat):St:=⟨spr [(0,by' b),(4,.row 0 0),(5,ln i)] 0 33,rowT L,1,[]⟩
end PE
namespace PF
open Go Go.AE Go.Proofs PE
structure Lp where
 a:Int
 c:Int
deriving DecidableEq
def cellsL (l:Lp):List IV:=[.int .i64 l.a,.int .i32 l.c]
def lpOf (el:List IV):Lp:=⟨ivInt (ivNth el 0),ivInt (ivNth el 1)⟩
def lps (xs:List (List IV)):List Lp:=xs.map lpOf
def okLp (l:Lp):Prop:=-9223372036854775808≤l.a∧l.a≤9223372036854775807∧-2147483648≤l.c∧l.c≤2147483647
def okL (xs:List (List IV)):Prop:=xs = (lps xs).map cellsL∧∀ l ∈ lps xs,okLp l
def slL (L:List Lp):IV:=.sl 2 (L.map cellsL)
def u32 (n:Int):AV:=.imm (.int .u32 n)
def curAV (d:List UInt8) (p e a:Int):AV:=.agg [by' d,i64 p,i64 e,i64 a]
structure Cu where
 d:List UInt8
 p:Int
 e:Int
 a:Int
def Cu.av (c:Cu):AV:=curAV c.d c.p c.e c.a
structure Hd where
 v:Int
 iu:Int
 is:Int
 l:Int
 t:Int
 ty:Int
 c:Int
deriving DecidableEq
def hdAV (v iu is l t ty c:Int):AV:=.agg [i64 v,u32 iu,u32 is,u32 l,u32 t,u32 ty,u32 c]
def Hd.av (h:Hd):AV:=hdAV h.v h.iu h.is h.l h.t h.ty h.c
def blkAV (T:List Int) (I:List UInt8) (X:List (List IV)) (C:List UInt8) (L:List (List IV)) (S U:List Bool):AV :=
 .agg [.imm (.ints .i64 T),by' I,.imm (.sl 3 X),by' C,.imm (.sl 2 L),.imm (.bools S),.imm (.bools U)]
def l0 (h:Hd) (s:Int):Int:=h.t * s
def l1 (h:Hd):Int:=h.t
def l2 (h:Hd):Int:=6 * h.ty
def l3 (h:Hd):Int:=h.c
def l4 (h:Hd) (s:Int):Int:=h.l * (s + 4)
def l5 (h:Hd):Int:=h.is
def l6 (h:Hd):Int:=h.iu
def o1 (h:Hd) (s:Int):Int:=l0 h s
def o2 (h:Hd) (s:Int):Int:=o1 h s + l1 h
def o3 (h:Hd) (s:Int):Int:=o2 h s + l2 h
def o4 (h:Hd) (s:Int):Int:=o3 h s + l3 h
def o5 (h:Hd) (s:Int):Int:=o4 h s + l4 h s
def o6 (h:Hd) (s:Int):Int:=o5 h s + l5 h
def fewB (T:List Int) (I:List UInt8) (X:List (List IV)) (C:List UInt8) (L:List (List IV)) (S U:List Bool):Bool :=
 decide (T.length≤200) && decide (I.length≤200) && decide (X.length≤200) && decide (C.length≤600) && decide (L.length≤200) && decide (S.length≤200) && decide (U.length≤200)
def fitsP (v n:Int):Bool:=decide (n = 8) || (decide (-2147483648≤v) && decide (v < 2147483648))
def fitP (T:List Int) (n:Int):Bool:=T.all fun v=>fitsP v n
def sz48 (n:Int):Prop:=n = 4∨n = 8
def blkS (k:List Int→List UInt8→List (List IV)→List UInt8→List (List IV)→List Bool→List Bool→List AV→Option (List Prop×List AV)):List AV→Option (List Prop×List AV)
 | .agg [.imm (.ints .i64 T),.imm (.bytes I),.imm (.sl 3 X),.imm (.bytes C),.imm (.sl 2 L),.imm (.bools S),.imm (.bools U)] :: r=>k T I X C L S U r
 | _=>none
def sFew:List AV→Option (List Prop×List AV):=blkS fun T I X C L S U r=>match r with
 | []=>some ([],[bo (fewB T I X C L S U)])
 | _=>none
def big':Int:=1000000000000
def sSameI:List AV→Option (List Prop×List AV)
 | [.imm (.ints .i64 a),.imm (.ints .i64 b)]=>some ([(a.length:Int)≤big',(b.length:Int)≤big'],[bo (decide (a = b))])
 | _=>none
def sSameL:List AV→Option (List Prop×List AV)
 | [.imm (.sl 2 xs),.imm (.sl 2 ys)]=>some ([okL xs,okL ys,(xs.length:Int)≤big',(ys.length:Int)≤big'],[bo (decide (lps xs = lps ys))])
 | _=>none
def sSameO:List AV→Option (List Prop×List AV)
 | [.imm (.bools a),.imm (.bools b)]=>some ([(a.length:Int)≤big',(b.length:Int)≤big'],[bo (decide (a = b))])
 | _=>none
def sameK (T:List Int) (I:List UInt8) (X:List (List IV)) (C:List UInt8) (L:List (List IV)) (S U:List Bool) (T':List Int) (I':List UInt8) (X':List (List IV)) (C':List UInt8) (L':List (List IV)) (S' U':List Bool):Bool :=
 decide (T = T') && (decide (I = I') && (decide (tys X = tys X') && (decide (C = C') && (decide (lps L = lps L') && (decide (S = S') && decide (U = U'))))))
def okB (T:List Int) (I:List UInt8) (X:List (List IV)) (C:List UInt8) (L:List (List IV)) (S U:List Bool):Prop :=
 okT X∧okL L∧(T.length:Int)≤big'∧(I.length:Int)≤big'∧(X.length:Int)≤big'∧(C.length:Int)≤big'∧(L.length:Int)≤big'∧(S.length:Int)≤big'∧(U.length:Int)≤big'
def sEqual:List AV→Option (List Prop×List AV):=blkS fun T I X C L S U r=>blkS (fun T' I' X' C' L' S' U' r=>match r with
 | []=>some ([okB T I X C L S U,okB T' I' X' C' L' S' U'],[bo (sameK T I X C L S U T' I' X' C' L' S' U')])
 | _=>none) r
def sFits:List AV→Option (List Prop×List AV)
 | [.imm (.int .i64 v),.imm (.int .i64 n)]=>some ([sz48 n],[bo (fitsP v n)])
 | _=>none
def sFit:List AV→Option (List Prop×List AV)
 | [.imm (.ints .i64 T),.imm (.int .i64 n)]=>some ([sz48 n,(T.length:Int)≤big],[bo (fitP T n)])
 | _=>none
noncomputable def F1a:=addE E4 24 sFew
noncomputable def F1b:=F1a
noncomputable def F1c:=addE (addE (addE F1b 29 sSameI) 32 sSameL) 33 sSameO
noncomputable def F1d:=F1c
noncomputable def F1:=addE F1d 50 sFits
noncomputable def F2:=addE (addE F1 49 sFit) 16 sEqual
noncomputable def K0:Cx:=cx E4
noncomputable def K1:Cx:=cx F1
noncomputable def K2:Cx:=cx F2
def ii (l:List Int):AV:=.imm (.ints .i64 l)
def oo (l:List Bool):AV:=.imm (.bools l)
def ll (xs:List (List IV)):AV:=.imm (.sl 2 xs)
def rowI (l:List Int):List (Nat×Ob):=[(0,⟨true,0,.row (.ints .i64 l)⟩)]
def rowO (l:List Bool):List (Nat×Ob):=[(0,⟨true,0,.row (.bools l)⟩)]
def hA (x y:AV) (i:Nat):St:=⟨spr [(0,x),(1,y),(5,ln i)] 0 26,[],0,[]⟩
def pA:Plan:=⟨[],msk [0,1,5] 0 26,[]⟩
def hB (x y:AV) (n i:Nat):St:=⟨spr [(0,x),(1,y),(12,ln n),(13,ln i)] 0 26,[],0,[]⟩
def h38 (b:List UInt8) (s:Int) (l:List Int) (i:Nat):St:=⟨spr [(0,by' b),(1,i64 s),(5,.row 0 0),(6,ln i)] 0 36,rowI l,1,[]⟩
def h52 (T:List Int) (n:Int) (i:Nat):St:=⟨spr [(0,ii T),(1,i64 n),(5,ln i)] 0 19,[],0,[]⟩
def p52:Plan:=⟨[],msk [0,1,5] 0 19,[]⟩
structure Bk where
 T:List Int
 I:List UInt8
 X:List Ty
 C:List UInt8
 L:List Lp
 S:List Bool
 U:List Bool
deriving DecidableEq
def Bk.av (b:Bk):AV:=blkAV b.T b.I (b.X.map cellsT) b.C (b.L.map cellsL) b.S b.U
def pt (d:List UInt8) (o n:Int):List UInt8:=(d.drop o.toNat).take n.toNat
def b0 (d:List UInt8) (h:Hd) (s:Int):List UInt8:=pt d 0 (l0 h s)
def b1 (d:List UInt8) (h:Hd) (s:Int):List UInt8:=pt d (o1 h s) (l1 h)
def b2 (d:List UInt8) (h:Hd) (s:Int):List UInt8:=pt d (o2 h s) (l2 h)
def b3 (d:List UInt8) (h:Hd) (s:Int):List UInt8:=pt d (o3 h s) (l3 h)
def b4 (d:List UInt8) (h:Hd) (s:Int):List UInt8:=pt d (o4 h s) (l4 h s)
def b5 (d:List UInt8) (h:Hd) (s:Int):List UInt8:=pt d (o5 h s) (l5 h)
def b6 (d:List UInt8) (h:Hd) (s:Int):List UInt8:=pt d (o6 h s) (l6 h)
def okE (T:List Int) (I:List UInt8) (X:List (List IV)) (C:List UInt8) (L:List (List IV)) (S U:List Bool):Prop :=
 okT X∧okL L∧(T.length:Int)≤1000000000∧(I.length:Int)≤1000000000∧(X.length:Int)≤1000000000∧(C.length:Int)≤1000000000∧(L.length:Int)≤1000000000∧(S.length:Int)≤1000000000∧(U.length:Int)≤1000000000
noncomputable def F3:=F2
noncomputable def F4:=F3
def sm (S:St):Prop:=some S = some S
end PF
set_option maxRecDepth 100000
namespace PE
open Go Go.AE Go.Proofs
attribute [local irreducible] loopK evCode evSpec loopB norm
theorem f30_in (n:Int) (K:List AV→Prop):evSpec C0 Tryz.f72 [i64 n] K = (LoopI C0 (bodyOf Tryz.f72) 0 (St.mk (lapp [i64 n,.dead,.imm (.int IntKind.u64 (0:Int)),.imm (.int IntKind.u64 (128:Int)),i64 1] (dN 8)) [] 0 []) (finK C0 Tryz.f72 K)):=by kernel_rfl
theorem f11_in (a:List UInt8) (b:List UInt8) (K:List AV→Prop):evSpec C0 Tryz.f30 [.imm (.bytes a),.imm (.bytes b)] K = (brn ((a.length:Int) != (b.length:Int)) (K [bo false]) (LoopI C0 (bodyOf Tryz.f30) 0 (St.mk (lapp [by' a,by' b,.dead,.dead,bo false,i64 0,by' a,i64 (a.length:Int),by' b,i64 (b.length:Int),bo ((a.length:Int) != (b.length:Int))] (dN 15)) [] 0 []) (finK C0 Tryz.f30 K))):=by kernel_rfl
theorem f10_in (xs:List (List IV)) (ys:List (List IV)) (K:List AV→Prop):evSpec C0 Tryz.f31 [.imm (.sl 3 xs),.imm (.sl 3 ys)] K = (brn ((xs.length:Int) != (ys.length:Int)) (K [bo false]) (LoopI C0 (bodyOf Tryz.f31) 0 (St.mk (lapp [.imm (.sl 3 xs),.imm (.sl 3 ys),.dead,.dead,bo false,i64 0,.imm (.sl 3 xs),i64 (xs.length:Int),.imm (.sl 3 ys),i64 (ys.length:Int),bo ((xs.length:Int) != (ys.length:Int))] (dN 15)) [] 0 []) (finK C0 Tryz.f31 K))):=by kernel_rfl
theorem f30_lp (n:Int) (p:Int) (i:Nat) (k:AX→St→Prop):evCode C0 (loopB (bodyOf Tryz.f72) 0) (h30 n p i) k = (brn (decide ((↑i:Int) < n)) (k AX.normal (St.mk [i64 n,.dead,.dead,.imm (.int IntKind.u64 (IntKind.wrap IntKind.u64 (p * 256))),i64 (IntKind.wrap .i64 ((↑i:Int) + 1)),i64 (↑i:Int),i64 n,bo (decide ((↑i:Int) < n)),i64 (↑i:Int),i64 (IntKind.wrap .i64 ((↑i:Int) + 1)),.imm (.int IntKind.u64 p),.imm (.int IntKind.u64 (IntKind.wrap IntKind.u64 (p * 256))),.dead] [] 0 [])) (k (AX.exit 0) (St.mk (lapp [i64 n,.dead,.dead,.imm (.int IntKind.u64 p),i64 (↑i:Int),i64 (↑i:Int),i64 n,bo (decide ((↑i:Int) < n))] (dN 5)) [] 0 []))):=by kernel_rfl
theorem f11_lp (a:List UInt8) (b:List UInt8) (i:Nat) (k:AX→St→Prop):evCode C0 (loopB (bodyOf Tryz.f30) 0) (h11 a b i) k = (brn (decide ((↑i:Int) < (a.length:Int))) ((0:Int)≤(↑i:Int)∧(↑i:Int) < (a.length:Int)∧(0:Int)≤(↑i:Int)∧(↑i:Int) < (b.length:Int)∧brn ((↑(UInt8.toNat (List.getD a (↑i:Int).toNat (0:UInt8))):Int) != (↑(UInt8.toNat (List.getD b (↑i:Int).toNat (0:UInt8))):Int)) (k AX.ret (St.mk (lapp [by' a,by' b,.dead,.dead,bo false,i64 (↑i:Int)] (lapp (dN 5) [i64 (↑i:Int),by' a,i64 (a.length:Int),bo (decide ((↑i:Int) < (a.length:Int))),.dead,.dead,by' a,i64 (↑i:Int),AV.elv [IV.int .u8 (↑(UInt8.toNat (List.getD a (↑i:Int).toNat (0:UInt8))):Int)],.imm (.int .u8 (↑(UInt8.toNat (List.getD a (↑i:Int).toNat (0:UInt8))):Int)),by' b,i64 (↑i:Int),AV.elv [IV.int .u8 (↑(UInt8.toNat (List.getD b (↑i:Int).toNat (0:UInt8))):Int)],.imm (.int .u8 (↑(UInt8.toNat (List.getD b (↑i:Int).toNat (0:UInt8))):Int)),bo ((↑(UInt8.toNat (List.getD a (↑i:Int).toNat (0:UInt8))):Int) != (↑(UInt8.toNat (List.getD b (↑i:Int).toNat (0:UInt8))):Int))])) [] 0 [])) (k AX.normal (St.mk (lapp
 [by' a,by' b,.dead,.dead,.dead,i64 (IntKind.wrap .i64 ((↑i:Int) + 1))] (lapp (dN 5) [i64 (↑i:Int),by' a,i64 (a.length:Int),bo (decide ((↑i:Int) < (a.length:Int))),i64 (↑i:Int),i64 (IntKind.wrap .i64 ((↑i:Int) + 1)),by' a,i64 (↑i:Int),AV.elv [IV.int .u8 (↑(UInt8.toNat (List.getD a (↑i:Int).toNat (0:UInt8))):Int)],.imm (.int .u8 (↑(UInt8.toNat (List.getD a (↑i:Int).toNat (0:UInt8))):Int)),by' b,i64 (↑i:Int),AV.elv [IV.int .u8 (↑(UInt8.toNat (List.getD b (↑i:Int).toNat (0:UInt8))):Int)],.imm (.int .u8 (↑(UInt8.toNat (List.getD b (↑i:Int).toNat (0:UInt8))):Int)),bo ((↑(UInt8.toNat (List.getD a (↑i:Int).toNat (0:UInt8))):Int) != (↑(UInt8.toNat (List.getD b (↑i:Int).toNat (0:UInt8))):Int))])) [] 0 []))) (k (AX.exit 0) (St.mk (lapp [by' a,by' b,.dead,.dead,.dead,i64 (↑i:Int)] (lapp (dN 5) (lapp [i64 (↑i:Int),by' a,i64 (a.length:Int),bo (decide ((↑i:Int) < (a.length:Int)))] (dN 11)))) [] 0 []))):=by kernel_rfl
theorem f10_lp (a:List (List IV)) (b:List (List IV)) (i:Nat) (k:AX→St→Prop):evCode C0 (loopB (bodyOf Tryz.f31) 0) (h10 a b i) k = (brn (decide ((↑i:Int) < (a.length:Int))) ((0:Int)≤(↑i:Int)∧(↑i:Int) < (a.length:Int)∧kcells (List.getD a (↑i:Int).toNat []) 0 (lapp [CK.int IntKind.i32] (lapp [CK.bool] (lapp [CK.int IntKind.u8] []))) = List.getD a (↑i:Int).toNat []∧(0:Int)≤(↑i:Int)∧(↑i:Int) < (b.length:Int)∧kcells (List.getD b (↑i:Int).toNat []) 0 (lapp [CK.int IntKind.i32] (lapp [CK.bool] (lapp [CK.int IntKind.u8] []))) = List.getD b (↑i:Int).toNat []∧brn (!(ivInt (ivNth (List.getD a (↑i:Int).toNat []) 0) == ivInt (ivNth (List.getD b (↑i:Int).toNat []) 0) && (ivBool (ivNth (List.getD a (↑i:Int).toNat []) (0 + 1)) == ivBool (ivNth (List.getD b (↑i:Int).toNat []) (0 + 1)) && (ivInt (ivNth (List.getD a (↑i:Int).toNat []) (0 + 1 + 1)) == ivInt (ivNth (List.getD b (↑i:Int).toNat []) (0 + 1 + 1)) && true)))) (k AX.ret (St.mk (lapp [.imm (.sl 3 a),.imm (.sl 3 b),.dead,.dead,bo false,i64 (↑i:Int)] (lapp (dN 5) [i64 (↑i:Int),.imm (.sl 3 a),i64 (a.length:Int),bo (decide ((↑i:Int) < (a.length:Int))),.dead,
 .dead,.imm (.sl 3 a),i64 (↑i:Int),AV.elv [IV.int IntKind.i32 (ivInt (ivNth (List.getD a (↑i:Int).toNat []) 0)),IV.bool (ivBool (ivNth (List.getD a (↑i:Int).toNat []) (0 + 1))),IV.int .u8 (ivInt (ivNth (List.getD a (↑i:Int).toNat []) (0 + 1 + 1)))],.agg [.imm (.int IntKind.i32 (ivInt (ivNth (List.getD a (↑i:Int).toNat []) 0))),bo (ivBool (ivNth (List.getD a (↑i:Int).toNat []) (0 + 1))),.imm (.int .u8 (ivInt (ivNth (List.getD a (↑i:Int).toNat []) (0 + 1 + 1))))],.imm (.sl 3 b),i64 (↑i:Int),AV.elv [IV.int IntKind.i32 (ivInt (ivNth (List.getD b (↑i:Int).toNat []) 0)),IV.bool (ivBool (ivNth (List.getD b (↑i:Int).toNat []) (0 + 1))),IV.int .u8 (ivInt (ivNth (List.getD b (↑i:Int).toNat []) (0 + 1 + 1)))],.agg [.imm (.int IntKind.i32 (ivInt (ivNth (List.getD b (↑i:Int).toNat []) 0))),bo (ivBool (ivNth (List.getD b (↑i:Int).toNat []) (0 + 1))),.imm (.int .u8 (ivInt (ivNth (List.getD b (↑i:Int).toNat []) (0 + 1 + 1))))],bo (!(ivInt (ivNth (List.getD a (↑i:Int).toNat []) 0) == ivInt (ivNth (List.getD b (↑i:Int).toNat []) 0) && (ivBool (ivNth (List.getD a (↑i:Int).toNat []) (0 + 1)) == ivBool (ivNth (List.getD b (↑i:Int).toNat []) (0 + 1)) &&
 (ivInt (ivNth (List.getD a (↑i:Int).toNat []) (0 + 1 + 1)) == ivInt (ivNth (List.getD b (↑i:Int).toNat []) (0 + 1 + 1)) && true))))])) [] 0 [])) (k AX.normal (St.mk (lapp [.imm (.sl 3 a),.imm (.sl 3 b),.dead,.dead,.dead,i64 (IntKind.wrap .i64 ((↑i:Int) + 1))] (lapp (dN 5) [i64 (↑i:Int),.imm (.sl 3 a),i64 (a.length:Int),bo (decide ((↑i:Int) < (a.length:Int))),i64 (↑i:Int),i64 (IntKind.wrap .i64 ((↑i:Int) + 1)),.imm (.sl 3 a),i64 (↑i:Int),AV.elv [IV.int IntKind.i32 (ivInt (ivNth (List.getD a (↑i:Int).toNat []) 0)),IV.bool (ivBool (ivNth (List.getD a (↑i:Int).toNat []) (0 + 1))),IV.int .u8 (ivInt (ivNth (List.getD a (↑i:Int).toNat []) (0 + 1 + 1)))],.agg [.imm (.int IntKind.i32 (ivInt (ivNth (List.getD a (↑i:Int).toNat []) 0))),bo (ivBool (ivNth (List.getD a (↑i:Int).toNat []) (0 + 1))),.imm (.int .u8 (ivInt (ivNth (List.getD a (↑i:Int).toNat []) (0 + 1 + 1))))],.imm (.sl 3 b),i64 (↑i:Int),AV.elv [IV.int IntKind.i32 (ivInt (ivNth (List.getD b (↑i:Int).toNat []) 0)),IV.bool (ivBool (ivNth (List.getD b (↑i:Int).toNat []) (0 + 1))),IV.int .u8 (ivInt (ivNth (List.getD b (↑i:Int).toNat []) (0 + 1 + 1)))],.agg [.imm (.int
 IntKind.i32 (ivInt (ivNth (List.getD b (↑i:Int).toNat []) 0))),bo (ivBool (ivNth (List.getD b (↑i:Int).toNat []) (0 + 1))),.imm (.int .u8 (ivInt (ivNth (List.getD b (↑i:Int).toNat []) (0 + 1 + 1))))],bo (!(ivInt (ivNth (List.getD a (↑i:Int).toNat []) 0) == ivInt (ivNth (List.getD b (↑i:Int).toNat []) 0) && (ivBool (ivNth (List.getD a (↑i:Int).toNat []) (0 + 1)) == ivBool (ivNth (List.getD b (↑i:Int).toNat []) (0 + 1)) && (ivInt (ivNth (List.getD a (↑i:Int).toNat []) (0 + 1 + 1)) == ivInt (ivNth (List.getD b (↑i:Int).toNat []) (0 + 1 + 1)) && true))))])) [] 0 []))) (k (AX.exit 0) (St.mk (lapp [.imm (.sl 3 a),.imm (.sl 3 b),.dead,.dead,.dead,i64 (↑i:Int)] (lapp (dN 5) (lapp [i64 (↑i:Int),.imm (.sl 3 a),i64 (a.length:Int),bo (decide ((↑i:Int) < (a.length:Int)))] (dN 11)))) [] 0 []))):=by kernel_rfl
theorem wrap64 {n:Int} (h1:-9223372036854775808≤n) (h2:n≤9223372036854775807):IntKind.wrap .i64 n = n:=by
 have:=IntKind.wrap_i64 n
 rw [show IntKind.wrap .i64 n = IntKind.i64.wrap n from rfl,this]; omega
theorem wrapU {n:Int} (h1:0≤n) (h2:n < 18446744073709551616):IntKind.wrap .u64 n = n:=by
 simp [IntKind.wrap,IntKind.min,IntKind.max,IntKind.signed,IntKind.bits]
 omega
theorem wrapUm (n:Int):IntKind.wrap .u64 n = n % 18446744073709551616:=by
 simp [IntKind.wrap,IntKind.min,IntKind.max,IntKind.signed,IntKind.bits]
theorem mk {E:FuncId→List AV→Option (List Prop×List AV)} (hE:EOK Tryz.prog E G16) {f:FuncId} {fn:Func} {args res:List AV} {pres:List Prop} (hf:Tryz.prog.funcs[f]? = some fn) (hn:(fn.name == "runtime.NumGoroutine") = false) (hb:fn.body.isNone = false)
  (h:(∀ p,p ∈ pres→p)→∀ K:List AV→Prop,K res→evSpec (cx E) fn args K):SpecOK Tryz.prog G16 f args pres res :=
 spec_ok (C:=cx E) hE noCall_ok hf hn hb (fun hp=>h hp _ rfl)
theorem ok0:EOK Tryz.prog noE G16:=noE_ok
theorem f30_ev (n:Int) (n1:1≤n) (n8:n≤8) (K:List AV→Prop) (hK:K [.imm (.int .u64 (2 ^ (8 * n.toNat - 1)))]):evSpec C0 Tryz.f72 [i64 n] K:=by
 rw [f30_in]
 unfold LoopI
 refine loop_rule (fun i:Nat=>h30 n (2 ^ (8 * i - 1)) i) (fun i=>1≤i∧(i:Int)≤n) (fun i=>n.toNat - i) (fun i hP K' hnorm hexit=>?_) rfl 1 p30 _ ⟨Nat.le_refl _,n1⟩ (by kernel_rfl)
 rw [f30_lp]
 obtain ⟨hi1,hin⟩:=hP
 refine brn_intro (fun hi=>?_) (fun hi=>?_)
 ·simp only [decide_eq_true_eq] at hi
  have e2:IntKind.wrap .i64 ((i:Int) + 1) = ((i + 1:Nat):Int):=by rw [wrap64 (by omega) (by omega)]; first | done | rfl
  have ep:(2:Int) ^ (8 * i - 1) * 256 = 2 ^ (8 * (i + 1) - 1):=by
   rw [show 8 * (i + 1) - 1 = (8 * i - 1) + 8 by omega,Int.pow_add]; first | done | rfl
  have hle:(2:Int) ^ (8 * (i + 1) - 1)≤2 ^ 63:=by
   have:(2:Nat) ^ (8 * (i + 1) - 1)≤2 ^ 63:=Nat.pow_le_pow_right (by decide) (by omega)
   exact_mod_cast this
  have h0:(0:Int)≤2 ^ (8 * (i + 1) - 1):=Int.le_of_lt (Int.pow_pos (by decide))
  have e3:IntKind.wrap .u64 ((2:Int) ^ (8 * i - 1) * 256) = 2 ^ (8 * (i + 1) - 1):=by
   rw [ep,wrapU h0 (by have:(2:Int) ^ 63 = 9223372036854775808:=rfl; omega)]
  simp only [e2,e3]
  exact hnorm (i + 1) p30 _ ⟨by omega,by omega⟩ (by omega) (by kernel_rfl)
 ·simp only [decide_eq_false_iff_not] at hi
  have hin:i = n.toNat:=by omega
  subst hin
  exact hexit _ _ (by simp) (Eq.mp (by kernel_rfl) hK)
def t0:Ty:=⟨0,false,0⟩
theorem getT {L:List Ty} {i:Nat} (h:i < L.length):(L.map cellsT).getD i [] = cellsT (L.getD i t0):=by
 simp only [List.getD_eq_getElem?_getD,List.getElem?_map,List.getElem?_eq_getElem h]
 rfl
theorem kT (t:Ty):kcells (cellsT t) 0 (lapp [CK.int .i32] (lapp [CK.bool] (lapp [CK.int .u8] []))) = cellsT t:=rfl
theorem oT (t:Ty):ivInt (ivNth (cellsT t) 0) = t.o:=rfl
theorem dT (t:Ty):ivBool (ivNth (cellsT t) (0 + 1)) = t.d:=rfl
theorem gT (t:Ty):ivInt (ivNth (cellsT t) (0 + 1 + 1)) = t.g:=rfl
theorem okT_elim {xs:List (List IV)} (h:okT xs):∃ L:List Ty,xs = L.map cellsT∧tys xs = L∧∀ t ∈ L,okTy t:=⟨tys xs,h.1,rfl,h.2⟩
theorem takeS {α:Type} {l:List α} {i:Nat} (d:α) (h:i < l.length):l.take (i + 1) = l.take i ++ [l.getD i d]:=by
 rw [List.take_add_one,List.getElem?_eq_getElem h,List.getD_eq_getElem?_getD,List.getElem?_eq_getElem h]
 first | done | rfl
theorem ne_of_at {α:Type} {a b:List α} {i:Nat} (d:α) (h:a.getD i d≠b.getD i d):a≠b:=fun e=>h (by rw [e])
theorem memD {α:Type} {l:List α} {i:Nat} (d:α) (h:i < l.length):l.getD i d ∈ l:=by
 rw [List.getD_eq_getElem?_getD,List.getElem?_eq_getElem h]
 exact List.getElem_mem h
theorem f11_ev (a b:List UInt8) (ha:(a.length:Int)≤big) (hb:(b.length:Int)≤big) (K:List AV→Prop) (hK:K [bo (decide (a = b))]):evSpec C0 Tryz.f30 [.imm (.bytes a),.imm (.bytes b)] K:=by
 have hbig:big = 4611686018427387904:=rfl
 have no:a≠b→K [.imm (.bool false)]:=fun h=>by rw [decide_eq_false h] at hK; exact hK
 rw [f11_in]
 refine brn_intro (fun h=>?_) (fun h=>?_)
 ·refine no (fun e=>?_)
  subst e
  simp at h
 ·have hl:a.length = b.length:=by simp at h; omega
  unfold LoopI
  refine loop_rule (fun i:Nat=>h11 a b i) (fun i=>i≤a.length∧a.take i = b.take i) (fun i=>a.length - i) (fun i hP K' hnorm hexit=>?_) rfl 0 p11 _ ⟨Nat.zero_le _,by simp⟩ (by kernel_rfl)
  obtain ⟨hi,ht⟩:=hP
  rw [f11_lp]
  refine brn_intro (fun h1=>?_) (fun h1=>?_)
  ·simp only [decide_eq_true_eq] at h1
   simp only [Int.toNat_natCast]
   refine ⟨by omega,by omega,by omega,by omega,brn_intro (fun h2=>?_) (fun h2=>?_)⟩
   ·refine hexit _ _ (by simp) (Eq.mp (by kernel_rfl) (no (ne_of_at 0 (i:=i) fun e=>?_)))
    rw [e] at h2
    simp at h2
   ·have e2:IntKind.wrap .i64 ((i:Int) + 1) = ((i + 1:Nat):Int):=by rw [wrap64 (by omega) (by omega)]; first | done | rfl
    have e3:a.getD i 0 = b.getD i 0:=by
     simp only [bne_eq_false_iff_eq] at h2
     exact UInt8.toNat_inj.1 (by omega)
    simp only [e2]
    refine hnorm (i + 1) p11 _ ⟨by omega,?_⟩ (by omega) (by kernel_rfl)
    rw [takeS 0 (by omega),takeS 0 (by omega),ht,e3]
  ·simp only [decide_eq_false_iff_not] at h1
   have hil:i = a.length:=by omega
   have e:a = b:=by
    rw [hil,List.take_length,hl,List.take_length] at ht
    exact ht
   rw [decide_eq_true e] at hK
   exact hexit _ _ (by simp) (Eq.mp (by kernel_rfl) hK)
theorem f10_ev (L M:List Ty) (ha:(L.length:Int)≤big) (hb:(M.length:Int)≤big) (K:List AV→Prop) (hK:K [bo (decide (L = M))]):evSpec C0 Tryz.f31 [.imm (slT L),.imm (slT M)] K:=by
 have hbig:big = 4611686018427387904:=rfl
 have no:L≠M→K [.imm (.bool false)]:=fun h=>by rw [decide_eq_false h] at hK; exact hK
 unfold slT
 rw [f10_in]
 simp only [List.length_map]
 refine brn_intro (fun h=>?_) (fun h=>?_)
 ·refine no (fun e=>?_)
  subst e
  simp at h
 ·have hl:L.length = M.length:=by simp at h; omega
  unfold LoopI
  refine loop_rule (fun i:Nat=>h10 (L.map cellsT) (M.map cellsT) i) (fun i=>i≤L.length∧L.take i = M.take i) (fun i=>L.length - i) (fun i hP K' hnorm hexit=>?_) rfl 0 p11 _ ⟨Nat.zero_le _,by simp⟩ (by kernel_rfl)
  obtain ⟨hi,ht⟩:=hP
  rw [f10_lp]
  simp only [List.length_map]
  refine brn_intro (fun h1=>?_) (fun h1=>?_)
  ·simp only [decide_eq_true_eq] at h1
   have hlt:i < L.length:=by omega
   simp only [Int.toNat_natCast,getT hlt,getT (hl ▸ hlt:i < M.length),kT,oT,dT,gT]
   refine ⟨by omega,by omega,True.intro,by omega,by omega,True.intro,brn_intro (fun h2=>?_) (fun h2=>?_)⟩
   ·refine hexit _ _ (by simp) (Eq.mp (by kernel_rfl) (no (ne_of_at t0 (i:=i) fun e=>?_)))
    rw [e] at h2
    simp at h2
   ·have e2:IntKind.wrap .i64 ((i:Int) + 1) = ((i + 1:Nat):Int):=by rw [wrap64 (by omega) (by omega)]; first | done | rfl
    have e3:L.getD i t0 = M.getD i t0:=by
     simp only [Bool.not_eq_false',Bool.and_eq_true,beq_iff_eq,and_true] at h2
     obtain ⟨q1,q2,q3⟩:=h2
     generalize L.getD i t0 = x at *
     generalize M.getD i t0 = y at *
     cases x; cases y
     simp only at q1 q2 q3
     rw [q1,q2,q3]
    simp only [e2]
    refine hnorm (i + 1) p11 _ ⟨by omega,?_⟩ (by omega) (by kernel_rfl)
    rw [takeS t0 (by omega),takeS t0 (by omega),ht,e3]
  ·simp only [decide_eq_false_iff_not] at h1
   have hil:i = L.length:=by omega
   have e:L = M:=by
    rw [hil,List.take_length,hl,List.take_length] at ht
    exact ht
   rw [decide_eq_true e] at hK
   exact hexit _ _ (by simp) (Eq.mp (by kernel_rfl) hK)
theorem tmodN (n:Nat):Int.tmod (n:Int) 256 = ((n % 256:Nat):Int):=by simp [Int.tmod]
theorem tdivN (n:Nat):Int.tdiv (n:Int) 256 = ((n / 256:Nat):Int):=by simp [Int.tdiv]
theorem wrap64m (n:Int):IntKind.wrap .i64 n = (n + 9223372036854775808) % 18446744073709551616 - 9223372036854775808:=by
 have:=IntKind.wrap_i64 n
 rw [show IntKind.wrap .i64 n = IntKind.i64.wrap n from rfl,this]
theorem shl_eq {u s:Nat} (hs:s≤64):shlV .u64 (u:Int) (s:Int) = ((u:Int) * 2 ^ s) % 18446744073709551616:=by
 unfold shlV
 rw [Int.toNat_natCast,Nat.min_eq_left (by have:IntKind.u64.bits = 64:=rfl; omega),wrapUm]
theorem shr_eq {x:Int} {s:Nat} (hs:s≤64):shrV .i64 x (s:Int) = x / 2 ^ s:=by
 unfold shrV
 rw [Int.toNat_natCast,Nat.min_eq_left (by have:IntKind.i64.bits = 64:=rfl; omega),Int.fdiv_eq_ediv_of_nonneg _ (Int.le_of_lt (Int.pow_pos (by decide)))]
theorem sgn_eq {u n:Nat} (hu:u < 256 ^ n) (n1:1≤n) (n8:n≤8):shrV .i64 (IntKind.wrap .i64 (shlV .u64 (u:Int) ((64 - 8 * n:Nat):Int))) ((64 - 8 * n:Nat):Int) = sgnN n u:=by
 rw [shl_eq (by omega),shr_eq (by omega),wrap64m]
 unfold sgnN
 have:n = 1∨n = 2∨n = 3∨n = 4∨n = 5∨n = 6∨n = 7∨n = 8:=by omega
 rcases this with rfl | rfl | rfl | rfl | rfl | rfl | rfl | rfl <;> simp at hu ⊢ <;> split <;> omega
theorem ok30:∀ args pres res,sHalf args = some (pres,res)→SpecOK Tryz.prog G16 72 args pres res:=by
 intro args pres res h
 unfold sHalf at h
 split at h
 case h_2=>cases h
 cases h
 exact mk ok0 Tryz.func72 (by kernel_rfl) (by kernel_rfl) (fun hp K hK=>f30_ev _ (hp _ (by simp)) (hp _ (by simp)) K hK)
theorem ok11:∀ args pres res,sSameB args = some (pres,res)→SpecOK Tryz.prog G16 30 args pres res:=by
 intro args pres res h
 unfold sSameB at h
 split at h
 case h_2=>cases h
 cases h
 exact mk ok0 Tryz.func30 (by kernel_rfl) (by kernel_rfl) (fun hp K hK=>f11_ev _ _ (hp _ (by simp)) (hp _ (by simp)) K hK)
theorem okE1:EOK Tryz.prog E1 G16:=addE_ok (addE_ok PA.okR4 ok30) ok11
theorem okE2:EOK Tryz.prog E2 G16:=okE1
theorem ok10:∀ args pres res,sSameT args = some (pres,res)→SpecOK Tryz.prog G16 31 args pres res:=by
 intro args pres res h
 unfold sSameT at h
 split at h
 case h_2=>cases h
 cases h
 rename_i xs ys
 exact mk ok0 Tryz.func31 (by kernel_rfl) (by kernel_rfl) (fun hp K hK=>by
  obtain ⟨L,rfl,e,hL⟩:=okT_elim (hp (okT xs) (by simp))
  obtain ⟨M,rfl,e',hM⟩:=okT_elim (hp (okT ys) (by simp))
  rw [e,e'] at hK
  have h1:=hp (((L.map cellsT).length:Int)≤big) (by simp)
  have h2:=hp (((M.map cellsT).length:Int)≤big) (by simp)
  rw [List.length_map] at h1 h2
  exact f10_ev L M h1 h2 K hK)
theorem okE3:EOK Tryz.prog E3 G16:=addE_ok okE2 ok10
theorem okE4:EOK Tryz.prog E4 G16:=okE3
end PE
set_option maxRecDepth 100000
namespace PF
open Go Go.AE Go.Proofs PE
attribute [local irreducible] loopK evCode evSpec loopB norm
theorem f10_in (T:List Int) (I:List UInt8) (X:List (List IV)) (C:List UInt8) (L:List (List IV)) (S:List Bool) (U:List Bool) (K:List AV→Prop):evSpec K0 Tryz.f24 [blkAV T I X C L S U] K = (K [bo (decide ((T.length:Int)≤200) && decide ((I.length:Int)≤200) && decide ((X.length:Int)≤200) && decide ((C.length:Int)≤600) && decide ((L.length:Int)≤200) && decide ((S.length:Int)≤200) && decide ((U.length:Int)≤200))]):=by kernel_rfl
theorem f14_in (T:List Int) (I:List UInt8) (X:List (List IV)) (C:List UInt8) (L:List (List IV)) (S:List Bool) (U:List Bool) (T':List Int) (I':List UInt8) (X':List (List IV)) (C':List UInt8) (L':List (List IV)) (S':List Bool) (U':List Bool) (K:List AV→Prop):evSpec K1 Tryz.f16 [blkAV T I X C L S U,blkAV T' I' X' C' L' S' U'] K = ((T.length:Int)≤big'∧(T'.length:Int)≤big'∧(decide (T = T') = true→(I.length:Int)≤big)∧(decide (T = T') = true→(I'.length:Int)≤big)∧((decide (T = T') && decide (I = I')) = true→okT X)∧((decide (T = T') && decide (I = I')) = true→okT X')∧((decide (T = T') && decide (I = I')) = true→(X.length:Int)≤big)∧((decide (T = T') && decide (I = I')) = true→(X'.length:Int)≤big)∧((decide (T = T') && decide (I = I') && decide (tys X = tys X')) = true→(C.length:Int)≤big)∧((decide (T = T') && decide (I = I') && decide (tys X = tys X')) = true→(C'.length:Int)≤big)∧((decide (T = T') && decide (I = I') && decide (tys X = tys X') && decide (C = C')) = true→okL L)∧((decide (T = T') && decide (I = I') && decide (tys X = tys X') && decide (C = C')) = true→okL L')∧((decide (T
 = T') && decide (I = I') && decide (tys X = tys X') && decide (C = C')) = true→(L.length:Int)≤big')∧((decide (T = T') && decide (I = I') && decide (tys X = tys X') && decide (C = C')) = true→(L'.length:Int)≤big')∧((decide (T = T') && decide (I = I') && decide (tys X = tys X') && decide (C = C') && decide (lps L = lps L')) = true→(S.length:Int)≤big')∧((decide (T = T') && decide (I = I') && decide (tys X = tys X') && decide (C = C') && decide (lps L = lps L')) = true→(S'.length:Int)≤big')∧((decide (T = T') && decide (I = I') && decide (tys X = tys X') && decide (C = C') && decide (lps L = lps L') && decide (S = S')) = true→(U.length:Int)≤big')∧((decide (T = T') && decide (I = I') && decide (tys X = tys X') && decide (C = C') && decide (lps L = lps L') && decide (S = S')) = true→(U'.length:Int)≤big')∧K [bo (decide (T = T') && decide (I = I') && decide (tys X = tys X') && decide (C = C') && decide (lps L = lps L') && decide (S = S') && decide (U = U'))]):=by kernel_rfl
theorem f42_in (a:List Int) (b:List Int) (K:List AV→Prop):evSpec K0 Tryz.f29 [.imm (.ints IntKind.i64 a),.imm (.ints IntKind.i64 b)] K = (brn ((a.length:Int) != (b.length:Int)) (K [bo false]) (LoopI K0 (bodyOf Tryz.f29) 0 (St.mk (lapp [.imm (.ints IntKind.i64 a),.imm (.ints IntKind.i64 b),.dead,.dead,bo false,i64 0,.imm (.ints IntKind.i64 a),i64 (a.length:Int),.imm (.ints IntKind.i64 b),i64 (b.length:Int),bo ((a.length:Int) != (b.length:Int))] (dN 15)) [] 0 []) (finK K0 Tryz.f29 K))):=by kernel_rfl
theorem f44_in (a:List (List IV)) (b:List (List IV)) (K:List AV→Prop):evSpec K0 Tryz.f32 [.imm (.sl 2 a),.imm (.sl 2 b)] K = (brn ((a.length:Int) != (b.length:Int)) (K [bo false]) (LoopI K0 (bodyOf Tryz.f32) 0 (St.mk (lapp [.imm (.sl 2 a),.imm (.sl 2 b),.dead,.dead,bo false,i64 0,.imm (.sl 2 a),i64 (a.length:Int),.imm (.sl 2 b),i64 (b.length:Int),bo ((a.length:Int) != (b.length:Int))] (dN 15)) [] 0 []) (finK K0 Tryz.f32 K))):=by kernel_rfl
theorem f45_in (a:List Bool) (b:List Bool) (K:List AV→Prop):evSpec K0 Tryz.f33 [.imm (.bools a),.imm (.bools b)] K = (brn ((a.length:Int) != (b.length:Int)) (K [bo false]) (LoopI K0 (bodyOf Tryz.f33) 0 (St.mk (lapp [.imm (.bools a),.imm (.bools b),.dead,.dead,bo false,i64 0,.imm (.bools a),i64 (a.length:Int),.imm (.bools b),i64 (b.length:Int),bo ((a.length:Int) != (b.length:Int))] (dN 15)) [] 0 []) (finK K0 Tryz.f33 K))):=by kernel_rfl
theorem f52_in (T:List Int) (n:Int) (K:List AV→Prop):evSpec K1 Tryz.f49 [.imm (.ints IntKind.i64 T),i64 n] K = (LoopI K1 (bodyOf Tryz.f49) 0 (St.mk (lapp [.imm (.ints IntKind.i64 T),i64 n,.dead,.dead,bo false,i64 0] (dN 13)) [] 0 []) (finK K1 Tryz.f49 K)):=by kernel_rfl
theorem f42_lp (a:List Int) (b:List Int) (i:Nat) (k:AX→St→Prop):evCode K0 (loopB (bodyOf Tryz.f29) 0) (hA (ii a) (ii b) i) k = (brn (decide ((↑i:Int) < (a.length:Int))) ((0:Int)≤(↑i:Int)∧(↑i:Int) < (a.length:Int)∧(0:Int)≤(↑i:Int)∧(↑i:Int) < (b.length:Int)∧brn (List.getD a (↑i:Int).toNat (0:Int) != List.getD b (↑i:Int).toNat (0:Int)) (k AX.ret (St.mk (lapp [.imm (.ints IntKind.i64 a),.imm (.ints IntKind.i64 b),.dead,.dead,bo false,i64 (↑i:Int)] (lapp (dN 5) [i64 (↑i:Int),.imm (.ints IntKind.i64 a),i64 (a.length:Int),bo (decide ((↑i:Int) < (a.length:Int))),.dead,.dead,.imm (.ints IntKind.i64 a),i64 (↑i:Int),AV.elv [IV.int .i64 (List.getD a (↑i:Int).toNat (0:Int))],i64 (List.getD a (↑i:Int).toNat (0:Int)),.imm (.ints IntKind.i64 b),i64 (↑i:Int),AV.elv [IV.int .i64 (List.getD b (↑i:Int).toNat (0:Int))],i64 (List.getD b (↑i:Int).toNat (0:Int)),bo (List.getD a (↑i:Int).toNat (0:Int) != List.getD b (↑i:Int).toNat (0:Int))])) [] 0 [])) (k AX.normal (St.mk (lapp [.imm (.ints IntKind.i64 a),.imm (.ints IntKind.i64 b),.dead,.dead,.dead,i64 (IntKind.wrap .i64 ((↑i:Int) + 1))]
 (lapp (dN 5) [i64 (↑i:Int),.imm (.ints IntKind.i64 a),i64 (a.length:Int),bo (decide ((↑i:Int) < (a.length:Int))),i64 (↑i:Int),i64 (IntKind.wrap .i64 ((↑i:Int) + 1)),.imm (.ints IntKind.i64 a),i64 (↑i:Int),AV.elv [IV.int .i64 (List.getD a (↑i:Int).toNat (0:Int))],i64 (List.getD a (↑i:Int).toNat (0:Int)),.imm (.ints IntKind.i64 b),i64 (↑i:Int),AV.elv [IV.int .i64 (List.getD b (↑i:Int).toNat (0:Int))],i64 (List.getD b (↑i:Int).toNat (0:Int)),bo (List.getD a (↑i:Int).toNat (0:Int) != List.getD b (↑i:Int).toNat (0:Int))])) [] 0 []))) (k (AX.exit 0) (St.mk (lapp [.imm (.ints IntKind.i64 a),.imm (.ints IntKind.i64 b),.dead,.dead,.dead,i64 (↑i:Int)] (lapp (dN 5) (lapp [i64 (↑i:Int),.imm (.ints IntKind.i64 a),i64 (a.length:Int),bo (decide ((↑i:Int) < (a.length:Int)))] (dN 11)))) [] 0 []))):=by kernel_rfl
theorem f44_lp (a:List (List IV)) (b:List (List IV)) (i:Nat) (k:AX→St→Prop):evCode K0 (loopB (bodyOf Tryz.f32) 0) (hA (ll a) (ll b) i) k = (brn (decide ((↑i:Int) < (a.length:Int))) ((0:Int)≤(↑i:Int)∧(↑i:Int) < (a.length:Int)∧kcells (List.getD a (↑i:Int).toNat []) 0 (lapp [CK.int IntKind.i64] (lapp [CK.int IntKind.i32] [])) = List.getD a (↑i:Int).toNat []∧(0:Int)≤(↑i:Int)∧(↑i:Int) < (b.length:Int)∧kcells (List.getD b (↑i:Int).toNat []) 0 (lapp [CK.int IntKind.i64] (lapp [CK.int IntKind.i32] [])) = List.getD b (↑i:Int).toNat []∧brn (!(ivInt (ivNth (List.getD a (↑i:Int).toNat []) 0) == ivInt (ivNth (List.getD b (↑i:Int).toNat []) 0) && (ivInt (ivNth (List.getD a (↑i:Int).toNat []) (0 + 1)) == ivInt (ivNth (List.getD b (↑i:Int).toNat []) (0 + 1)) && true))) (k AX.ret (St.mk (lapp [.imm (.sl 2 a),.imm (.sl 2 b),.dead,.dead,bo false,i64 (↑i:Int)] (lapp (dN 5) [i64 (↑i:Int),.imm (.sl 2 a),i64 (a.length:Int),bo (decide ((↑i:Int) < (a.length:Int))),.dead,.dead,.imm (.sl 2 a),i64 (↑i:Int),AV.elv [IV.int .i64 (ivInt (ivNth (List.getD a (↑i:Int).toNat []) 0)),IV.int IntKind.i32 (ivInt (ivNth (List.getD
 a (↑i:Int).toNat []) (0 + 1)))],.agg [i64 (ivInt (ivNth (List.getD a (↑i:Int).toNat []) 0)),.imm (.int IntKind.i32 (ivInt (ivNth (List.getD a (↑i:Int).toNat []) (0 + 1))))],.imm (.sl 2 b),i64 (↑i:Int),AV.elv [IV.int .i64 (ivInt (ivNth (List.getD b (↑i:Int).toNat []) 0)),IV.int IntKind.i32 (ivInt (ivNth (List.getD b (↑i:Int).toNat []) (0 + 1)))],.agg [i64 (ivInt (ivNth (List.getD b (↑i:Int).toNat []) 0)),.imm (.int IntKind.i32 (ivInt (ivNth (List.getD b (↑i:Int).toNat []) (0 + 1))))],bo (!(ivInt (ivNth (List.getD a (↑i:Int).toNat []) 0) == ivInt (ivNth (List.getD b (↑i:Int).toNat []) 0) && (ivInt (ivNth (List.getD a (↑i:Int).toNat []) (0 + 1)) == ivInt (ivNth (List.getD b (↑i:Int).toNat []) (0 + 1)) && true)))])) [] 0 [])) (k AX.normal (St.mk (lapp [.imm (.sl 2 a),.imm (.sl 2 b),.dead,.dead,.dead,i64 (IntKind.wrap .i64 ((↑i:Int) + 1))] (lapp (dN 5) [i64 (↑i:Int),.imm (.sl 2 a),i64 (a.length:Int),bo (decide ((↑i:Int) < (a.length:Int))),i64 (↑i:Int),i64 (IntKind.wrap .i64 ((↑i:Int) + 1)),.imm (.sl 2 a),i64 (↑i:Int),AV.elv [IV.int .i64 (ivInt (ivNth (List.getD a (↑i:Int).toNat []) 0)),IV.int IntKind.i32 (ivInt (ivNth
 (List.getD a (↑i:Int).toNat []) (0 + 1)))],.agg [i64 (ivInt (ivNth (List.getD a (↑i:Int).toNat []) 0)),.imm (.int IntKind.i32 (ivInt (ivNth (List.getD a (↑i:Int).toNat []) (0 + 1))))],.imm (.sl 2 b),i64 (↑i:Int),AV.elv [IV.int .i64 (ivInt (ivNth (List.getD b (↑i:Int).toNat []) 0)),IV.int IntKind.i32 (ivInt (ivNth (List.getD b (↑i:Int).toNat []) (0 + 1)))],.agg [i64 (ivInt (ivNth (List.getD b (↑i:Int).toNat []) 0)),.imm (.int IntKind.i32 (ivInt (ivNth (List.getD b (↑i:Int).toNat []) (0 + 1))))],bo (!(ivInt (ivNth (List.getD a (↑i:Int).toNat []) 0) == ivInt (ivNth (List.getD b (↑i:Int).toNat []) 0) && (ivInt (ivNth (List.getD a (↑i:Int).toNat []) (0 + 1)) == ivInt (ivNth (List.getD b (↑i:Int).toNat []) (0 + 1)) && true)))])) [] 0 []))) (k (AX.exit 0) (St.mk (lapp [.imm (.sl 2 a),.imm (.sl 2 b),.dead,.dead,.dead,i64 (↑i:Int)] (lapp (dN 5) (lapp [i64 (↑i:Int),.imm (.sl 2 a),i64 (a.length:Int),bo (decide ((↑i:Int) < (a.length:Int)))] (dN 11)))) [] 0 []))):=by kernel_rfl
theorem f45_lp (a:List Bool) (b:List Bool) (i:Nat) (k:AX→St→Prop):evCode K0 (loopB (bodyOf Tryz.f33) 0) (hA (oo a) (oo b) i) k = (brn (decide ((↑i:Int) < (a.length:Int))) ((0:Int)≤(↑i:Int)∧(↑i:Int) < (a.length:Int)∧(0:Int)≤(↑i:Int)∧(↑i:Int) < (b.length:Int)∧brn (!List.getD a (↑i:Int).toNat false == List.getD b (↑i:Int).toNat false) (k AX.ret (St.mk (lapp [.imm (.bools a),.imm (.bools b),.dead,.dead,bo false,i64 (↑i:Int)] (lapp (dN 5) [i64 (↑i:Int),.imm (.bools a),i64 (a.length:Int),bo (decide ((↑i:Int) < (a.length:Int))),.dead,.dead,.imm (.bools a),i64 (↑i:Int),AV.elv [IV.bool (List.getD a (↑i:Int).toNat false)],bo (List.getD a (↑i:Int).toNat false),.imm (.bools b),i64 (↑i:Int),AV.elv [IV.bool (List.getD b (↑i:Int).toNat false)],bo (List.getD b (↑i:Int).toNat false),bo (!List.getD a (↑i:Int).toNat false == List.getD b (↑i:Int).toNat false)])) [] 0 [])) (k AX.normal (St.mk (lapp [.imm (.bools a),.imm (.bools b),.dead,.dead,.dead,i64 (IntKind.wrap .i64 ((↑i:Int) + 1))] (lapp (dN 5) [i64 (↑i:Int),.imm (.bools a),i64 (a.length:Int),bo (decide ((↑i:Int) < (a.length:Int))),i64
 (↑i:Int),i64 (IntKind.wrap .i64 ((↑i:Int) + 1)),.imm (.bools a),i64 (↑i:Int),AV.elv [IV.bool (List.getD a (↑i:Int).toNat false)],bo (List.getD a (↑i:Int).toNat false),.imm (.bools b),i64 (↑i:Int),AV.elv [IV.bool (List.getD b (↑i:Int).toNat false)],bo (List.getD b (↑i:Int).toNat false),bo (!List.getD a (↑i:Int).toNat false == List.getD b (↑i:Int).toNat false)])) [] 0 []))) (k (AX.exit 0) (St.mk (lapp [.imm (.bools a),.imm (.bools b),.dead,.dead,.dead,i64 (↑i:Int)] (lapp (dN 5) (lapp [i64 (↑i:Int),.imm (.bools a),i64 (a.length:Int),bo (decide ((↑i:Int) < (a.length:Int)))] (dN 11)))) [] 0 []))):=by kernel_rfl
theorem f52_lp (T:List Int) (n:Int) (i:Nat) (k:AX→St→Prop):evCode K1 (loopB (bodyOf Tryz.f49) 0) (h52 T n i) k = (brn (decide ((↑i:Int) < (T.length:Int))) ((0:Int)≤(↑i:Int)∧(↑i:Int) < (T.length:Int)∧sz48 n∧brn (!fitsP (List.getD T (↑i:Int).toNat (0:Int)) n) (k AX.ret (St.mk [.imm (.ints IntKind.i64 T),i64 n,.dead,.dead,bo false,i64 (↑i:Int),i64 (↑i:Int),.imm (.ints IntKind.i64 T),i64 (T.length:Int),bo (decide ((↑i:Int) < (T.length:Int))),.dead,.dead,.imm (.ints IntKind.i64 T),i64 (↑i:Int),AV.elv [IV.int .i64 (List.getD T (↑i:Int).toNat (0:Int))],i64 (List.getD T (↑i:Int).toNat (0:Int)),i64 n,bo (fitsP (List.getD T (↑i:Int).toNat (0:Int)) n),bo (!fitsP (List.getD T (↑i:Int).toNat (0:Int)) n)] [] 0 [])) (k AX.normal (St.mk [.imm (.ints IntKind.i64 T),i64 n,.dead,.dead,.dead,i64 (IntKind.wrap .i64 ((↑i:Int) + 1)),i64 (↑i:Int),.imm (.ints IntKind.i64 T),i64 (T.length:Int),bo (decide ((↑i:Int) < (T.length:Int))),i64 (↑i:Int),i64 (IntKind.wrap .i64 ((↑i:Int) + 1)),.imm (.ints IntKind.i64 T),i64 (↑i:Int),AV.elv [IV.int .i64 (List.getD T (↑i:Int).toNat (0:Int))],i64
 (List.getD T (↑i:Int).toNat (0:Int)),i64 n,bo (fitsP (List.getD T (↑i:Int).toNat (0:Int)) n),bo (!fitsP (List.getD T (↑i:Int).toNat (0:Int)) n)] [] 0 []))) (k (AX.exit 0) (St.mk (lapp [.imm (.ints IntKind.i64 T),i64 n,.dead,.dead,.dead,i64 (↑i:Int),i64 (↑i:Int),.imm (.ints IntKind.i64 T),i64 (T.length:Int),bo (decide ((↑i:Int) < (T.length:Int)))] (dN 9)) [] 0 []))):=by kernel_rfl
def p0:Lp:=⟨0,0⟩
theorem okL_elim {xs:List (List IV)} (h:okL xs):∃ L:List Lp,xs = L.map cellsL∧lps xs = L∧∀ t ∈ L,okLp t:=⟨lps xs,h.1,rfl,h.2⟩
theorem getL {L:List Lp} {i:Nat} (h:i < L.length):(L.map cellsL).getD i [] = cellsL (L.getD i p0):=by
 simp only [List.getD_eq_getElem?_getD,List.getElem?_map,List.getElem?_eq_getElem h]
 rfl
theorem kL (t:Lp):kcells (cellsL t) 0 (lapp [CK.int .i64] (lapp [CK.int .i32] [])) = cellsL t:=rfl
theorem aL (t:Lp):ivInt (ivNth (cellsL t) 0) = t.a:=rfl
theorem cL (t:Lp):ivInt (ivNth (cellsL t) (0 + 1)) = t.c:=rfl
theorem inc {i:Nat} (h:i≤1000000000000):IntKind.wrap .i64 ((i:Int) + 1) = ((i + 1:Nat):Int):=by rw [wrap64 (by omega) (by omega)]; first | done | rfl
theorem incB {i:Nat} (h:i≤4611686018427387904):IntKind.wrap .i64 ((i:Int) + 1) = ((i + 1:Nat):Int):=by rw [wrap64 (by omega) (by omega)]; first | done | rfl
theorem nat_ne {a b:Nat} (h:((a:Int) != (b:Int)) = false):a = b:=by simp at h; omega
theorem f42_ev (a b:List Int) (ha:(a.length:Int)≤big') (hb:(b.length:Int)≤big') (K:List AV→Prop) (hK:K [bo (decide (a = b))]):evSpec K0 Tryz.f29 [ii a,ii b] K:=by
 have hbig:big' = 1000000000000:=rfl
 have no:a≠b→K [.imm (.bool false)]:=fun h=>by rw [decide_eq_false h] at hK; exact hK
 refine Eq.mpr (f42_in a b K) ?_
 refine brn_intro (fun h=>?_) (fun h=>?_)
 ·refine no (fun e=>?_)
  subst e
  simp at h
 ·have hl:a.length = b.length:=nat_ne h
  unfold LoopI
  refine loop_rule (fun i:Nat=>hA (ii a) (ii b) i) (fun i=>i≤a.length∧a.take i = b.take i) (fun i=>a.length - i) (fun i hP K' hnorm hexit=>?_) rfl 0 pA _ ⟨Nat.zero_le _,by simp⟩ (by kernel_rfl)
  obtain ⟨hi,ht⟩:=hP
  rw [f42_lp]
  refine brn_intro (fun h1=>?_) (fun h1=>?_)
  ·simp only [decide_eq_true_eq] at h1
   simp only [Int.toNat_natCast]
   refine ⟨by omega,by omega,by omega,by omega,brn_intro (fun h2=>?_) (fun h2=>?_)⟩
   ·refine hexit _ _ (by simp) (Eq.mp (by kernel_rfl) (no (ne_of_at 0 (i:=i) fun e=>?_)))
    rw [e] at h2
    simp at h2
   ·have e3:a.getD i 0 = b.getD i 0:=by
     simpa using h2
    simp only [inc (show i≤1000000000000 by omega)]
    refine hnorm (i + 1) pA _ ⟨by omega,?_⟩ (by omega) (by kernel_rfl)
    rw [takeS 0 (by omega),takeS 0 (by omega),ht,e3]
  ·simp only [decide_eq_false_iff_not] at h1
   have hil:i = a.length:=by omega
   have e:a = b:=by
    rw [hil,List.take_length,hl,List.take_length] at ht
    exact ht
   rw [decide_eq_true e] at hK
   exact hexit _ _ (by simp) (Eq.mp (by kernel_rfl) hK)
theorem f45_ev (a b:List Bool) (ha:(a.length:Int)≤big') (hb:(b.length:Int)≤big') (K:List AV→Prop) (hK:K [bo (decide (a = b))]):evSpec K0 Tryz.f33 [oo a,oo b] K:=by
 have hbig:big' = 1000000000000:=rfl
 have no:a≠b→K [.imm (.bool false)]:=fun h=>by rw [decide_eq_false h] at hK; exact hK
 refine Eq.mpr (f45_in a b K) ?_
 refine brn_intro (fun h=>?_) (fun h=>?_)
 ·refine no (fun e=>?_)
  subst e
  simp at h
 ·have hl:a.length = b.length:=nat_ne h
  unfold LoopI
  refine loop_rule (fun i:Nat=>hA (oo a) (oo b) i) (fun i=>i≤a.length∧a.take i = b.take i) (fun i=>a.length - i) (fun i hP K' hnorm hexit=>?_) rfl 0 pA _ ⟨Nat.zero_le _,by simp⟩ (by kernel_rfl)
  obtain ⟨hi,ht⟩:=hP
  rw [f45_lp]
  refine brn_intro (fun h1=>?_) (fun h1=>?_)
  ·simp only [decide_eq_true_eq] at h1
   simp only [Int.toNat_natCast]
   refine ⟨by omega,by omega,by omega,by omega,brn_intro (fun h2=>?_) (fun h2=>?_)⟩
   ·refine hexit _ _ (by simp) (Eq.mp (by kernel_rfl) (no (ne_of_at false (i:=i) fun e=>?_)))
    rw [e] at h2
    simp at h2
   ·have e3:a.getD i false = b.getD i false:=by
     simpa using h2
    simp only [inc (show i≤1000000000000 by omega)]
    refine hnorm (i + 1) pA _ ⟨by omega,?_⟩ (by omega) (by kernel_rfl)
    rw [takeS false (by omega),takeS false (by omega),ht,e3]
  ·simp only [decide_eq_false_iff_not] at h1
   have hil:i = a.length:=by omega
   have e:a = b:=by
    rw [hil,List.take_length,hl,List.take_length] at ht
    exact ht
   rw [decide_eq_true e] at hK
   exact hexit _ _ (by simp) (Eq.mp (by kernel_rfl) hK)
theorem f44_ev (L M:List Lp) (ha:(L.length:Int)≤big') (hb:(M.length:Int)≤big') (K:List AV→Prop) (hK:K [bo (decide (L = M))]):evSpec K0 Tryz.f32 [.imm (slL L),.imm (slL M)] K:=by
 have hbig:big' = 1000000000000:=rfl
 have no:L≠M→K [.imm (.bool false)]:=fun h=>by rw [decide_eq_false h] at hK; exact hK
 unfold slL
 refine Eq.mpr (f44_in (L.map cellsL) (M.map cellsL) K) ?_
 simp only [List.length_map]
 refine brn_intro (fun h=>?_) (fun h=>?_)
 ·refine no (fun e=>?_)
  subst e
  simp at h
 ·have hl:L.length = M.length:=nat_ne h
  unfold LoopI
  refine loop_rule (fun i:Nat=>hA (ll (L.map cellsL)) (ll (M.map cellsL)) i) (fun i=>i≤L.length∧L.take i = M.take i) (fun i=>L.length - i) (fun i hP K' hnorm hexit=>?_) rfl 0 pA _ ⟨Nat.zero_le _,by simp⟩ (by kernel_rfl)
  obtain ⟨hi,ht⟩:=hP
  rw [f44_lp]
  simp only [List.length_map]
  refine brn_intro (fun h1=>?_) (fun h1=>?_)
  ·simp only [decide_eq_true_eq] at h1
   have hlt:i < L.length:=by omega
   simp only [Int.toNat_natCast,getL hlt,getL (hl ▸ hlt:i < M.length),kL,aL,cL]
   refine ⟨by omega,by omega,True.intro,by omega,by omega,True.intro,brn_intro (fun h2=>?_) (fun h2=>?_)⟩
   ·refine hexit _ _ (by simp) (Eq.mp (by kernel_rfl) (no (ne_of_at p0 (i:=i) fun e=>?_)))
    rw [e] at h2
    simp at h2
   ·have e3:L.getD i p0 = M.getD i p0:=by
     simp only [Bool.not_eq_false',Bool.and_eq_true,beq_iff_eq,and_true] at h2
     obtain ⟨q1,q2⟩:=h2
     generalize L.getD i p0 = x at *
     generalize M.getD i p0 = y at *
     cases x; cases y
     simp only at q1 q2
     rw [q1,q2]
    simp only [inc (show i≤1000000000000 by omega)]
    refine hnorm (i + 1) pA _ ⟨by omega,?_⟩ (by omega) (by kernel_rfl)
    rw [takeS p0 (by omega),takeS p0 (by omega),ht,e3]
  ·simp only [decide_eq_false_iff_not] at h1
   have hil:i = L.length:=by omega
   have e:L = M:=by
    rw [hil,List.take_length,hl,List.take_length] at ht
    exact ht
   rw [decide_eq_true e] at hK
   exact hexit _ _ (by simp) (Eq.mp (by kernel_rfl) hK)
theorem f52_ev (T:List Int) (n:Int) (hn:sz48 n) (hT:(T.length:Int)≤big) (K:List AV→Prop) (hK:K [bo (fitP T n)]):evSpec K1 Tryz.f49 [ii T,i64 n] K:=by
 have hbig:big = 4611686018427387904:=rfl
 refine Eq.mpr (f52_in T n K) ?_
 unfold LoopI
 refine loop_rule (fun i:Nat=>h52 T n i) (fun i=>i≤T.length∧(T.take i).all (fun v=>fitsP v n) = true) (fun i=>T.length - i) (fun i hP K' hnorm hexit=>?_) rfl 0 p52 _ ⟨Nat.zero_le _,rfl⟩ (by kernel_rfl)
 obtain ⟨hi,ha⟩:=hP
 rw [f52_lp]
 refine brn_intro (fun h=>?_) (fun h=>?_)
 ·simp only [decide_eq_true_eq] at h
  have hlt:i < T.length:=by omega
  simp only [incB (show i≤4611686018427387904 by omega),Int.toNat_natCast]
  refine ⟨by omega,by omega,hn,brn_intro (fun h2=>?_) (fun h2=>?_)⟩
  ·have hno:fitP T n = false:=by
    cases he:fitP T n with
    | false=>rfl
    | true=>unfold fitP at he; rw [List.all_eq_true] at he; rw [he _ (memD 0 hlt)] at h2; cases h2
   rw [hno] at hK
   exact hexit _ _ (by simp) (Eq.mp (by kernel_rfl) hK)
  ·have h2':fitsP (T.getD i 0) n = true:=by simpa using h2
   refine hnorm (i + 1) p52 _ ⟨hlt,?_⟩ (by omega) (by kernel_rfl)
   rw [takeS 0 hlt,List.all_append,ha]
   simpa using h2'
 ·simp only [decide_eq_false_iff_not] at h
  have hil:i = T.length:=by omega
  rw [hil,List.take_length] at ha
  have:fitP T n = true:=ha
  rw [this] at hK
  exact hexit _ _ (by simp) (Eq.mp (by kernel_rfl) hK)
end PF
namespace PF
open Go Go.Proofs Go.RowKit Go.Lib
end PF
set_option maxRecDepth 100000
namespace PF
open Go Go.AE Go.Proofs PE
attribute [local irreducible] loopK evCode evSpec loopB norm
theorem f10_ev (T:List Int) (I:List UInt8) (X:List (List IV)) (C:List UInt8) (L:List (List IV)) (S U:List Bool) (K:List AV→Prop) (hK:K [bo (fewB T I X C L S U)]):evSpec K0 Tryz.f24 [blkAV T I X C L S U] K:=by
 refine Eq.mpr (f10_in T I X C L S U K) ?_
 have e1:∀ n:Nat,decide ((n:Int)≤200) = decide (n≤200):=fun n=>decide_eq_decide.2 (by omega)
 have e2:∀ n:Nat,decide ((n:Int)≤600) = decide (n≤600):=fun n=>decide_eq_decide.2 (by omega)
 simp only [e1,e2]
 exact hK
theorem sameK_eq (T:List Int) (I:List UInt8) (X:List (List IV)) (C:List UInt8) (L:List (List IV)) (S U:List Bool) (T':List Int) (I':List UInt8) (X':List (List IV)) (C':List UInt8) (L':List (List IV)) (S' U':List Bool) :
  (decide (T = T') && decide (I = I') && decide (tys X = tys X') && decide (C = C') && decide (lps L = lps L') && decide (S = S') && decide (U = U')) = sameK T I X C L S U T' I' X' C' L' S' U':=by
 unfold sameK
 simp only [Bool.and_assoc]
theorem f14_ev (T:List Int) (I:List UInt8) (X:List (List IV)) (C:List UInt8) (L:List (List IV)) (S U:List Bool) (T':List Int) (I':List UInt8) (X':List (List IV)) (C':List UInt8) (L':List (List IV)) (S' U':List Bool) (h:okB T I X C L S U) (h':okB T' I' X' C' L' S' U')
  (K:List AV→Prop) (hK:K [bo (sameK T I X C L S U T' I' X' C' L' S' U')]):evSpec K1 Tryz.f16 [blkAV T I X C L S U,blkAV T' I' X' C' L' S' U'] K:=by
 obtain ⟨a1,a2,a3,a4,a5,a6,a7,a8,a9⟩:=h
 obtain ⟨b1,b2,b3,b4,b5,b6,b7,b8,b9⟩:=h'
 have hbig:big' = 1000000000000:=rfl
 have hbig2:big = 4611686018427387904:=rfl
 refine Eq.mpr (f14_in T I X C L S U T' I' X' C' L' S' U' K) ?_
 rw [sameK_eq]
 exact ⟨a3,b3,fun _=>by omega,fun _=>by omega,fun _=>a1,fun _=>b1,fun _=>by omega,fun _=>by omega,fun _=>by omega,fun _=>by omega,fun _=>a2,fun _=>b2,fun _=>a7,fun _=>b7,fun _=>a8,fun _=>b8,fun _=>a9,fun _=>b9,hK⟩
end PF
namespace PF
open Go Go.AE Go.Proofs PE
end PF
set_option maxRecDepth 100000
namespace PF
open Go Go.AE Go.Proofs Go.RowKit PE
attribute [local irreducible] loopK evCode evSpec loopB norm
theorem f51_in0 (v:Int) (n:Int) (K:List AV→Prop):evSpec K0 Tryz.f50 [i64 v,i64 n] K = (brn (n == 8) (K [bo true]) ((1:Int)≤n∧n≤8∧K [bo (decide (v≥IntKind.wrap .i64 ((0:Int) - IntKind.wrap .i64 ((2:Int) ^ (8 * n.toNat - 1)))) && decide (v < IntKind.wrap .i64 ((2:Int) ^ (8 * n.toNat - 1))))])):=by kernel_rfl
theorem f51_ev0 (v n:Int) (hn:sz48 n) (K:List AV→Prop) (hK:K [bo (fitsP v n)]):evSpec K0 Tryz.f50 [i64 v,i64 n] K:=by
 refine Eq.mpr (f51_in0 v n K) ?_
 rcases hn with rfl | rfl
 ·have e:(decide (v≥IntKind.wrap .i64 ((0:Int) - IntKind.wrap .i64 ((2:Int) ^ (8 * Int.toNat 4 - 1)))) && decide (v < IntKind.wrap .i64 ((2:Int) ^ (8 * Int.toNat 4 - 1)))) = fitsP v 4:=by
   have w1:IntKind.wrap .i64 ((2:Int) ^ (8 * Int.toNat 4 - 1)) = 2147483648:=by decide
   have w2:IntKind.wrap .i64 ((0:Int) - 2147483648) = -2147483648:=by decide
   rw [w1,w2]
   unfold fitsP
   rw [decide_eq_false (show ¬ ((4:Int) = 8) by decide),Bool.false_or]
  exact ⟨by decide,by decide,by rw [e]; exact hK⟩
 ·exact hK
theorem ok10:∀ args pres res,sFew args = some (pres,res)→SpecOK Tryz.prog G16 24 args pres res:=by
 intro args pres res h
 unfold sFew blkS at h
 split at h
 case h_2=>cases h
 try dsimp only at h
 split at h
 case h_2=>cases h
 cases h
 exact mk okE4 Tryz.func24 (by kernel_rfl) (by kernel_rfl) (fun hp K hK=>f10_ev _ _ _ _ _ _ _ K hK)
theorem okF1a:EOK Tryz.prog F1a G16:=addE_ok okE4 ok10
theorem okF1b:EOK Tryz.prog F1b G16:=okF1a
theorem ok42:∀ args pres res,sSameI args = some (pres,res)→SpecOK Tryz.prog G16 29 args pres res:=by
 intro args pres res h
 unfold sSameI at h
 split at h
 case h_2=>cases h
 cases h
 exact mk okE4 Tryz.func29 (by kernel_rfl) (by kernel_rfl) (fun hp K hK=>f42_ev _ _ (hp _ (by simp)) (hp _ (by simp)) K hK)
theorem ok44:∀ args pres res,sSameL args = some (pres,res)→SpecOK Tryz.prog G16 32 args pres res:=by
 intro args pres res h
 unfold sSameL at h
 split at h
 case h_2=>cases h
 cases h
 rename_i xs ys
 exact mk okE4 Tryz.func32 (by kernel_rfl) (by kernel_rfl) (fun hp K hK=>by
  obtain ⟨L,rfl,e,hL⟩:=okL_elim (hp (okL xs) (by simp))
  obtain ⟨M,rfl,e',hM⟩:=okL_elim (hp (okL ys) (by simp))
  rw [e,e'] at hK
  have h1:=hp (((L.map cellsL).length:Int)≤big') (by simp)
  have h2:=hp (((M.map cellsL).length:Int)≤big') (by simp)
  rw [List.length_map] at h1 h2
  exact f44_ev L M h1 h2 K hK)
theorem ok45:∀ args pres res,sSameO args = some (pres,res)→SpecOK Tryz.prog G16 33 args pres res:=by
 intro args pres res h
 unfold sSameO at h
 split at h
 case h_2=>cases h
 cases h
 exact mk okE4 Tryz.func33 (by kernel_rfl) (by kernel_rfl) (fun hp K hK=>f45_ev _ _ (hp _ (by simp)) (hp _ (by simp)) K hK)
theorem okF1c:EOK Tryz.prog F1c G16:=addE_ok (addE_ok (addE_ok okF1b ok42) ok44) ok45
theorem okF1d:EOK Tryz.prog F1d G16:=okF1c
theorem ok51:∀ args pres res,sFits args = some (pres,res)→SpecOK Tryz.prog G16 50 args pres res:=by
 intro args pres res h
 unfold sFits at h
 split at h
 case h_2=>cases h
 cases h
 exact mk okE4 Tryz.func50 (by kernel_rfl) (by kernel_rfl) (fun hp K hK=>f51_ev0 _ _ (hp _ (by simp)) K hK)
theorem okF1:EOK Tryz.prog F1 G16:=addE_ok okF1d ok51
theorem ok52:∀ args pres res,sFit args = some (pres,res)→SpecOK Tryz.prog G16 49 args pres res:=by
 intro args pres res h
 unfold sFit at h
 split at h
 case h_2=>cases h
 cases h
 exact mk okF1 Tryz.func49 (by kernel_rfl) (by kernel_rfl) (fun hp K hK=>f52_ev _ _ (hp _ (by simp)) (hp _ (by simp)) K hK)
theorem ok14:∀ args pres res,sEqual args = some (pres,res)→SpecOK Tryz.prog G16 16 args pres res:=by
 intro args pres res h
 unfold sEqual blkS at h
 split at h
 case h_2=>cases h
 try dsimp only at h
 split at h
 case h_2=>cases h
 try dsimp only at h
 split at h
 case h_2=>cases h
 cases h
 exact mk okF1 Tryz.func16 (by kernel_rfl) (by kernel_rfl) (fun hp K hK=>f14_ev _ _ _ _ _ _ _ _ _ _ _ _ _ _ (hp _ (by simp)) (hp _ (by simp)) K hK)
theorem okF2:EOK Tryz.prog F2 G16:=addE_ok (addE_ok okF1 ok52) ok14
theorem okF3:EOK Tryz.prog F3 G16:=okF2
theorem okF4:EOK Tryz.prog F4 G16:=okF3
end PF
namespace PF
open Go Go.AE Go.Proofs PE
def alwU (c:Int):Bool:=c == (43:Int) || c == (45:Int) || decide (c≥(48:Int)) && decide (c≤(57:Int)) || decide (c≥(65:Int)) && decide (c≤(90:Int)) || decide (c≥(97:Int)) && decide (c≤(122:Int))
def lateU (f:Int):Bool:=decide (f < (0:Int)) || decide (f > (86400:Int))
def extU (h:Bool) (f g:Int):Bool:=h && (lateU f || lateU g)
def sAlw:List AV→Option (List Prop×List AV)
 | [.imm (.int .u8 c)]=>some ([],[bo (alwU c)])
 | _=>none
def rdC (a b c d e f:Int):List AV:=[i64 a,i64 b,i64 c,i64 d,i64 e,i64 f]
def ruC (s:List UInt8) (o:Int) (h:Bool) (t:List UInt8) (p:Int) (x y:List AV):List AV:=[.imm (.str s),i64 o,bo h,.imm (.str t),i64 p] ++ (x ++ y)
def sExt:List AV→Option (List Prop×List AV)
 | [.agg [.imm (.str s),.imm (.int .i64 o),.imm (.bool h),.imm (.str t),.imm (.int .i64 p),.imm (.int .i64 a),.imm (.int .i64 b),.imm (.int .i64 c),.imm (.int .i64 d),.imm (.int .i64 e),.imm (.int .i64 f),.imm (.int .i64 a'),.imm (.int .i64 b'),.imm (.int .i64 c'),.imm (.int .i64 d'),.imm (.int .i64 e'),.imm (.int .i64 f')]]=>some ([],[bo (extU h f f')])
 | _=>none
noncomputable def F11:=F4
noncomputable def LX:Cx:=⟨Tryz.prog,F11,noCall,G16,4009⟩
noncomputable def F12:=addE F11 87 sAlw
noncomputable def F13:=F12
end PF
set_option maxRecDepth 100000
namespace PF
open Go Go.AE Go.Proofs PE
attribute [local irreducible] loopK evCode evSpec loopB norm
theorem g112_in (c:Int) (K:List AV→Prop):evSpec LX Tryz.f87 [.imm (.int .u8 c)] K = (K [bo (c == 43 || c == 45 || decide (c≥48) && decide (c≤57) || decide (c≥65) && decide (c≤90) || decide (c≥97) && decide (c≤122))]):=by kernel_rfl
theorem okF11:EOK Tryz.prog F11 G16:=okF4
theorem ok112e:∀ args pres res,sAlw args = some (pres,res)→SpecOK Tryz.prog G16 87 args pres res:=by
 intro args pres res h
 unfold sAlw at h
 split at h
 case h_2=>cases h
 cases h
 exact spec_ok (C:=LX) okF11 noCall_ok Tryz.func87 (by kernel_rfl) (by kernel_rfl) (fun hp=>Eq.mpr (g112_in _ _) rfl)
theorem okF12:EOK Tryz.prog F12 G16:=addE_ok okF11 ok112e
theorem okF13:EOK Tryz.prog F13 G16:=okF12
theorem okB_zero:okB [] [] [] [] [] [] []:=by
 refine ⟨⟨rfl,fun t ht=>by cases ht⟩,⟨rfl,fun t ht=>by cases ht⟩,?_⟩
 decide
end PF
set_option maxRecDepth 100000
namespace PF
open Go Go.AE Go.Proofs PE
def biU (b:Bool):Int:=bif b then 1 else 0
def wkU (n:Int):Int:=if Int.tmod (IntKind.wrap .i64 (n - 3)) 7 < 0 then IntKind.wrap .i64 (Int.tmod (IntKind.wrap .i64 (n - 3)) 7 + 7) else Int.tmod (IntKind.wrap .i64 (n - 3)) 7
def leapU (n:Int):Bool:=Int.tmod n 400 == 0 || (Int.tmod n 4 == 0 && Int.tmod n 100 != 0)
def eraK (n:Int):Int:=if Int.tmod (IntKind.wrap .i64 (n - 2000)) 400 < 0 then IntKind.wrap .i64 (IntKind.wrap .i64 (Int.tdiv (IntKind.wrap .i64 (n - 2000)) 400) - 1) else IntKind.wrap .i64 (Int.tdiv (IntKind.wrap .i64 (n - 2000)) 400)
def eraR (n:Int):Int:=if Int.tmod (IntKind.wrap .i64 (n - 2000)) 400 < 0 then IntKind.wrap .i64 (Int.tmod (IntKind.wrap .i64 (n - 2000)) 400 + 400) else Int.tmod (IntKind.wrap .i64 (n - 2000)) 400
def cmpU (a b c d:Int):Int:=if (decide (a < c) || a == c && decide (b < d)) = true then -1 else if (a == c && (b == d && true)) = true then 0 else 1
def minU (t c:Int):Int:=if (decide (c > 0) && decide (t < IntKind.wrap .i64 (-9223372036854775808 + c))) = true then -9223372036854775808 else if (decide (c < 0) && decide (t > IntKind.wrap .i64 (9223372036854775807 + c))) = true then 9223372036854775807 else IntKind.wrap .i64 (t - c)
def vDay (a b c d e f:Int):Bool:=if (decide (f < -604799) || decide (f > 604799)) = true then false else if (a == 1) = true then (decide (b≥1) && decide (b≤365) && c == 0 && d == 0 && e == 0) else if (a == 2) = true then (decide (b≥0) && decide (b≤365) && c == 0 && d == 0 && e == 0) else (a == 3 && b == 0 && decide (c≥1) && decide (c≤12) && decide (d≥1) && decide (d≤5) && decide (e≥0) && decide (e≤6))
def sBI:List AV→Option (List Prop×List AV)
 | [.imm (.bool b)]=>some ([],[i64 (biU b)])
 | _=>none
def sWk:List AV→Option (List Prop×List AV)
 | [.imm (.int .i64 n)]=>some ([],[i64 (wkU n)])
 | _=>none
def sLeap:List AV→Option (List Prop×List AV)
 | [.imm (.int .i64 n)]=>some ([],[bo (leapU n)])
 | _=>none
def sEra:List AV→Option (List Prop×List AV)
 | [.imm (.int .i64 n)]=>some ([],[i64 (eraK n),i64 (eraR n)])
 | _=>none
def sCmp:List AV→Option (List Prop×List AV)
 | [.agg [.imm (.int .i64 a),.imm (.int .i64 b)],.agg [.imm (.int .i64 c),.imm (.int .i64 d)]]=>some ([],[i64 (cmpU a b c d)])
 | _=>none
def sMinus:List AV→Option (List Prop×List AV)
 | [.imm (.int .i64 t),.imm (.int .i64 c)]=>some ([],[i64 (minU t c)])
 | _=>none
noncomputable def N0:Cx:=⟨Tryz.prog,F13,noCall,G16,4020⟩
noncomputable def F20:=addE (addE (addE (addE (addE (addE F13 88 sBI) 92 sWk) 100 sLeap) 106 sEra) 90 sCmp) 55 sMinus
noncomputable def N1:Cx:=⟨Tryz.prog,F20,noCall,G16,4020⟩
def mdU (y m:Int):Int:=if (m == 4 || m == 6 || m == 9 || m == 11) = true then 30 else if (m == 2) = true then (bif leapU y then 29 else 28) else 31
def splD (t:Int):Int:=IntKind.wrap .i64 (IntKind.wrap .i64 (Int.tdiv (IntKind.wrap .i64 (t - Int.tmod t 86400)) 86400) - biU (decide (Int.tmod t 86400 < 0)))
def splS (t:Int):Int:=if Int.tmod t 86400 < 0 then IntKind.wrap .i64 (Int.tmod t 86400 + 86400) else Int.tmod t 86400
def sMD:List AV→Option (List Prop×List AV)
 | [.imm (.int .i64 y),.imm (.int .i64 m)]=>some ([],[i64 (mdU y m)])
 | _=>none
def sSplit:List AV→Option (List Prop×List AV)
 | [.imm (.int .i64 t)]=>some ([],[i64 (splD t),i64 (splS t)])
 | _=>none
noncomputable def F21:=addE (addE F20 101 sMD) 74 sSplit
noncomputable def N2:Cx:=⟨Tryz.prog,F21,noCall,G16,4020⟩
def h141 (y m n k:Int):St:=⟨spr [(0,i64 y),(1,i64 m),(7,i64 n),(8,i64 k)] 0 22,[],0,[]⟩
def o141 (y m n k:Int):St:=⟨spr [(0,i64 y),(1,i64 m),(7,i64 n),(8,i64 k),(11,i64 k),(12,i64 m),(13,bo (decide (k < m)))] 0 22,[],0,[]⟩
def p141:Plan:=⟨[],msk [0,1,7,8] 0 22,[]⟩
def h139 (y m d r n i:Int):St:=⟨spr [(0,i64 y),(1,i64 m),(2,i64 d),(8,i64 r),(9,i64 n),(10,i64 i)] 0 36,[],0,[]⟩
def o139 (y m d r n i:Int):St:=⟨spr [(0,i64 y),(1,i64 m),(2,i64 d),(8,i64 r),(9,i64 n),(10,i64 i),(19,i64 i),(20,i64 r),(21,bo (decide (i < r)))] 0 36,[],0,[]⟩
def p139:Plan:=⟨[],msk [0,1,2,8,9,10] 0 36,[]⟩
def h132 (a b:Int):St:=⟨spr [(0,i64 a),(1,i64 b),(4,.ptr 0 0)] 0 20,[(0,⟨true,0,.cells [i64 0,i64 0]⟩)],1,[]⟩
def o132 (a b:Int):St:=⟨spr [(0,i64 a),(1,i64 b),(4,.ptr 0 0),(5,i64 b),(6,bo (decide (b < 0)))] 0 20,[(0,⟨true,0,.cells [i64 0,i64 0]⟩)],1,[]⟩
def q132 (a b:Int):St:=⟨spr [(0,i64 a),(1,i64 b),(4,.ptr 0 0),(11,i64 b),(12,bo (decide (b≥86400)))] 0 20,[(0,⟨true,0,.cells [i64 0,i64 0]⟩)],1,[]⟩
def p132:Plan:=⟨[],msk [0,1,4] 0 20,[0]⟩
def h122 (k n y:Int):St:=⟨spr [(5,i64 k),(6,i64 n),(7,i64 y)] 0 52,[],0,[]⟩
def o122 (k n y l:Int) (lp:Bool):St:=⟨spr [(5,i64 k),(6,i64 n),(7,i64 y),(8,i64 l),(22,i64 y),(23,bo lp),(24,i64 n),(25,i64 l),(26,bo (decide (n < l)))] 0 52,[],0,[]⟩
def p122:Plan:=⟨[],msk [5,6,7] 0 52,[]⟩
def h122b (k n y m:Int):St:=⟨spr [(5,i64 k),(6,i64 n),(7,i64 y),(9,i64 m)] 0 52,[],0,[]⟩
def o122b (k n y m:Int):St:=⟨spr [(5,i64 k),(6,i64 n),(7,i64 y),(9,i64 m),(32,i64 n),(33,i64 y),(34,i64 m),(35,i64 (mdU y m)),(36,bo (decide (n≥mdU y m)))] 0 52,[],0,[]⟩
def p122b:Plan:=⟨[],msk [5,6,7,9] 0 52,[]⟩
attribute [local irreducible] evCode evSpec loopB loopK norm
theorem g119_in (b:Bool) (K:List AV→Prop):evSpec N0 Tryz.f88 [bo b] K =
 (brn b (K [AV.imm (IV.int IntKind.i64 (1:Int))]) (K [AV.imm (IV.int IntKind.i64 (0:Int))])):=by kernel_rfl
theorem g123_in (n:Int) (K:List AV→Prop):evSpec N0 Tryz.f92 [i64 n] K = ((7:Int)≠0∧brn (decide (Int.tmod (IntKind.wrap .i64 (n - 3)) (7:Int) < 0)) (K [i64 (IntKind.wrap .i64 (Int.tmod (IntKind.wrap .i64 (n - 3)) (7:Int) + 7))]) (K [i64 (Int.tmod (IntKind.wrap .i64 (n - 3)) (7:Int))])):=by kernel_rfl
theorem g134_in (n:Int) (K:List AV→Prop):evSpec N0 Tryz.f100 [i64 n] K = ((400:Int)≠0∧brn (Int.tmod n (400:Int) == 0) (K [bo true]) ((4:Int)≠0∧((Int.tmod n (4:Int) == 0) = true→(100:Int)≠0)∧K [bo (Int.tmod n (4:Int) == 0 && Int.tmod n (100:Int) != 0)])):=by kernel_rfl
theorem g140_in (n:Int) (K:List AV→Prop):evSpec N0 Tryz.f106 [i64 n] K = ((400:Int)≠0∧(400:Int)≠0∧brn (decide (Int.tmod (IntKind.wrap .i64 (n - 2000)) (400:Int) < 0)) (K [i64 (IntKind.wrap .i64 (IntKind.wrap .i64 (Int.tdiv (IntKind.wrap .i64 (n - 2000)) (400:Int)) - 1)),i64 (IntKind.wrap .i64 (Int.tmod (IntKind.wrap .i64 (n - 2000)) (400:Int) + 400))]) (K [i64 (IntKind.wrap .i64 (Int.tdiv (IntKind.wrap .i64 (n - 2000)) (400:Int))),i64 (Int.tmod (IntKind.wrap .i64 (n - 2000)) (400:Int))])):=by kernel_rfl
theorem g121_in (a:Int) (b:Int) (c:Int) (d:Int) (K:List AV→Prop):evSpec N0 Tryz.f90 [.agg [i64 a,i64 b],.agg [i64 c,i64 d]] K = (brn (decide (a < c) || a == c && decide (b < d)) (K [i64 (-1:Int)]) (brn (a == c && (b == d && true)) (K [i64 0]) (K [i64 1]))):=by kernel_rfl
theorem g69_in (t:Int) (c:Int) (K:List AV→Prop):evSpec N0 Tryz.f55 [i64 t,i64 c] K = (brn (decide (c > 0) && decide (t < IntKind.wrap .i64 ((-9223372036854775808:Int) + c))) (K [i64 (-9223372036854775808:Int)]) (brn (decide (c < 0) && decide (t > IntKind.wrap .i64 ((9223372036854775807:Int) + c))) (K [i64 9223372036854775807]) (K [i64 (IntKind.wrap .i64 (t - c))]))):=by kernel_rfl
theorem g135_in (y:Int) (m:Int) (K:List AV→Prop):evSpec N1 Tryz.f101 [i64 y,i64 m] K = (brn (m == 4) (brn (m == 4) (K [i64 30]) (brn (m == 2) (brn (leapU y) (K [i64 29]) (K [i64 28])) (K [i64 31]))) (brn (m == 6) (brn (m == 6) (K [i64 30]) (brn (m == 2) (brn (leapU y) (K [i64 29]) (K [i64 28])) (K [i64 31]))) (brn (m == 9) (brn (m == 9) (K [i64 30]) (brn (m == 2) (brn (leapU y) (K [i64 29]) (K [i64 28])) (K [i64 31]))) (brn (m == 11) (K [i64 30]) (brn (m == 2) (brn (leapU y) (K [i64 29]) (K [i64 28])) (K [i64 31])))))):=by kernel_rfl
theorem g100_in (t:Int) (K:List AV→Prop):evSpec N1 Tryz.f74 [i64 t] K = ((86400:Int)≠0∧brn (decide (Int.tmod t (86400:Int) < 0)) ((86400:Int)≠0∧(86400:Int)≠0∧(86400:Int)≠0∧K [i64 (IntKind.wrap .i64 (IntKind.wrap .i64 (Int.tdiv (IntKind.wrap .i64 (t - Int.tmod t (86400:Int))) (86400:Int)) - biU (decide (Int.tmod t (86400:Int) < 0)))),i64 (IntKind.wrap .i64 (Int.tmod t (86400:Int) + 86400))]) ((86400:Int)≠0∧(86400:Int)≠0∧(86400:Int)≠0∧K [i64 (IntKind.wrap .i64 (IntKind.wrap .i64 (Int.tdiv (IntKind.wrap .i64 (t - Int.tmod t (86400:Int))) (86400:Int)) - biU (decide (Int.tmod t (86400:Int) < 0)))),i64 (Int.tmod t (86400:Int))])):=by kernel_rfl
theorem g141_in (y:Int) (m:Int) (d:Int) (K:List AV→Prop):evSpec N2 Tryz.f107 [i64 y,i64 m,i64 d] K = (LoopI N2 (bodyOf Tryz.f107) 0 (St.mk (lapp [i64 y,i64 m,i64 d,.dead,.dead,.dead,i64 0,i64 (IntKind.wrap .i64 (d - 1)),i64 1,i64 d,i64 (IntKind.wrap .i64 (d - 1))] (dN 11)) [] 0 []) (finK N2 Tryz.f107 K)):=by kernel_rfl
theorem g132_in (a:Int) (b:Int) (K:List AV→Prop):evSpec N2 Tryz.f98 [i64 a,i64 b] K = (LoopI N2 (bodyOf Tryz.f98) 0 (St.mk (lapp [i64 a,i64 b,.dead,.dead,.ptr 0 0] (dN 15)) [(0,Ob.mk true 0 (AObj.cells [i64 0,i64 0]))] 1 []) (finK N2 Tryz.f98 K)):=by kernel_rfl
theorem g122_in (a:Int) (K:List AV→Prop):evSpec N2 Tryz.f91 [i64 a] K = ((146097:Int)≠0∧(146097:Int)≠0∧brn (decide (Int.tmod (IntKind.wrap .i64 (a - 10957)) (146097:Int) < 0)) (LoopI N2 (bodyOf Tryz.f91) 0 (St.mk (lapp [i64 a,.dead,i64 0,i64 0,i64 0,i64 (IntKind.wrap .i64 (IntKind.wrap .i64 (Int.tdiv (IntKind.wrap .i64 (a - 10957)) (146097:Int)) - 1)),i64 (IntKind.wrap .i64 (Int.tmod (IntKind.wrap .i64 (a - 10957)) (146097:Int) + 146097)),i64 0,.dead,.dead,i64 a,i64 (IntKind.wrap .i64 (a - 10957)),i64 (IntKind.wrap .i64 (Int.tdiv (IntKind.wrap .i64 (a - 10957)) (146097:Int))),i64 a,i64 (IntKind.wrap .i64 (a - 10957)),i64 (Int.tmod (IntKind.wrap .i64 (a - 10957)) (146097:Int)),i64 (Int.tmod (IntKind.wrap .i64 (a - 10957)) (146097:Int)),bo (decide (Int.tmod (IntKind.wrap .i64 (a - 10957)) (146097:Int) < 0)),i64 (IntKind.wrap .i64 (Int.tdiv (IntKind.wrap .i64 (a - 10957)) (146097:Int))),i64 (IntKind.wrap .i64 (IntKind.wrap .i64 (Int.tdiv (IntKind.wrap .i64 (a - 10957)) (146097:Int)) - 1))] (dN 32)) [] 0 []) (finK N2 Tryz.f91 K)) (LoopI N2 (bodyOf Tryz.f91) 0 (St.mk (lapp [i64 a,.dead,i64 0,i64 0,i64 0,i64 (IntKind.wrap .i64
 (Int.tdiv (IntKind.wrap .i64 (a - 10957)) (146097:Int))),i64 (Int.tmod (IntKind.wrap .i64 (a - 10957)) (146097:Int)),i64 0,.dead,.dead,i64 a,i64 (IntKind.wrap .i64 (a - 10957)),i64 (IntKind.wrap .i64 (Int.tdiv (IntKind.wrap .i64 (a - 10957)) (146097:Int))),i64 a,i64 (IntKind.wrap .i64 (a - 10957)),i64 (Int.tmod (IntKind.wrap .i64 (a - 10957)) (146097:Int)),i64 (Int.tmod (IntKind.wrap .i64 (a - 10957)) (146097:Int)),bo (decide (Int.tmod (IntKind.wrap .i64 (a - 10957)) (146097:Int) < 0))] (dN 34)) [] 0 []) (finK N2 Tryz.f91 K))):=by kernel_rfl
theorem g141_lp (y:Int) (m:Int) (n:Int) (i:Int) (k:AX→St→Prop):evCode N2 (loopB (bodyOf Tryz.f107) 0) (h141 y m n i) k = (brn (decide (i < m)) (k AX.normal (St.mk (lapp [i64 y,i64 m] (lapp (dN 5) [i64 (IntKind.wrap .i64 (n + mdU y i)),i64 (IntKind.wrap .i64 (i + 1)),.dead,.dead,i64 i,i64 m,bo (decide (i < m)),i64 i,i64 (IntKind.wrap .i64 (i + 1)),i64 n,i64 y,i64 i,i64 (mdU y i),.dead,.dead])) [] 0 [])) (k (AX.exit 0) (St.mk (lapp [i64 y,i64 m] (lapp (dN 5) (lapp [i64 n,i64 i,.dead,.dead,i64 i,i64 m,bo (decide (i < m))] (dN 8)))) [] 0 []))):=by kernel_rfl
theorem g141_out (y:Int) (m:Int) (n:Int) (i:Int) (K:List AV→Prop):loopK N2 (bodyOf Tryz.f107) 0 (finK N2 Tryz.f107 K) (AX.exit 0) (o141 y m n i) = (K [i64 n]):=by kernel_rfl
theorem g132_lp (a:Int) (b:Int) (k:AX→St→Prop):evCode N2 (loopB (bodyOf Tryz.f98) 0) (h132 a b) k = (brn (decide (b < 0)) (k AX.normal (St.mk (lapp [i64 (IntKind.wrap .i64 (a - 1)),i64 (IntKind.wrap .i64 (b + 86400)),.dead,.dead,.ptr 0 0,i64 b,bo (decide (b < 0)),i64 b,i64 (IntKind.wrap .i64 (b + 86400)),i64 a,i64 (IntKind.wrap .i64 (a - 1))] (dN 9)) [(0,Ob.mk true 0 (AObj.cells [i64 0,i64 0]))] 1 [])) (k (AX.exit 0) (St.mk (lapp [i64 a,i64 b,.dead,.dead,.ptr 0 0,i64 b,bo (decide (b < 0))] (dN 13)) [(0,Ob.mk true 0 (AObj.cells [i64 0,i64 0]))] 1 []))):=by kernel_rfl
theorem g132_out (a:Int) (b:Int) (K:List AV→Prop):loopK N2 (bodyOf Tryz.f98) 0 (finK N2 Tryz.f98 K) (AX.exit 0) (o132 a b) = (LoopI N2 (bodyOf Tryz.f98) 1 (St.mk (lapp [i64 a,i64 b,.dead,.dead,.ptr 0 0,i64 b,bo (decide (b < 0))] (dN 13)) [(0,Ob.mk true 0 (AObj.cells [i64 0,i64 0]))] 1 []) (finK N2 Tryz.f98 K)):=by kernel_rfl
theorem g132_lp2 (a:Int) (b:Int) (k:AX→St→Prop):evCode N2 (loopB (bodyOf Tryz.f98) 1) (h132 a b) k = (brn (decide (b≥86400)) (k AX.normal (St.mk (lapp [i64 (IntKind.wrap .i64 (a + 1)),i64 (IntKind.wrap .i64 (b - 86400)),.dead,.dead,.ptr 0 0] (lapp (dN 6) [i64 b,bo (decide (b≥86400)),i64 b,i64 (IntKind.wrap .i64 (b - 86400)),i64 a,i64 (IntKind.wrap .i64 (a + 1)),.dead,.dead,.dead])) [(0,Ob.mk true 0 (AObj.cells [i64 0,i64 0]))] 1 [])) (k (AX.exit 2) (St.mk (lapp [i64 a,i64 b,.dead,.dead,.ptr 0 0] (lapp (dN 6) (lapp [i64 b,bo (decide (b≥86400))] (dN 7)))) [(0,Ob.mk true 0 (AObj.cells [i64 0,i64 0]))] 1 []))):=by kernel_rfl
theorem g132_out2 (a:Int) (b:Int) (K:List AV→Prop):loopK N2 (bodyOf Tryz.f98) 1 (finK N2 Tryz.f98 K) (AX.exit 2) (q132 a b) = (K [.agg [i64 a,i64 b]]):=by kernel_rfl
theorem g122_lp (q:Int) (n:Int) (y:Int) (k:AX→St→Prop):evCode N2 (loopB (bodyOf Tryz.f91) 0) (h122 q n y) k = (brn (leapU y) (brn (decide (n < 366)) (k (AX.exit 0) (St.mk (lapp (dN 5) (lapp [i64 q,i64 n,i64 y,i64 366] (lapp (dN 15) (lapp [i64 n,i64 366,bo (decide (n < 366))] (dN 25))))) [] 0 [])) (k AX.normal (St.mk (lapp (dN 5) (lapp [i64 q,i64 (IntKind.wrap .i64 (n - 366)),i64 (IntKind.wrap .i64 (y + 1)),i64 366] (lapp (dN 21) (lapp [i64 y,i64 (IntKind.wrap .i64 (y + 1))] (dN 20))))) [] 0 []))) (brn (decide (n < 365)) (k (AX.exit 0) (St.mk (lapp (dN 5) (lapp [i64 q,i64 n,i64 y,i64 365] (lapp (dN 15) (lapp [i64 n,i64 365,bo (decide (n < 365))] (dN 25))))) [] 0 [])) (k AX.normal (St.mk (lapp (dN 5) (lapp [i64 q,i64 (IntKind.wrap .i64 (n - 365)),i64 (IntKind.wrap .i64 (y + 1)),i64 365] (lapp (dN 21) (lapp [i64 y,i64 (IntKind.wrap .i64 (y + 1))] (dN 20))))) [] 0 [])))):=by kernel_rfl
theorem g122_out (q:Int) (n:Int) (y:Int) (l:Int) (b:Bool) (K:List AV→Prop):loopK N2 (bodyOf Tryz.f91) 0 (finK N2 Tryz.f91 K) (AX.exit 0) (o122 q n y l b) = (LoopI N2 (bodyOf Tryz.f91) 1 (St.mk (lapp (dN 5) (lapp [i64 q,i64 n,i64 y,i64 l,i64 1] (dN 42))) [] 0 []) (finK N2 Tryz.f91 K)):=by kernel_rfl
theorem g122_lp2 (q:Int) (n:Int) (y:Int) (m:Int) (k:AX→St→Prop):evCode N2 (loopB (bodyOf Tryz.f91) 1) (h122b q n y m) k = (brn (decide (n≥mdU y m)) (k AX.normal (St.mk (lapp (dN 5) (lapp [i64 q,i64 (IntKind.wrap .i64 (n - mdU y m)),i64 y,.dead,i64 (IntKind.wrap .i64 (m + 1))] (lapp (dN 32) (lapp [i64 m,i64 (IntKind.wrap .i64 (m + 1))] (dN 8))))) [] 0 [])) (k (AX.exit 2) (St.mk (lapp (dN 5) (lapp [i64 q,i64 n,i64 y,.dead,i64 m] (lapp (dN 22) (lapp [i64 n,i64 y,i64 m,i64 (mdU y m),bo (decide (n≥mdU y m))] (dN 15))))) [] 0 []))):=by kernel_rfl
theorem g122_out2 (q:Int) (n:Int) (y:Int) (m:Int) (K:List AV→Prop):loopK N2 (bodyOf Tryz.f91) 1 (finK N2 Tryz.f91 K) (AX.exit 2) (o122b q n y m) = (K [i64 (IntKind.wrap .i64 (IntKind.wrap .i64 ((2000:Int) + IntKind.wrap .i64 ((400:Int) * q)) + y)),i64 m,i64 (IntKind.wrap .i64 (n + 1))]):=by kernel_rfl
theorem loop_det {C:Cx} {c:Code} {σ α:Type} (I:σ→St) (Gd:σ→Prop) (μ:σ→Nat) (P:α→Prop) (r:α→List AV) (k:(List AV→Prop)→AX→St→Prop) (hu:C.rounds = 0)
  (step:∀ s,Gd s→(∃ s' p st1,Gd s'∧μ s' < μ s∧norm p st1 = some (I s')∧∀ K':AX→St→Prop,K' .normal st1→evCode C c (I s) K') ∨
   (∃ x st1,x≠.normal∧(∀ K':AX→St→Prop,K' x st1→evCode C c (I s) K')∧∃ v,P v∧∀ K,K (r v)→k K x st1)) :
  ∀ s,Gd s→∃ v,P v∧∀ K,K (r v)→∀ p st,norm p st = some (I s)→evCode C (.loop c) st (k K):=by
 have key:∀ n s,μ s < n→Gd s→∃ v,P v∧∀ K,K (r v)→∀ p st,norm p st = some (I s)→∃ m,LoopN (evCode C c) (k K) m st:=by
  intro n
  induction n with
  | zero=>intro s h; omega
  | succ n ih =>
   intro s hμ hs
   rcases step s hs with ⟨s',p',st1,hs',hμ',hn',hb⟩ | ⟨x,st1,hx,hb,v,hv,hk⟩
   ·obtain ⟨v,hv,hk⟩:=ih s' (by omega) hs'
    refine ⟨v,hv,fun K hK p st hn=>?_⟩
    obtain ⟨m,hm⟩:=hk K hK p' st1 hn'
    exact ⟨m + 1,p,I s,hn,hb _ hm⟩
   ·refine ⟨v,hv,fun K hK p st hn=>⟨1,p,I s,hn,hb _ ?_⟩⟩
    cases x with
    | normal=>exact absurd rfl hx
    | _=>exact hk K hK
 intro s hs
 obtain ⟨v,hv,hk⟩:=key (μ s + 1) s (by omega) hs
 refine ⟨v,hv,fun K hK p st hn=>?_⟩
 unfold evCode
 simp only [hu]
 exact hk K hK p st hn
theorem brn_T {b:Bool} {x y:Prop} (h:b = true) (hx:x):brn b x y:=by rw [h]; exact hx
theorem brn_Fa {b:Bool} {x y:Prop} (h:b = false) (hy:y):brn b x y:=by rw [h]; exact hy
theorem ok119e:∀ args pres res,sBI args = some (pres,res)→SpecOK Tryz.prog G16 88 args pres res:=by
 intro args pres res h
 unfold sBI at h
 split at h
 case h_2=>cases h
 cases h
 rename_i b
 exact spec_ok (C:=N0) okF13 noCall_ok Tryz.func88 (by kernel_rfl) (by kernel_rfl) (fun hp=>Eq.mpr (g119_in _ _) (by cases b <;> rfl))
theorem ok123e:∀ args pres res,sWk args = some (pres,res)→SpecOK Tryz.prog G16 92 args pres res:=by
 intro args pres res h
 unfold sWk at h
 split at h
 case h_2=>cases h
 cases h
 rename_i n
 refine spec_ok (C:=N0) okF13 noCall_ok Tryz.func92 (by kernel_rfl) (by kernel_rfl) (fun hp=>Eq.mpr (g123_in _ _) ⟨by decide,brn_intro (fun h=>?_) (fun h=>?_)⟩)
 ·have h':=of_decide_eq_true h
  unfold wkU
  rw [if_pos h']
  first | done | rfl
 ·have h':=of_decide_eq_false h
  unfold wkU
  rw [if_neg h']
  first | done | rfl
theorem ok134e:∀ args pres res,sLeap args = some (pres,res)→SpecOK Tryz.prog G16 100 args pres res:=by
 intro args pres res h
 unfold sLeap at h
 split at h
 case h_2=>cases h
 cases h
 rename_i n
 refine spec_ok (C:=N0) okF13 noCall_ok Tryz.func100 (by kernel_rfl) (by kernel_rfl) (fun hp=>Eq.mpr (g134_in _ _) ⟨by decide,brn_intro (fun h=>?_) (fun h=>⟨by decide,fun _=>by decide,?_⟩)⟩)
 ·unfold leapU
  rw [h]; first | done | rfl
 ·unfold leapU
  rw [h]; first | done | rfl
theorem ok140e:∀ args pres res,sEra args = some (pres,res)→SpecOK Tryz.prog G16 106 args pres res:=by
 intro args pres res h
 unfold sEra at h
 split at h
 case h_2=>cases h
 cases h
 rename_i n
 refine spec_ok (C:=N0) okF13 noCall_ok Tryz.func106 (by kernel_rfl) (by kernel_rfl) (fun hp=>Eq.mpr (g140_in _ _) ⟨by decide,by decide,brn_intro (fun h=>?_) (fun h=>?_)⟩)
 ·have h':=of_decide_eq_true h
  unfold eraK eraR
  rw [if_pos h',if_pos h']
  first | done | rfl
 ·have h':=of_decide_eq_false h
  unfold eraK eraR
  rw [if_neg h',if_neg h']
  first | done | rfl
theorem ok121e:∀ args pres res,sCmp args = some (pres,res)→SpecOK Tryz.prog G16 90 args pres res:=by
 intro args pres res h
 unfold sCmp at h
 split at h
 case h_2=>cases h
 cases h
 rename_i a b c d
 refine spec_ok (C:=N0) okF13 noCall_ok Tryz.func90 (by kernel_rfl) (by kernel_rfl) (fun hp=>Eq.mpr (g121_in _ _ _ _ _) (brn_intro (fun h=>?_) (fun h=>brn_intro (fun h2=>?_) (fun h2=>?_))))
 ·unfold cmpU; rw [if_pos h]; first | done | rfl
 ·unfold cmpU; rw [if_neg (by rw [h]; decide),if_pos h2]; first | done | rfl
 ·unfold cmpU; rw [if_neg (by rw [h]; decide),if_neg (by rw [h2]; decide)]; first | done | rfl
theorem ok69e:∀ args pres res,sMinus args = some (pres,res)→SpecOK Tryz.prog G16 55 args pres res:=by
 intro args pres res h
 unfold sMinus at h
 split at h
 case h_2=>cases h
 cases h
 rename_i t c
 refine spec_ok (C:=N0) okF13 noCall_ok Tryz.func55 (by kernel_rfl) (by kernel_rfl) (fun hp=>Eq.mpr (g69_in _ _ _) (brn_intro (fun h=>?_) (fun h=>brn_intro (fun h2=>?_) (fun h2=>?_))))
 ·unfold minU; rw [if_pos h]; first | done | rfl
 ·unfold minU; rw [if_neg (by rw [h]; decide),if_pos h2]; first | done | rfl
 ·unfold minU; rw [if_neg (by rw [h]; decide),if_neg (by rw [h2]; decide)]; first | done | rfl
theorem okF20:EOK Tryz.prog F20 G16:=addE_ok (addE_ok (addE_ok (addE_ok (addE_ok (addE_ok okF13 ok119e) ok123e) ok134e) ok140e) ok121e) ok69e
theorem ok135e:∀ args pres res,sMD args = some (pres,res)→SpecOK Tryz.prog G16 101 args pres res:=by
 intro args pres res h
 unfold sMD at h
 split at h
 case h_2=>cases h
 cases h
 rename_i y m
 refine spec_ok (C:=N1) okF20 noCall_ok Tryz.func101 (by kernel_rfl) (by kernel_rfl) (fun hp=>Eq.mpr (g135_in _ _ _) ?_)
 unfold mdU
 cases h4:(m == 4:Bool) with
 | true=>exact brn_T rfl (brn_T rfl rfl)
 | false =>
  cases h6:(m == 6:Bool) with
  | true=>exact brn_Fa rfl (brn_T rfl (brn_T rfl rfl))
  | false =>
   cases h9:(m == 9:Bool) with
   | true=>exact brn_Fa rfl (brn_Fa rfl (brn_T rfl (brn_T rfl rfl)))
   | false =>
    cases h11:(m == 11:Bool) with
    | true=>exact brn_Fa rfl (brn_Fa rfl (brn_Fa rfl (brn_T rfl rfl)))
    | false =>
     refine brn_Fa rfl (brn_Fa rfl (brn_Fa rfl (brn_Fa rfl ?_)))
     cases h2:(m == 2:Bool) with
     | true =>
      refine brn_T rfl ?_
      cases leapU y with
      | true=>exact brn_T rfl rfl
      | false=>exact brn_Fa rfl rfl
     | false=>exact brn_Fa rfl rfl
theorem ok100e:∀ args pres res,sSplit args = some (pres,res)→SpecOK Tryz.prog G16 74 args pres res:=by
 intro args pres res h
 unfold sSplit at h
 split at h
 case h_2=>cases h
 cases h
 rename_i t
 refine spec_ok (C:=N1) okF20 noCall_ok Tryz.func74 (by kernel_rfl) (by kernel_rfl) (fun hp=>Eq.mpr (g100_in _ _) ⟨by decide,brn_intro (fun h=>⟨by decide,by decide,by decide,?_⟩) (fun h=>⟨by decide,by decide,by decide,?_⟩)⟩)
 ·have h':=of_decide_eq_true h
  unfold splD splS; rw [if_pos h']; first | done | rfl
 ·have h':=of_decide_eq_false h
  unfold splD splS; rw [if_neg h']; first | done | rfl
theorem okF21:EOK Tryz.prog F21 G16:=addE_ok (addE_ok okF20 ok135e) ok100e
theorem md_rng (y m:Int):28≤mdU y m∧mdU y m≤31:=by
 unfold mdU
 split
 ·omega
 ·split
  ·cases leapU y
   ·exact ⟨by decide,by decide⟩
   ·exact ⟨by decide,by decide⟩
  ·omega
theorem yd_ex (y m d:Int) (m1:1≤m) (m2:m≤14) (d1:-1000000≤d) (d2:d≤1000000):∃ v:Int,(-2000000≤v∧v≤2000000)∧∀ K:List AV→Prop,K [i64 v]→evSpec N2 Tryz.f107 [i64 y,i64 m,i64 d] K:=by
 have w1:IntKind.wrap .i64 (d - 1) = d - 1:=wrap64 (by omega) (by omega)
 refine Exists.elim (loop_det (C:=N2) (c:=loopB (bodyOf Tryz.f107) 0) (fun s:Int×Int=>h141 y m s.2 s.1) (fun s=>1≤s.1∧s.1≤m∧-1000001≤s.2∧s.2≤1000000 + 31 * (s.1 - 1)) (fun s=>(m - s.1).toNat) (fun v:Int=>-2000000≤v∧v≤2000000) (fun v=>[i64 v])
  (fun K=>loopK N2 (bodyOf Tryz.f107) 0 (finK N2 Tryz.f107 K)) rfl (fun s hs=>?_) (1,d - 1) ⟨Int.le_refl 1,m1,by show -1000001≤d - 1; omega,by show d - 1≤_; omega⟩) (fun v hv'=>?_)
 ·obtain ⟨i,n⟩:=s
  obtain ⟨a1,a2,a3,a4⟩:=hs
  simp only at a1 a2 a3 a4
  have hm:=md_rng y i
  by_cases h:i < m
  ·have e1:IntKind.wrap .i64 (n + mdU y i) = n + mdU y i:=wrap64 (by omega) (by omega)
   have e2:IntKind.wrap .i64 (i + 1) = i + 1:=wrap64 (by omega) (by omega)
   refine .inl ⟨(i + 1,n + mdU y i),p141,_,⟨by show 1≤i + 1; omega,by show i + 1≤m; omega,by show _≤n + _; omega,by show n + _≤1000000 + 31 * (i + 1 - 1); omega⟩,by show (m - (i + 1)).toNat < (m - i).toNat; omega,?_,fun K' hK'=>by
    rw [g141_lp]
    exact brn_T (decide_eq_true h) hK'⟩
   rw [e1,e2]
   kernel_rfl
  ·refine .inr ⟨.exit 0,_,by simp,fun K' hK'=>by
    rw [g141_lp]
    exact brn_Fa (decide_eq_false h) hK',n,⟨by omega,by omega⟩,fun K hK=>?_⟩
   have key:loopK N2 (bodyOf Tryz.f107) 0 (finK N2 Tryz.f107 K) (AX.exit 0) (o141 y m n i):=Eq.mpr (g141_out y m n i K) hK
   exact Eq.mp (by kernel_rfl) key
 ·obtain ⟨hv,hk⟩:=hv'
  refine ⟨v,hv,fun K hK=>?_⟩
  rw [g141_in]
  unfold LoopI
  exact hk K hK p141 _ (by rw [w1]; kernel_rfl)
theorem sh_ex (a b:Int) (a1:-1000000000000000≤a) (a2:a≤1000000000000000) (b1:-1000000≤b) (b2:b≤1000000):∃ v:Int×Int,True∧∀ K:List AV→Prop,K [.agg [i64 v.1,i64 v.2]]→evSpec N2 Tryz.f98 [i64 a,i64 b] K:=by
 have second:∀ a b:Int,-2000000000000000≤a→a≤2000000000000000→0≤b→b≤1000000→∃ v:Int×Int,True∧∀ K:List AV→Prop,K [.agg [i64 v.1,i64 v.2]]→∀ p st,norm p st = some (h132 a b)→evCode N2 (.loop (loopB (bodyOf Tryz.f98) 1)) st (loopK N2 (bodyOf Tryz.f98) 1 (finK N2 Tryz.f98 K)):=by
  intro a b a1 a2 b1 b2
  refine loop_det (C:=N2) (c:=loopB (bodyOf Tryz.f98) 1) (fun s:Int×Int=>h132 s.1 s.2) (fun s=>-2000000000000000≤s.1∧s.1 + s.2≤2000000001000000∧0≤s.2∧s.2≤1000000) (fun s=>s.2.toNat) (fun _:Int×Int=>True) (fun v=>[.agg [i64 v.1,i64 v.2]])
   (fun K=>loopK N2 (bodyOf Tryz.f98) 1 (finK N2 Tryz.f98 K)) rfl (fun s hs=>?_) (a,b) ⟨a1,by show a + b≤_; omega,b1,b2⟩
  obtain ⟨a,b⟩:=s
  obtain ⟨q1,q2,q3,q4⟩:=hs
  simp only at q1 q2 q3 q4
  by_cases h:b≥86400
  ·have e1:IntKind.wrap .i64 (a + 1) = a + 1:=wrap64 (by omega) (by omega)
   have e2:IntKind.wrap .i64 (b - 86400) = b - 86400:=wrap64 (by omega) (by omega)
   refine .inl ⟨(a + 1,b - 86400),p132,_,⟨by show _≤a + 1; omega,by show a + 1 + (b - 86400)≤_; omega,by show 0≤b - 86400; omega,by show b - 86400≤_; omega⟩,by show (b - 86400).toNat < b.toNat; omega,?_,fun K' hK'=>by
    rw [g132_lp2]
    exact brn_T (decide_eq_true h) hK'⟩
   rw [e1,e2]
   kernel_rfl
  ·refine .inr ⟨.exit 2,_,by simp,fun K' hK'=>by
    rw [g132_lp2]
    exact brn_Fa (decide_eq_false h) hK',(a,b),trivial,fun K hK=>?_⟩
   have key:loopK N2 (bodyOf Tryz.f98) 1 (finK N2 Tryz.f98 K) (AX.exit 2) (q132 a b):=Eq.mpr (g132_out2 a b K) hK
   exact Eq.mp (by kernel_rfl) key
 refine Exists.elim (loop_det (C:=N2) (c:=loopB (bodyOf Tryz.f98) 0) (fun s:Int×Int=>h132 s.1 s.2) (fun s=>s.1≤1000000000000000∧-1100000000000000≤s.1 + s.2∧-1000000≤s.2∧s.2≤1000000) (fun s=>(1000000 - s.2).toNat) (fun _:Int×Int=>True) (fun v=>[.agg [i64 v.1,i64 v.2]])
  (fun K=>loopK N2 (bodyOf Tryz.f98) 0 (finK N2 Tryz.f98 K)) rfl (fun s hs=>?_) (a,b) ⟨a2,by show _≤a + b; omega,b1,b2⟩) (fun v hv'=>?_)
 ·obtain ⟨a,b⟩:=s
  obtain ⟨q1,q2,q3,q4⟩:=hs
  simp only at q1 q2 q3 q4
  by_cases h:b < 0
  ·have e1:IntKind.wrap .i64 (a - 1) = a - 1:=wrap64 (by omega) (by omega)
   have e2:IntKind.wrap .i64 (b + 86400) = b + 86400:=wrap64 (by omega) (by omega)
   refine .inl ⟨(a - 1,b + 86400),p132,_,⟨by show a - 1≤_; omega,by show _≤a - 1 + (b + 86400); omega,by show _≤b + 86400; omega,by show b + 86400≤_; omega⟩,by show (1000000 - (b + 86400)).toNat < (1000000 - b).toNat; omega,?_,fun K' hK'=>by
    rw [g132_lp]
    exact brn_T (decide_eq_true h) hK'⟩
   rw [e1,e2]
   kernel_rfl
  ·obtain ⟨v,hv,hk⟩:=second a b (by omega) (by omega) (by omega) q4
   refine .inr ⟨.exit 0,_,by simp,fun K' hK'=>by
    rw [g132_lp]
    exact brn_Fa (decide_eq_false h) hK',v,trivial,fun K hK=>?_⟩
   have key:loopK N2 (bodyOf Tryz.f98) 0 (finK N2 Tryz.f98 K) (AX.exit 0) (o132 a b):=by
    refine Eq.mpr (g132_out a b K) ?_
    unfold LoopI
    exact hk K hK p132 _ (by kernel_rfl)
   exact Eq.mp (by kernel_rfl) key
 ·obtain ⟨hv,hk⟩:=hv'
  refine ⟨v,hv,fun K hK=>?_⟩
  rw [g132_in]
  unfold LoopI
  exact hk K hK p132 _ (by kernel_rfl)
theorem tdiv_rng {a b n:Int} (hb:0 < b) (h1:-(b * n)≤a) (h2:a≤b * n):-n≤a.tdiv b∧a.tdiv b≤n:=by
 have hb':b≠0:=by omega
 have e:=Int.tmod_add_mul_tdiv a b
 have m1:=Int.tmod_lt_of_pos a hb
 have m2:-b < a.tmod b:=by
  have:=Int.lt_tmod_of_pos a hb
  omega
 generalize a.tdiv b = q at *
 generalize a.tmod b = r at *
 constructor
 ·rcases Int.lt_or_le q (-n) with h | h
  ·exfalso
   have:b * q≤b * (-n - 1):=Int.mul_le_mul_of_nonneg_left (by omega) (by omega)
   have e2:b * (-n - 1) = -(b * n) - b:=by rw [Int.mul_sub,Int.mul_neg,Int.mul_one]
   omega
  ·exact h
 ·rcases Int.lt_or_le n q with h | h
  ·exfalso
   have:b * (n + 1)≤b * q:=Int.mul_le_mul_of_nonneg_left (by omega) (by omega)
   have e2:b * (n + 1) = b * n + b:=by rw [Int.mul_add,Int.mul_one]
   omega
  ·exact h
theorem date_ex (a:Int) (a1:-200000000000000≤a) (a2:a≤200000000000000):∃ v:Int×Int×Int,(-900000000000≤v.1∧v.1≤900000000000)∧∀ K:List AV→Prop,K [i64 v.1,i64 v.2.1,i64 v.2.2]→evSpec N2 Tryz.f91 [i64 a] K:=by
 have second:∀ q n y:Int,-2000000000≤q→q≤2000000000→0≤n→n≤400→0≤y→y≤1000→∃ v:Int×Int×Int,(-900000000000≤v.1∧v.1≤900000000000)∧∀ K:List AV→Prop,K [i64 v.1,i64 v.2.1,i64 v.2.2]→∀ p st,norm p st = some (h122b q n y 1) →
   evCode N2 (.loop (loopB (bodyOf Tryz.f91) 1)) st (loopK N2 (bodyOf Tryz.f91) 1 (finK N2 Tryz.f91 K)):=by
  intro q n y q1 q2 n1 n2 y1 y2
  refine loop_det (C:=N2) (c:=loopB (bodyOf Tryz.f91) 1) (fun s:Int×Int=>h122b q s.1 y s.2) (fun s=>0≤s.1∧s.1≤400∧1≤s.2∧s.2 + s.1≤500) (fun s=>s.1.toNat) (fun v:Int×Int×Int=>-900000000000≤v.1∧v.1≤900000000000) (fun v=>[i64 v.1,i64 v.2.1,i64 v.2.2])
   (fun K=>loopK N2 (bodyOf Tryz.f91) 1 (finK N2 Tryz.f91 K)) rfl (fun s hs=>?_) (n,1) ⟨n1,n2,Int.le_refl 1,by show 1 + n≤500; omega⟩
  obtain ⟨n,m⟩:=s
  obtain ⟨r1,r2,r3,r4⟩:=hs
  simp only at r1 r2 r3 r4
  have hm:=md_rng y m
  by_cases h:n≥mdU y m
  ·have e1:IntKind.wrap .i64 (n - mdU y m) = n - mdU y m:=wrap64 (by omega) (by omega)
   have e2:IntKind.wrap .i64 (m + 1) = m + 1:=wrap64 (by omega) (by omega)
   refine .inl ⟨(n - mdU y m,m + 1),p122b,_,⟨by show 0≤n - _; omega,by show n - _≤400; omega,by show 1≤m + 1; omega,by show m + 1 + (n - _)≤500; omega⟩,by show (n - mdU y m).toNat < n.toNat; omega,?_,fun K' hK'=>by
    rw [g122_lp2]
    exact brn_T (decide_eq_true h) hK'⟩
   rw [e1,e2]
   kernel_rfl
  ·have e1:IntKind.wrap .i64 (400 * q) = 400 * q:=wrap64 (by omega) (by omega)
   have e2:IntKind.wrap .i64 (2000 + 400 * q) = 2000 + 400 * q:=wrap64 (by omega) (by omega)
   have e3:IntKind.wrap .i64 (2000 + 400 * q + y) = 2000 + 400 * q + y:=wrap64 (by omega) (by omega)
   refine .inr ⟨.exit 2,_,by simp,fun K' hK'=>by
    rw [g122_lp2]
    exact brn_Fa (decide_eq_false h) hK',(2000 + 400 * q + y,m,IntKind.wrap .i64 (n + 1)),⟨by show _≤2000 + 400 * q + y; omega,by show 2000 + 400 * q + y≤_; omega⟩,fun K hK=>?_⟩
   have key:loopK N2 (bodyOf Tryz.f91) 1 (finK N2 Tryz.f91 K) (AX.exit 2) (o122b q n y m):=by
    refine Eq.mpr (g122_out2 q n y m K) ?_
    rw [e1,e2,e3]
    exact hK
   exact Eq.mp (by kernel_rfl) key
 have first:∀ q n:Int,-2000000000≤q→q≤2000000000→0≤n→n≤146097→∃ v:Int×Int×Int,(-900000000000≤v.1∧v.1≤900000000000)∧∀ K:List AV→Prop,K [i64 v.1,i64 v.2.1,i64 v.2.2]→∀ p st,norm p st = some (h122 q n 0) →
   evCode N2 (.loop (loopB (bodyOf Tryz.f91) 0)) st (loopK N2 (bodyOf Tryz.f91) 0 (finK N2 Tryz.f91 K)):=by
  intro q n q1 q2 n1 n2
  refine loop_det (C:=N2) (c:=loopB (bodyOf Tryz.f91) 0) (fun s:Int×Int=>h122 q s.1 s.2) (fun s=>0≤s.1∧s.1≤146097∧0≤s.2∧365 * s.2 + s.1≤146097) (fun s=>s.1.toNat) (fun v:Int×Int×Int=>-900000000000≤v.1∧v.1≤900000000000) (fun v=>[i64 v.1,i64 v.2.1,i64 v.2.2])
   (fun K=>loopK N2 (bodyOf Tryz.f91) 0 (finK N2 Tryz.f91 K)) rfl (fun s hs=>?_) (n,0) ⟨n1,n2,Int.le_refl 0,by show 365 * 0 + n≤_; omega⟩
  obtain ⟨n,y⟩:=s
  obtain ⟨r1,r2,r3,r4⟩:=hs
  simp only at r1 r2 r3 r4
  have e2:IntKind.wrap .i64 (y + 1) = y + 1:=wrap64 (by omega) (by omega)
  have out:∀ (l:Int) (b:Bool),n < 366→∃ v:Int×Int×Int,(-900000000000≤v.1∧v.1≤900000000000)∧∀ K:List AV→Prop,K [i64 v.1,i64 v.2.1,i64 v.2.2]→loopK N2 (bodyOf Tryz.f91) 0 (finK N2 Tryz.f91 K) (AX.exit 0) (o122 q n y l b):=by
   intro l b hn
   obtain ⟨v,hv,hk⟩:=second q n y q1 q2 r1 (by omega) r3 (by omega)
   refine ⟨v,hv,fun K hK=>?_⟩
   refine Eq.mpr (g122_out q n y l b K) ?_
   unfold LoopI
   exact hk K hK p122b _ (by kernel_rfl)
  cases hl:leapU y with
  | true =>
   by_cases h:n < 366
   ·obtain ⟨v,hv,hk⟩:=out 366 true h
    refine .inr ⟨.exit 0,_,by simp,fun K' hK'=>by
     rw [g122_lp,hl]
     exact brn_T rfl (brn_T (decide_eq_true h) hK'),v,hv,fun K hK=>?_⟩
    exact Eq.mp (by kernel_rfl) (hk K hK)
   ·have e1:IntKind.wrap .i64 (n - 366) = n - 366:=wrap64 (by omega) (by omega)
    refine .inl ⟨(n - 366,y + 1),p122,_,⟨by show 0≤n - 366; omega,by show n - 366≤_; omega,by show 0≤y + 1; omega,by show 365 * (y + 1) + (n - 366)≤_; omega⟩,by show (n - 366).toNat < n.toNat; omega,?_,fun K' hK'=>by
     rw [g122_lp,hl]
     exact brn_T rfl (brn_Fa (decide_eq_false h) hK')⟩
    rw [e1,e2]
    kernel_rfl
  | false =>
   by_cases h:n < 365
   ·obtain ⟨v,hv,hk⟩:=out 365 false (by omega)
    refine .inr ⟨.exit 0,_,by simp,fun K' hK'=>by
     rw [g122_lp,hl]
     exact brn_Fa rfl (brn_T (decide_eq_true h) hK'),v,hv,fun K hK=>?_⟩
    exact Eq.mp (by kernel_rfl) (hk K hK)
   ·have e1:IntKind.wrap .i64 (n - 365) = n - 365:=wrap64 (by omega) (by omega)
    refine .inl ⟨(n - 365,y + 1),p122,_,⟨by show 0≤n - 365; omega,by show n - 365≤_; omega,by show 0≤y + 1; omega,by show 365 * (y + 1) + (n - 365)≤_; omega⟩,by show (n - 365).toNat < n.toNat; omega,?_,fun K' hK'=>by
     rw [g122_lp,hl]
     exact brn_Fa rfl (brn_Fa (decide_eq_false h) hK')⟩
    rw [e1,e2]
    kernel_rfl
 have w0:IntKind.wrap .i64 (a - 10957) = a - 10957:=wrap64 (by omega) (by omega)
 obtain ⟨t1,t2⟩:=tdiv_rng (a:=a - 10957) (b:=146097) (n:=1999999990) (by decide) (by omega) (by omega)
 have m1:=Int.tmod_lt_of_pos (a - 10957) (show (0:Int) < 146097 by decide)
 have m2:=Int.lt_tmod_of_pos (a - 10957) (show (0:Int) < 146097 by decide)
 have w1:IntKind.wrap .i64 (Int.tdiv (a - 10957) 146097) = Int.tdiv (a - 10957) 146097:=wrap64 (by omega) (by omega)
 have w2:IntKind.wrap .i64 (Int.tdiv (a - 10957) 146097 - 1) = Int.tdiv (a - 10957) 146097 - 1:=wrap64 (by omega) (by omega)
 have w3:IntKind.wrap .i64 (Int.tmod (a - 10957) 146097 + 146097) = Int.tmod (a - 10957) 146097 + 146097:=wrap64 (by omega) (by omega)
 by_cases h:Int.tmod (a - 10957) 146097 < 0
 ·obtain ⟨v,hv,hk⟩:=first (Int.tdiv (a - 10957) 146097 - 1) (Int.tmod (a - 10957) 146097 + 146097) (by omega) (by omega) (by omega) (by omega)
  refine ⟨v,hv,fun K hK=>?_⟩
  rw [g122_in,w0,w1,w2,w3]
  refine ⟨by decide,by decide,brn_T (decide_eq_true h) ?_⟩
  unfold LoopI
  exact hk K hK p122 _ (by kernel_rfl)
 ·obtain ⟨v,hv,hk⟩:=first (Int.tdiv (a - 10957) 146097) (Int.tmod (a - 10957) 146097) (by omega) (by omega) (by omega) (by omega)
  refine ⟨v,hv,fun K hK=>?_⟩
  rw [g122_in,w0,w1,w2,w3]
  refine ⟨by decide,by decide,brn_Fa (decide_eq_false h) ?_⟩
  unfold LoopI
  exact hk K hK p122 _ (by kernel_rfl)
end PF
set_option maxRecDepth 100000
namespace PF
open Go Go.AE Go.Proofs PE
noncomputable def ydV (y m d:Int):Int:=Classical.epsilon fun v:Int=>(-2000000≤v∧v≤2000000)∧∀ K:List AV→Prop,K [i64 v]→evSpec N2 Tryz.f107 [i64 y,i64 m,i64 d] K
noncomputable def shV (a b:Int):Int×Int:=Classical.epsilon fun v:Int×Int=>True∧∀ K:List AV→Prop,K [.agg [i64 v.1,i64 v.2]]→evSpec N2 Tryz.f98 [i64 a,i64 b] K
noncomputable def dtV (a:Int):Int×Int×Int:=Classical.epsilon fun v:Int×Int×Int=>(-900000000000≤v.1∧v.1≤900000000000)∧∀ K:List AV→Prop,K [i64 v.1,i64 v.2.1,i64 v.2.2]→evSpec N2 Tryz.f91 [i64 a] K
noncomputable def sYD:List AV→Option (List Prop×List AV)
 | [.imm (.int .i64 y),.imm (.int .i64 m),.imm (.int .i64 d)]=>some ([1≤m,m≤14,-1000000≤d,d≤1000000],[i64 (ydV y m d)])
 | _=>none
noncomputable def sShift:List AV→Option (List Prop×List AV)
 | [.imm (.int .i64 a),.imm (.int .i64 b)]=>some ([-1000000000000000≤a,a≤1000000000000000,-1000000≤b,b≤1000000],[.agg [i64 (shV a b).1,i64 (shV a b).2]])
 | _=>none
noncomputable def sDate:List AV→Option (List Prop×List AV)
 | [.imm (.int .i64 a)]=>some ([-200000000000000≤a,a≤200000000000000],[i64 (dtV a).1,i64 (dtV a).2.1,i64 (dtV a).2.2])
 | _=>none
noncomputable def F22:=addE (addE (addE F21 107 sYD) 98 sShift) 91 sDate
noncomputable def N3:Cx:=⟨Tryz.prog,F22,noCall,G16,4020⟩
theorem yd_spec {y m d:Int} (m1:1≤m) (m2:m≤14) (d1:-1000000≤d) (d2:d≤1000000):(-2000000≤ydV y m d∧ydV y m d≤2000000)∧∀ K:List AV→Prop,K [i64 (ydV y m d)]→evSpec N2 Tryz.f107 [i64 y,i64 m,i64 d] K :=
 Classical.epsilon_spec (yd_ex y m d m1 m2 d1 d2)
theorem sh_spec {a b:Int} (a1:-1000000000000000≤a) (a2:a≤1000000000000000) (b1:-1000000≤b) (b2:b≤1000000):True∧∀ K:List AV→Prop,K [.agg [i64 (shV a b).1,i64 (shV a b).2]]→evSpec N2 Tryz.f98 [i64 a,i64 b] K :=
 Classical.epsilon_spec (sh_ex a b a1 a2 b1 b2)
theorem dt_spec {a:Int} (a1:-200000000000000≤a) (a2:a≤200000000000000):(-900000000000≤(dtV a).1∧(dtV a).1≤900000000000)∧∀ K:List AV→Prop,K [i64 (dtV a).1,i64 (dtV a).2.1,i64 (dtV a).2.2]→evSpec N2 Tryz.f91 [i64 a] K :=
 Classical.epsilon_spec (date_ex a a1 a2)
theorem ok141e:∀ args pres res,sYD args = some (pres,res)→SpecOK Tryz.prog G16 107 args pres res:=by
 intro args pres res h
 unfold sYD at h
 split at h
 case h_2=>cases h
 cases h
 exact spec_ok (C:=N2) okF21 noCall_ok Tryz.func107 (by kernel_rfl) (by kernel_rfl) (fun hp=>(yd_spec (hp _ (by simp)) (hp _ (by simp)) (hp _ (by simp)) (hp _ (by simp))).2 _ rfl)
theorem ok132e:∀ args pres res,sShift args = some (pres,res)→SpecOK Tryz.prog G16 98 args pres res:=by
 intro args pres res h
 unfold sShift at h
 split at h
 case h_2=>cases h
 cases h
 exact spec_ok (C:=N2) okF21 noCall_ok Tryz.func98 (by kernel_rfl) (by kernel_rfl) (fun hp=>(sh_spec (hp _ (by simp)) (hp _ (by simp)) (hp _ (by simp)) (hp _ (by simp))).2 _ rfl)
theorem ok122e:∀ args pres res,sDate args = some (pres,res)→SpecOK Tryz.prog G16 91 args pres res:=by
 intro args pres res h
 unfold sDate at h
 split at h
 case h_2=>cases h
 cases h
 exact spec_ok (C:=N2) okF21 noCall_ok Tryz.func91 (by kernel_rfl) (by kernel_rfl) (fun hp=>(dt_spec (hp _ (by simp)) (hp _ (by simp))).2 _ rfl)
theorem okF22:EOK Tryz.prog F22 G16:=addE_ok (addE_ok (addE_ok okF21 ok141e) ok132e) ok122e
attribute [local irreducible] evCode evSpec loopB loopK norm
theorem g139_in (y:Int) (m:Int) (d:Int) (K:List AV→Prop):evSpec N3 Tryz.f105 [i64 y,i64 m,i64 d] K = (LoopI N3 (bodyOf Tryz.f105) 0 (St.mk (lapp [i64 y,i64 m,i64 d,.dead,.dead,.dead,i64 0,i64 (eraK y),i64 (eraR y),i64 (IntKind.wrap .i64 ((10957:Int) + IntKind.wrap .i64 (eraK y * 146097))),i64 0,.tup [i64 (eraK y),i64 (eraR y)],i64 y,.tup [i64 (eraK y),i64 (eraR y)],i64 (eraK y),i64 (eraR y),i64 (eraK y),i64 (IntKind.wrap .i64 (eraK y * 146097)),i64 (IntKind.wrap .i64 ((10957:Int) + IntKind.wrap .i64 (eraK y * 146097)))] (dN 17)) [] 0 []) (finK N3 Tryz.f105 K)):=by kernel_rfl
theorem g139_lp (y:Int) (m:Int) (d:Int) (r:Int) (n:Int) (i:Int) (k:AX→St→Prop):evCode N3 (loopB (bodyOf Tryz.f105) 0) (h139 y m d r n i) k = (brn (decide (i < r)) (brn (leapU i) (k AX.normal (St.mk (lapp [i64 y,i64 m,i64 d] (lapp (dN 5) (lapp [i64 r,i64 (IntKind.wrap .i64 (IntKind.wrap .i64 (n + 365) + 1)),i64 (IntKind.wrap .i64 (i + 1))] (lapp (dN 8) (lapp [i64 i,.dead,.dead,i64 i,i64 (IntKind.wrap .i64 (i + 1))] (dN 12)))))) [] 0 [])) (k AX.normal (St.mk (lapp [i64 y,i64 m,i64 d] (lapp (dN 5) (lapp [i64 r,i64 (IntKind.wrap .i64 (n + 365)),i64 (IntKind.wrap .i64 (i + 1))] (lapp (dN 8) (lapp [i64 i,.dead,.dead,i64 i,i64 (IntKind.wrap .i64 (i + 1))] (dN 12)))))) [] 0 []))) (k (AX.exit 0) (St.mk (lapp [i64 y,i64 m,i64 d] (lapp (dN 5) (lapp [i64 r,i64 n,i64 i] (lapp (dN 8) (lapp [i64 i,i64 r,bo (decide (i < r))] (dN 14)))))) [] 0 []))):=by kernel_rfl
theorem g139_out (y:Int) (m:Int) (d:Int) (r:Int) (n:Int) (i:Int) (K:List AV→Prop):loopK N3 (bodyOf Tryz.f105) 0 (finK N3 Tryz.f105 K) (AX.exit 0) (o139 y m d r n i) = ((1:Int)≤m∧m≤14∧(-1000000:Int)≤d∧d≤1000000∧K [i64 (IntKind.wrap .i64 (n + ydV y m d))]):=by kernel_rfl
theorem g102_in (t:Int) (K:List AV→Prop):evSpec N3 Tryz.f76 [i64 t] K = ((-200000000000000:Int)≤splD t∧splD t≤200000000000000∧(3600:Int)≠0∧(3600:Int)≠0∧(60:Int)≠0∧(60:Int)≠0∧K [.agg [i64 ((dtV (splD t)).1),i64 ((dtV (splD t)).2.1),i64 ((dtV (splD t)).2.2),i64 (IntKind.wrap .i64 (Int.tdiv (splS t) (3600:Int))),i64 (IntKind.wrap .i64 (Int.tdiv (Int.tmod (splS t) (3600:Int)) (60:Int))),i64 (Int.tmod (splS t) (60:Int)),i64 (wkU (splD t))]]):=by kernel_rfl
end PF
set_option maxRecDepth 100000
namespace PF
open Go Go.AE Go.Proofs PE
noncomputable def dyV (y m d:Int):Int:=Classical.epsilon fun v:Int=>(-500000000000000≤v∧v≤500000000000000)∧∀ K:List AV→Prop,K [i64 v]→evSpec N3 Tryz.f105 [i64 y,i64 m,i64 d] K
noncomputable def ofC (t:Int):List AV:=[i64 (dtV (splD t)).1,i64 (dtV (splD t)).2.1,i64 (dtV (splD t)).2.2,i64 (IntKind.wrap .i64 (Int.tdiv (splS t) 3600)),i64 (IntKind.wrap .i64 (Int.tdiv (Int.tmod (splS t) 3600) 60)),i64 (Int.tmod (splS t) 60),i64 (wkU (splD t))]
noncomputable def sDays:List AV→Option (List Prop×List AV)
 | [.imm (.int .i64 y),.imm (.int .i64 m),.imm (.int .i64 d)]=>some ([-1000000000000≤y,y≤1000000000000,1≤m,m≤14,-1000000≤d,d≤1000000],[i64 (dyV y m d)])
 | _=>none
noncomputable def sOf:List AV→Option (List Prop×List AV)
 | [.imm (.int .i64 t)]=>some ([-9223372036854775808≤t,t≤9223372036854775807],[.agg (ofC t)])
 | _=>none
noncomputable def F23:=addE (addE F22 105 sDays) 76 sOf
noncomputable def N4:Cx:=⟨Tryz.prog,F23,noCall,G16,4012⟩
def rdO (a b c d e f:Int):List (Nat×Ob):=[(0,⟨true,0,.cells (rdC a b c d e f)⟩)]
def h133 (a b c d e f y m g:Int):St:=⟨spr [(1,i64 y),(2,.ptr 0 0),(6,i64 m),(7,i64 g)] 0 71,rdO a b c d e f,1,[]⟩
def o133 (a b c d e f y m g:Int):St:=⟨spr [(1,i64 y),(2,.ptr 0 0),(6,i64 m),(7,i64 g),(26,i64 g),(27,i64 m),(28,i64 (mdU 2001 m)),(29,bo (decide (g > mdU 2001 m)))] 0 71,rdO a b c d e f,1,[]⟩
def p133:Plan:=⟨[],msk [1,2,6,7] 0 71,[0]⟩
def h133b (a b c d e f y s u x n:Int):St:=⟨spr [(1,i64 y),(2,.ptr 0 0),(8,i64 s),(9,i64 u),(10,i64 x),(11,i64 n)] 0 71,rdO a b c d e f,1,[]⟩
def o133b (a b c d e f y s u x n:Int):St:=⟨spr [(1,i64 y),(2,.ptr 0 0),(8,i64 s),(9,i64 u),(10,i64 x),(11,i64 n),(46,i64 n),(47,i64 s),(48,i64 y),(49,.ptr 0 2),(50,i64 c),(51,i64 (mdU y c)),(52,i64 (IntKind.wrap .i64 (s + mdU y c))),(53,bo (decide (n < IntKind.wrap .i64 (s + mdU y c))))] 0 71,rdO a b c d e f,1,[]⟩
def p133b:Plan:=⟨[],msk [1,2,8,9,10,11] 0 71,[0]⟩
attribute [local irreducible] loopK evCode evSpec loopB norm
theorem era_rng {y:Int} (y1:-1000000000000≤y) (y2:y≤1000000000000):-2600000000≤eraK y∧eraK y≤2600000000∧0≤eraR y∧eraR y < 400:=by
 have w0:IntKind.wrap .i64 (y - 2000) = y - 2000:=wrap64 (by omega) (by omega)
 obtain ⟨t1,t2⟩:=tdiv_rng (a:=y - 2000) (b:=400) (n:=2500000010) (by decide) (by omega) (by omega)
 have m1:=Int.tmod_lt_of_pos (y - 2000) (show (0:Int) < 400 by decide)
 have m2:=Int.lt_tmod_of_pos (y - 2000) (show (0:Int) < 400 by decide)
 unfold eraK eraR
 rw [w0]
 have w1:IntKind.wrap .i64 (Int.tdiv (y - 2000) 400) = Int.tdiv (y - 2000) 400:=wrap64 (by omega) (by omega)
 have w2:IntKind.wrap .i64 (Int.tdiv (y - 2000) 400 - 1) = Int.tdiv (y - 2000) 400 - 1:=wrap64 (by omega) (by omega)
 have w3:IntKind.wrap .i64 (Int.tmod (y - 2000) 400 + 400) = Int.tmod (y - 2000) 400 + 400:=wrap64 (by omega) (by omega)
 rw [w1,w2,w3]
 split <;> omega
theorem days_ex (y m d:Int) (y1:-1000000000000≤y) (y2:y≤1000000000000) (m1:1≤m) (m2:m≤14) (d1:-1000000≤d) (d2:d≤1000000):∃ v:Int,(-500000000000000≤v∧v≤500000000000000)∧∀ K:List AV→Prop,K [i64 v]→evSpec N3 Tryz.f105 [i64 y,i64 m,i64 d] K:=by
 obtain ⟨k1,k2,r1,r2⟩:=era_rng y1 y2
 have w1:IntKind.wrap .i64 (eraK y * 146097) = eraK y * 146097:=wrap64 (by omega) (by omega)
 have w2:IntKind.wrap .i64 (10957 + eraK y * 146097) = 10957 + eraK y * 146097:=wrap64 (by omega) (by omega)
 obtain ⟨⟨v1,v2⟩,_⟩:=yd_spec (y:=y) m1 m2 d1 d2
 refine Exists.elim (loop_det (C:=N3) (c:=loopB (bodyOf Tryz.f105) 0) (fun s:Int×Int=>h139 y m d (eraR y) s.2 s.1) (fun s=>0≤s.1∧s.1≤eraR y∧-400000000000000≤s.2∧s.2≤400000000000000 + 366 * s.1) (fun s=>(eraR y - s.1).toNat) (fun v:Int=>-500000000000000≤v∧v≤500000000000000) (fun v=>[i64 v])
  (fun K=>loopK N3 (bodyOf Tryz.f105) 0 (finK N3 Tryz.f105 K)) rfl (fun s hs=>?_) (0,10957 + eraK y * 146097) ⟨Int.le_refl 0,r1,by show _≤10957 + _; omega,by show 10957 + _≤_; omega⟩) (fun v hv'=>?_)
 ·obtain ⟨i,n⟩:=s
  obtain ⟨a1,a2,a3,a4⟩:=hs
  simp only at a1 a2 a3 a4
  have e0:IntKind.wrap .i64 (i + 1) = i + 1:=wrap64 (by omega) (by omega)
  have e1:IntKind.wrap .i64 (n + 365) = n + 365:=wrap64 (by omega) (by omega)
  have e2:IntKind.wrap .i64 (n + 365 + 1) = n + 365 + 1:=wrap64 (by omega) (by omega)
  by_cases h:i < eraR y
  ·cases hl:leapU i with
   | true =>
    refine .inl ⟨(i + 1,n + 365 + 1),p139,_,⟨by show 0≤i + 1; omega,by show i + 1≤_; omega,by show _≤n + 365 + 1; omega,by show n + 365 + 1≤_ + 366 * (i + 1); omega⟩,by show (eraR y - (i + 1)).toNat < (eraR y - i).toNat; omega,?_,fun K' hK'=>by
     rw [g139_lp,hl]
     exact brn_T (decide_eq_true h) (brn_T rfl hK')⟩
    rw [e0,e1,e2]
    kernel_rfl
   | false =>
    refine .inl ⟨(i + 1,n + 365),p139,_,⟨by show 0≤i + 1; omega,by show i + 1≤_; omega,by show _≤n + 365; omega,by show n + 365≤_ + 366 * (i + 1); omega⟩,by show (eraR y - (i + 1)).toNat < (eraR y - i).toNat; omega,?_,fun K' hK'=>by
     rw [g139_lp,hl]
     exact brn_T (decide_eq_true h) (brn_Fa rfl hK')⟩
    rw [e0,e1]
    kernel_rfl
  ·have e3:IntKind.wrap .i64 (n + ydV y m d) = n + ydV y m d:=wrap64 (by omega) (by omega)
   refine .inr ⟨.exit 0,_,by simp,fun K' hK'=>by
    rw [g139_lp]
    exact brn_Fa (decide_eq_false h) hK',n + ydV y m d,⟨by omega,by omega⟩,fun K hK=>?_⟩
   have key:loopK N3 (bodyOf Tryz.f105) 0 (finK N3 Tryz.f105 K) (AX.exit 0) (o139 y m d (eraR y) n i):=Eq.mpr (g139_out y m d (eraR y) n i K) ⟨m1,m2,d1,d2,by rw [e3]; exact hK⟩
   exact Eq.mp (by kernel_rfl) key
 ·obtain ⟨hv,hk⟩:=hv'
  refine ⟨v,hv,fun K hK=>?_⟩
  rw [g139_in]
  unfold LoopI
  exact hk K hK p139 _ (by rw [w1,w2]; kernel_rfl)
theorem dy_spec {y m d:Int} (y1:-1000000000000≤y) (y2:y≤1000000000000) (m1:1≤m) (m2:m≤14) (d1:-1000000≤d) (d2:d≤1000000):(-500000000000000≤dyV y m d∧dyV y m d≤500000000000000)∧∀ K:List AV→Prop,K [i64 (dyV y m d)]→evSpec N3 Tryz.f105 [i64 y,i64 m,i64 d] K :=
 Classical.epsilon_spec (days_ex y m d y1 y2 m1 m2 d1 d2)
theorem spl_rng {t:Int} (t1:-9223372036854775808≤t) (t2:t≤9223372036854775807):-200000000000000≤splD t∧splD t≤200000000000000:=by
 have m1:=Int.tmod_lt_of_pos t (show (0:Int) < 86400 by decide)
 have m2:=Int.lt_tmod_of_pos t (show (0:Int) < 86400 by decide)
 have e:=Int.tmod_add_mul_tdiv t 86400
 have b0:0≤biU (decide (Int.tmod t 86400 < 0))∧biU (decide (Int.tmod t 86400 < 0))≤1:=by
  cases decide (Int.tmod t 86400 < 0)
  ·exact ⟨by decide,by decide⟩
  ·exact ⟨by decide,by decide⟩
 have hs:t - Int.tmod t 86400 = 86400 * Int.tdiv t 86400:=by omega
 have w0:IntKind.wrap .i64 (t - Int.tmod t 86400) = t - Int.tmod t 86400:=by
  refine wrap64 ?_ ?_
  ·rcases Int.lt_or_le t 0 with h | h
   ·have:Int.tmod t 86400≤0:=by
     have:=Int.tmod_nonneg (a:=-t) 86400 (by omega)
     rw [Int.neg_tmod] at this
     omega
    omega
   ·omega
  ·rcases Int.lt_or_le t 0 with h | h
   ·omega
   ·have:0≤Int.tmod t 86400:=Int.tmod_nonneg 86400 h
    omega
 obtain ⟨q1,q2⟩:=tdiv_rng (a:=t - Int.tmod t 86400) (b:=86400) (n:=110000000000000) (by decide) (by omega) (by omega)
 have w1:IntKind.wrap .i64 (Int.tdiv (t - Int.tmod t 86400) 86400) = Int.tdiv (t - Int.tmod t 86400) 86400:=wrap64 (by omega) (by omega)
 unfold splD
 rw [w0,w1,wrap64 (by omega) (by omega)]
 omega
theorem ok139e:∀ args pres res,sDays args = some (pres,res)→SpecOK Tryz.prog G16 105 args pres res:=by
 intro args pres res h
 unfold sDays at h
 split at h
 case h_2=>cases h
 cases h
 exact spec_ok (C:=N3) okF22 noCall_ok Tryz.func105 (by kernel_rfl) (by kernel_rfl) (fun hp=>(dy_spec (hp _ (by simp)) (hp _ (by simp)) (hp _ (by simp)) (hp _ (by simp)) (hp _ (by simp)) (hp _ (by simp))).2 _ rfl)
theorem ok102e:∀ args pres res,sOf args = some (pres,res)→SpecOK Tryz.prog G16 76 args pres res:=by
 intro args pres res h
 unfold sOf at h
 split at h
 case h_2=>cases h
 cases h
 rename_i t
 exact spec_ok (C:=N3) okF22 noCall_ok Tryz.func76 (by kernel_rfl) (by kernel_rfl) (fun hp=>by
  obtain ⟨q1,q2⟩:=spl_rng (t:=t) (hp _ (by simp)) (hp _ (by simp))
  exact Eq.mpr (g102_in t _) ⟨q1,q2,by decide,by decide,by decide,by decide,rfl⟩)
theorem okF23:EOK Tryz.prog F23 G16:=addE_ok (addE_ok okF22 ok139e) ok102e
end PF
set_option maxRecDepth 100000
namespace PF
open Go Go.AE Go.Proofs PE
attribute [local irreducible] loopK evCode evSpec loopB norm
theorem g133_in (a:Int) (b:Int) (c:Int) (d:Int) (e:Int) (f:Int) (y:Int) (K:List AV→Prop):evSpec N4 Tryz.f99 [.agg (rdC a b c d e f),i64 y] K = ((-1000000000000:Int)≤y∧y≤1000000000000∧(1:Int)≤1∧(1:Int)≤14∧(-1000000:Int)≤1∧(1:Int)≤1000000∧brn (a == 2) (K [i64 (IntKind.wrap .i64 (dyV y (1:Int) (1:Int) + b))]) (brn (a == 1) (LoopI N4 (bodyOf Tryz.f99) 0 (St.mk (lapp [.agg [i64 a,i64 b,i64 c,i64 d,i64 e,i64 f],i64 y,.ptr 0 0,.dead,i64 0,i64 (dyV y (1:Int) (1:Int)),i64 1,i64 b] (lapp (dN 16) (lapp [.ptr 0 1,i64 b] (dN 45)))) [(0,Ob.mk true 0 (AObj.cells [i64 a,i64 b,i64 c,i64 d,i64 e,i64 f]))] 1 []) (finK N4 Tryz.f99 K)) ((-1000000000000:Int)≤y∧y≤1000000000000∧(1:Int)≤c∧c≤14∧(-1000000:Int)≤1∧(1:Int)≤1000000∧LoopI N4 (bodyOf Tryz.f99) 1 (St.mk (lapp [.agg [i64 a,i64 b,i64 c,i64 d,i64 e,i64 f],i64 y,.ptr 0 0,.dead,i64 0,i64 (dyV y (1:Int) (1:Int)),.dead,.dead,i64 (dyV y c (1:Int)),i64 0,i64 (dyV y c (1:Int)),i64 (dyV y c (1:Int))] (lapp (dN 33) (lapp [i64 (dyV y c (1:Int))] (dN 25)))) [(0,Ob.mk true 0 (AObj.cells [i64 a,i64 b,i64 c,i64 d,i64 e,
 i64 f]))] 1 []) (finK N4 Tryz.f99 K)))):=by kernel_rfl
theorem g133_lp (a:Int) (b:Int) (c:Int) (d:Int) (e:Int) (f:Int) (y:Int) (m:Int) (g:Int) (k:AX→St→Prop):evCode N4 (loopB (bodyOf Tryz.f99) 0) (h133 a b c d e f y m g) k = (brn (decide (g > mdU (2001:Int) m)) (k AX.normal (St.mk (lapp [.dead,i64 y,.ptr 0 0,.dead,.dead,.dead,i64 (IntKind.wrap .i64 (m + 1)),i64 (IntKind.wrap .i64 (g - mdU (2001:Int) m))] (lapp (dN 26) (lapp [i64 m,i64 (IntKind.wrap .i64 (m + 1))] (dN 35)))) [(0,Ob.mk true 0 (AObj.cells [i64 a,i64 b,i64 c,i64 d,i64 e,i64 f]))] 1 [])) (k (AX.exit 0) (St.mk (lapp [.dead,i64 y,.ptr 0 0,.dead,.dead,.dead,i64 m,i64 g] (lapp (dN 18) (lapp [i64 g,i64 m,i64 (mdU (2001:Int) m),bo (decide (g > mdU (2001:Int) m))] (dN 41)))) [(0,Ob.mk true 0 (AObj.cells [i64 a,i64 b,i64 c,i64 d,i64 e,i64 f]))] 1 []))):=by kernel_rfl
theorem g133_out (a:Int) (b:Int) (c:Int) (d:Int) (e:Int) (f:Int) (y:Int) (m:Int) (g:Int) (K:List AV→Prop):loopK N4 (bodyOf Tryz.f99) 0 (finK N4 Tryz.f99 K) (AX.exit 0) (o133 a b c d e f y m g) = ((-1000000000000:Int)≤y∧y≤1000000000000∧(1:Int)≤m∧m≤14∧(-1000000:Int)≤g∧g≤1000000∧K [i64 (dyV y m g)]):=by kernel_rfl
theorem g133_lp2 (a:Int) (b:Int) (c:Int) (d:Int) (e:Int) (f:Int) (y:Int) (s:Int) (u:Int) (x:Int) (n:Int) (k:AX→St→Prop):evCode N4 (loopB (bodyOf Tryz.f99) 1) (h133b a b c d e f y s u x n) k = (let A4:Prop:=((k AX.normal (St.mk (lapp [.dead,i64 y,.ptr 0 0] (lapp (dN 5) (lapp [i64 s,i64 u,i64 x,i64 (IntKind.wrap .i64 (n + 1))] (lapp (dN 42) (lapp [i64 n,i64 (IntKind.wrap .i64 (n + 1))] (dN 15)))))) [(0,Ob.mk true 0 (AObj.cells [i64 a,i64 b,i64 c,i64 d,i64 e,i64 f]))] 1 []))); let A17:Prop:=((brn (wkU n == e) (brn (decide (u < d)) (k AX.normal (St.mk (lapp [.dead,i64 y,.ptr 0 0] (lapp (dN 5) (lapp [i64 s,i64 (IntKind.wrap .i64 (u + 1)),i64 n,i64 (IntKind.wrap .i64 (n + 1))] (lapp (dN 42) (lapp [i64 n,i64 (IntKind.wrap .i64 (n + 1))] (dN 15)))))) [(0,Ob.mk true 0 (AObj.cells [i64 a,i64 b,i64 c,i64 d,i64 e,i64 f]))] 1 [])) A4) A4)); brn (decide (n < IntKind.wrap .i64 (s + mdU y c))) (A17∧A17) (k (AX.exit 2) (St.mk (lapp [.dead,i64 y,.ptr 0 0] (lapp (dN 5) (lapp [i64 s,i64 u,i64 x,i64 n] (lapp (dN 34) (lapp [i64 n,i64 s,i64 y,.ptr 0 2,i64 c,i64 (mdU y c),i64 (IntKind.wrap .i64 (s + mdU y c)),bo (decide (n <
 IntKind.wrap .i64 (s + mdU y c)))] (dN 17)))))) [(0,Ob.mk true 0 (AObj.cells [i64 a,i64 b,i64 c,i64 d,i64 e,i64 f]))] 1 []))):=by kernel_rfl
theorem g133_out2 (a:Int) (b:Int) (c:Int) (d:Int) (e:Int) (f:Int) (y:Int) (s:Int) (u:Int) (x:Int) (n:Int) (K:List AV→Prop):loopK N4 (bodyOf Tryz.f99) 1 (finK N4 Tryz.f99 K) (AX.exit 2) (o133b a b c d e f y s u x n) = (K [i64 x]):=by kernel_rfl
theorem vDay_elim {a b c d e f:Int} (h:vDay a b c d e f = true):(-604799≤f∧f≤604799)∧((a = 1∧1≤b∧b≤365)∨(a = 2∧0≤b∧b≤365)∨(a = 3∧1≤c∧c≤12)):=by
 unfold vDay at h
 split at h
 ·cases h
 ·rename_i h0
  simp only [Bool.or_eq_true,decide_eq_true_eq,not_or] at h0
  refine ⟨by omega,?_⟩
  split at h
  ·rename_i h1
   simp only [Bool.and_eq_true,decide_eq_true_eq,beq_iff_eq] at h h1
   exact .inl ⟨h1,h.1.1.1.1,h.1.1.1.2⟩
  ·split at h
   ·rename_i h2
    simp only [Bool.and_eq_true,decide_eq_true_eq,beq_iff_eq] at h h2
    exact .inr (.inl ⟨h2,h.1.1.1.1,h.1.1.1.2⟩)
   ·simp only [Bool.and_eq_true,decide_eq_true_eq,beq_iff_eq] at h
    exact .inr (.inr ⟨h.1.1.1.1.1.1.1,h.1.1.1.1.1.2,h.1.1.1.1.2⟩)
theorem rday_ex (a b c d e f y:Int) (hv:vDay a b c d e f = true) (y1:-1000000000000≤y) (y2:y≤1000000000000):∃ v:Int,(-600000000000000≤v∧v≤600000000000000)∧∀ K:List AV→Prop,K [i64 v]→evSpec N4 Tryz.f99 [.agg (rdC a b c d e f),i64 y] K:=by
 obtain ⟨hf,hcase⟩:=vDay_elim hv
 obtain ⟨⟨q1,q2⟩,_⟩:=dy_spec (y:=y) (m:=1) (d:=1) y1 y2 (by decide) (by decide) (by decide) (by decide)
 by_cases h2:a = 2
 ·have hb:0≤b∧b≤365:=by omega
  have w:IntKind.wrap .i64 (dyV y 1 1 + b) = dyV y 1 1 + b:=wrap64 (by omega) (by omega)
  refine ⟨dyV y 1 1 + b,⟨by omega,by omega⟩,fun K hK=>?_⟩
  rw [g133_in,w]
  exact ⟨y1,y2,by decide,by decide,by decide,by decide,brn_T (by rw [h2]; rfl) hK⟩
 ·have n2:(a == (2:Int)) = false:=by rw [beq_eq_false_iff_ne]; exact h2
  by_cases h1:a = 1
  ·have hb:1≤b∧b≤365:=by omega
   refine Exists.elim (loop_det (C:=N4) (c:=loopB (bodyOf Tryz.f99) 0) (fun s:Int×Int=>h133 a b c d e f y s.1 s.2) (fun s=>1≤s.1∧1≤s.2∧s.2 + 28 * (s.1 - 1)≤365) (fun s=>s.2.toNat) (fun v:Int=>-600000000000000≤v∧v≤600000000000000) (fun v=>[i64 v])
    (fun K=>loopK N4 (bodyOf Tryz.f99) 0 (finK N4 Tryz.f99 K)) rfl (fun s hs=>?_) (1,b) ⟨Int.le_refl 1,hb.1,by show b + 28 * (1 - 1)≤365; omega⟩) (fun v hv'=>?_)
   ·obtain ⟨m,g⟩:=s
    obtain ⟨r1,r2,r3⟩:=hs
    simp only at r1 r2 r3
    have hm:=md_rng 2001 m
    by_cases h:g > mdU 2001 m
    ·have e1:IntKind.wrap .i64 (g - mdU 2001 m) = g - mdU 2001 m:=wrap64 (by omega) (by omega)
     have e2:IntKind.wrap .i64 (m + 1) = m + 1:=wrap64 (by omega) (by omega)
     refine .inl ⟨(m + 1,g - mdU 2001 m),p133,_,⟨by show 1≤m + 1; omega,by show 1≤g - _; omega,by show g - _ + 28 * (m + 1 - 1)≤365; omega⟩,by show (g - mdU 2001 m).toNat < g.toNat; omega,?_,fun K' hK'=>by
      rw [g133_lp]
      exact brn_T (decide_eq_true h) hK'⟩
     rw [e1,e2]
     kernel_rfl
    ·have hm13:m≤14:=by omega
     obtain ⟨⟨v1,v2⟩,_⟩:=dy_spec (y:=y) (m:=m) (d:=g) y1 y2 r1 hm13 (by omega) (by omega)
     refine .inr ⟨.exit 0,_,by simp,fun K' hK'=>by
      rw [g133_lp]
      exact brn_Fa (decide_eq_false h) hK',dyV y m g,⟨by omega,by omega⟩,fun K hK=>?_⟩
     have key:loopK N4 (bodyOf Tryz.f99) 0 (finK N4 Tryz.f99 K) (AX.exit 0) (o133 a b c d e f y m g):=Eq.mpr (g133_out a b c d e f y m g K) ⟨y1,y2,r1,hm13,by omega,by omega,hK⟩
     exact Eq.mp (by kernel_rfl) key
   ·obtain ⟨hv1,hk⟩:=hv'
    refine ⟨v,hv1,fun K hK=>?_⟩
    rw [g133_in]
    refine ⟨y1,y2,by decide,by decide,by decide,by decide,brn_Fa n2 (brn_T (by rw [h1]; rfl) ?_)⟩
    unfold LoopI
    exact hk K hK p133 _ (by kernel_rfl)
  ·have n1:(a == (1:Int)) = false:=by rw [beq_eq_false_iff_ne]; exact h1
   have hc:1≤c∧c≤14:=by omega
   obtain ⟨⟨s1,s2⟩,_⟩:=dy_spec (y:=y) (m:=c) (d:=1) y1 y2 hc.1 hc.2 (by decide) (by decide)
   have hm:=md_rng y c
   have ws:IntKind.wrap .i64 (dyV y c 1 + mdU y c) = dyV y c 1 + mdU y c:=wrap64 (by omega) (by omega)
   refine Exists.elim (loop_det (C:=N4) (c:=loopB (bodyOf Tryz.f99) 1) (fun s:Int×Int×Int=>h133b a b c d e f y (dyV y c 1) s.1 s.2.1 s.2.2) (fun s=>0≤s.1∧s.1≤s.2.2 - dyV y c 1∧-600000000000000≤s.2.1∧s.2.1≤600000000000000∧dyV y c 1≤s.2.2∧s.2.2≤dyV y c 1 + mdU y c) (fun s=>(dyV y c 1 + mdU y c - s.2.2).toNat) (fun v:Int=>-600000000000000≤v∧v≤600000000000000) (fun v=>[i64 v])
    (fun K=>loopK N4 (bodyOf Tryz.f99) 1 (finK N4 Tryz.f99 K)) rfl (fun s hs=>?_) (0,dyV y c 1,dyV y c 1) ⟨Int.le_refl 0,by show 0≤dyV y c 1 - dyV y c 1; omega,by show _≤dyV y c 1; omega,by show dyV y c 1≤_; omega,Int.le_refl _,by show dyV y c 1≤_; omega⟩) (fun v hv'=>?_)
   ·obtain ⟨u,x,n⟩:=s
    obtain ⟨r1,r2,r3,r4,r5,r6⟩:=hs
    simp only at r1 r2 r3 r4 r5 r6
    have e0:IntKind.wrap .i64 (n + 1) = n + 1:=wrap64 (by omega) (by omega)
    have e1:IntKind.wrap .i64 (u + 1) = u + 1:=wrap64 (by omega) (by omega)
    by_cases h:n < dyV y c 1 + mdU y c
    ·have hμ:(dyV y c 1 + mdU y c - (n + 1)).toNat < (dyV y c 1 + mdU y c - n).toNat:=by omega
     by_cases hw:wkU n = e∧u < d
     ·refine .inl ⟨(u + 1,n,n + 1),p133b,_,⟨by show 0≤u + 1; omega,by show u + 1≤n + 1 - _; omega,by show _≤n; omega,by show n≤_; omega,by show _≤n + 1; omega,by show n + 1≤_; omega⟩,hμ,?_,fun K' hK'=>by
       rw [g133_lp2]
       intro A4 A17
       rw [ws]
       have a17:A17:=brn_T (by rw [hw.1]; exact beq_self_eq_true e) (brn_T (decide_eq_true hw.2) hK')
       exact brn_T (decide_eq_true h) ⟨a17,a17⟩⟩
      rw [e0,e1]
      kernel_rfl
     ·refine .inl ⟨(u,x,n + 1),p133b,_,⟨r1,by show u≤n + 1 - _; omega,r3,r4,by show _≤n + 1; omega,by show n + 1≤_; omega⟩,hμ,?_,fun K' hK'=>by
       rw [g133_lp2]
       intro A4 A17
       rw [ws]
       have a17:A17:=by
        refine brn_intro (fun g1=>brn_intro (fun g2=>?_) (fun _=>hK')) (fun _=>hK')
        exact absurd ⟨by simpa using g1,of_decide_eq_true g2⟩ hw
       exact brn_T (decide_eq_true h) ⟨a17,a17⟩⟩
      rw [e0]
      kernel_rfl
    ·refine .inr ⟨.exit 2,_,by simp,fun K' hK'=>by
      rw [g133_lp2]
      intro A4 A17
      exact brn_Fa (by rw [ws]; exact decide_eq_false h) hK',x,⟨r3,r4⟩,fun K hK=>?_⟩
     have key:loopK N4 (bodyOf Tryz.f99) 1 (finK N4 Tryz.f99 K) (AX.exit 2) (o133b a b c d e f y (dyV y c 1) u x n):=Eq.mpr (g133_out2 a b c d e f y (dyV y c 1) u x n K) hK
     exact Eq.mp (by kernel_rfl) key
   ·obtain ⟨hv1,hk⟩:=hv'
    refine ⟨v,hv1,fun K hK=>?_⟩
    rw [g133_in]
    refine ⟨y1,y2,by decide,by decide,by decide,by decide,brn_Fa n2 (brn_Fa n1 ⟨y1,y2,hc.1,hc.2,by decide,by decide,?_⟩)⟩
    unfold LoopI
    exact hk K hK p133b _ (by kernel_rfl)
end PF
set_option maxRecDepth 100000
namespace PF
open Go Go.AE Go.Proofs PE
noncomputable def rdV (a b c d e f y:Int):Int:=Classical.epsilon fun v:Int=>(-600000000000000≤v∧v≤600000000000000)∧∀ K:List AV→Prop,K [i64 v]→evSpec N4 Tryz.f99 [.agg (rdC a b c d e f),i64 y] K
noncomputable def sRday:List AV→Option (List Prop×List AV)
 | [.agg [.imm (.int .i64 a),.imm (.int .i64 b),.imm (.int .i64 c),.imm (.int .i64 d),.imm (.int .i64 e),.imm (.int .i64 f)],.imm (.int .i64 y)]=>some ([vDay a b c d e f = true,-1000000000000≤y,y≤1000000000000],[i64 (rdV a b c d e f y)])
 | _=>none
noncomputable def F24:=addE F23 99 sRday
noncomputable def N5:Cx:=⟨Tryz.prog,F24,noCall,G16,4008⟩
def okRu (o p:Int) (h:Bool) (vs ve:Bool):Prop:=-100000≤o∧o≤100000∧-200000≤p∧p≤200000∧(h = true→vs = true∧ve = true)
noncomputable def ch1 (o a b c d e f y:Int):Int×Int:=shV (rdV a b c d e f y) (IntKind.wrap .i64 (f - o))
noncomputable def sChg:List AV→Option (List Prop×List AV)
 | [.agg [.imm (.str s),.imm (.int .i64 o),.imm (.bool h),.imm (.str t),.imm (.int .i64 p),.imm (.int .i64 a),.imm (.int .i64 b),.imm (.int .i64 c),.imm (.int .i64 d),.imm (.int .i64 e),.imm (.int .i64 f),.imm (.int .i64 a'),.imm (.int .i64 b'),.imm (.int .i64 c'),.imm (.int .i64 d'),.imm (.int .i64 e'),.imm (.int .i64 f')],.imm (.int .i64 y)] =>
  some ([okRu o p true (vDay a b c d e f) (vDay a' b' c' d' e' f'),-1000000000000≤y,y≤1000000000000],[.agg [i64 (ch1 o a b c d e f y).1,i64 (ch1 o a b c d e f y).2],.agg [i64 (ch1 p a' b' c' d' e' f' y).1,i64 (ch1 p a' b' c' d' e' f' y).2]])
 | _=>none
noncomputable def F25:=addE F24 89 sChg
noncomputable def N6:Cx:=⟨Tryz.prog,F25,noCall,G16,4013⟩
def on0 (s:List UInt8) (o:Int) (h:Bool) (t:List UInt8) (p a b c d e f a' b' c' d' e' f' x z l1 l2:Int):List (Nat×Ob):=[(0,⟨true,0,.cells (ruC s o h t p (rdC a b c d e f) (rdC a' b' c' d' e' f'))⟩),(1,⟨true,0,.cells [i64 x,i64 z]⟩),(2,⟨true,0,.cells [i64 l1,i64 l2]⟩)]
def h101 (s:List UInt8) (o:Int) (h:Bool) (t:List UInt8) (p a b c d e f a' b' c' d' e' f' x z y l1 l2:Int) (on fd:Bool) (i:Int):St :=
 ⟨spr [(2,i64 y),(3,.ptr 0 0),(4,.ptr 1 0),(7,.ptr 2 0),(8,bo on),(9,bo fd),(10,i64 i)] 0 61,on0 s o h t p a b c d e f a' b' c' d' e' f' x z l1 l2,3,[]⟩
def o101 (s:List UInt8) (o:Int) (h:Bool) (t:List UInt8) (p a b c d e f a' b' c' d' e' f' x z y l1 l2:Int) (on fd:Bool) (i:Int):St :=
 ⟨spr [(2,i64 y),(3,.ptr 0 0),(4,.ptr 1 0),(7,.ptr 2 0),(8,bo on),(9,bo fd),(10,i64 i),(18,i64 i),(19,i64 y),(20,i64 (IntKind.wrap .i64 (y + 2))),(21,bo (decide (i≤IntKind.wrap .i64 (y + 2))))] 0 61,on0 s o h t p a b c d e f a' b' c' d' e' f' x z l1 l2,3,[]⟩
def p101:Plan:=⟨[],msk [2,3,4,7,8,9,10] 0 61,[0,1,2]⟩
theorem rd_spec {a b c d e f y:Int} (hv:vDay a b c d e f = true) (y1:-1000000000000≤y) (y2:y≤1000000000000):(-600000000000000≤rdV a b c d e f y∧rdV a b c d e f y≤600000000000000)∧∀ K:List AV→Prop,K [i64 (rdV a b c d e f y)]→evSpec N4 Tryz.f99 [.agg (rdC a b c d e f),i64 y] K :=
 Classical.epsilon_spec (rday_ex a b c d e f y hv y1 y2)
theorem ok133e:∀ args pres res,sRday args = some (pres,res)→SpecOK Tryz.prog G16 99 args pres res:=by
 intro args pres res h
 unfold sRday at h
 split at h
 case h_2=>cases h
 cases h
 exact spec_ok (C:=N4) okF23 noCall_ok Tryz.func99 (by kernel_rfl) (by kernel_rfl) (fun hp=>(rd_spec (hp _ (by simp)) (hp _ (by simp)) (hp _ (by simp))).2 _ rfl)
theorem okF24:EOK Tryz.prog F24 G16:=addE_ok okF23 ok133e
attribute [local irreducible] evCode evSpec loopB loopK norm
theorem g120_in (s:List UInt8) (o:Int) (h:Bool) (t:List UInt8) (p:Int) (a:Int) (b:Int) (c:Int) (d:Int) (e:Int) (f:Int) (a':Int) (b':Int) (c':Int) (d':Int) (e':Int) (f':Int) (y:Int) (K:List AV→Prop):evSpec N5 Tryz.f89 [.agg (ruC s o h t p (rdC a b c d e f) (rdC a' b' c' d' e' f')),i64 y] K = (let E1:Prop:=((sm (St.mk (lapp [.agg [.imm (.str s),i64 o,bo h,.imm (.str t),i64 p,i64 a,i64 b,i64 c,i64 d,i64 e,i64 f,i64 a',i64 b',i64 c',i64 d',i64 e',i64 f'],i64 y,.ptr 0 0,.dead,.ptr 1 0,.ptr 2 0,.ptr 3 0,.dead,.ptr 0 5,.agg [i64 a,i64 b,i64 c,i64 d,i64 e,i64 f],i64 y,i64 (rdV a b c d e f y),.ptr 0 5,.ptr 0 10,i64 f,.ptr 0 1,i64 o,i64 (IntKind.wrap .i64 (f - o)),.agg [i64 ((shV (rdV a b c d e f y) (IntKind.wrap .i64 (f - o))).1),i64 ((shV (rdV a b c d e f y) (IntKind.wrap .i64 (f - o))).2)]] (dN 13)) [(0,Ob.mk true 0 (AObj.cells [.imm (.str s),i64 o,bo h,.imm (.str t),i64 p,i64 a,i64 b,i64 c,i64 d,i64 e,i64 f,i64 a',i64 b',i64 c',i64 d',i64 e',i64 f'])),(1,Ob.mk true 0 (AObj.cells [i64 0,i64 0])),(2,Ob.mk true 0 (AObj.cells [i64 0,i64 0])),(3,Ob.mk true 0 (AObj.cells [i64 ((shV
 (rdV a b c d e f y) (IntKind.wrap .i64 (f - o))).1),i64 ((shV (rdV a b c d e f y) (IntKind.wrap .i64 (f - o))).2)]))] 4 []))); let E2:Prop:=((sm (St.mk (lapp [.agg [.imm (.str s),i64 o,bo h,.imm (.str t),i64 p,i64 a,i64 b,i64 c,i64 d,i64 e,i64 f,i64 a',i64 b',i64 c',i64 d',i64 e',i64 f'],i64 y,.ptr 0 0,.dead,.ptr 1 0,.ptr 2 0,.ptr 3 0,.ptr 4 0] (lapp (dN 11) [.ptr 0 11,.agg [i64 a',i64 b',i64 c',i64 d',i64 e',i64 f'],i64 y,i64 (rdV a' b' c' d' e' f' y),.ptr 0 11,.ptr 0 16,i64 f',.ptr 0 4,i64 p,i64 (IntKind.wrap .i64 (f' - p)),.agg [i64 ((shV (rdV a' b' c' d' e' f' y) (IntKind.wrap .i64 (f' - p))).1),i64 ((shV (rdV a' b' c' d' e' f' y) (IntKind.wrap .i64 (f' - p))).2)],.dead,.dead])) [(0,Ob.mk true 0 (AObj.cells [.imm (.str s),i64 o,bo h,.imm (.str t),i64 p,i64 a,i64 b,i64 c,i64 d,i64 e,i64 f,i64 a',i64 b',i64 c',i64 d',i64 e',i64 f'])),(1,Ob.mk true 0 (AObj.cells [i64 0,i64 0])),(2,Ob.mk true 0 (AObj.cells [i64 0,i64 0])),(3,Ob.mk true 0 (AObj.cells [i64 ((shV (rdV a b c d e f y) (IntKind.wrap .i64 (f - o))).1),i64 ((shV (rdV a b c d e f y) (IntKind.wrap .i64 (f - o))).2)])),(4,Ob.mk true 0 (AObj.cells [i64
 ((shV (rdV a' b' c' d' e' f' y) (IntKind.wrap .i64 (f' - p))).1),i64 ((shV (rdV a' b' c' d' e' f' y) (IntKind.wrap .i64 (f' - p))).2)]))] 5 []))); let E3:Prop:=((sm (St.mk (lapp [.agg [.imm (.str s),i64 o,bo h,.imm (.str t),i64 p,i64 a,i64 b,i64 c,i64 d,i64 e,i64 f,i64 a',i64 b',i64 c',i64 d',i64 e',i64 f'],i64 y,.ptr 0 0,.dead,.ptr 1 0,.ptr 2 0,.ptr 3 0,.ptr 4 0] (lapp (dN 22) [.agg [i64 ((shV (rdV a b c d e f y) (IntKind.wrap .i64 (f - o))).1),i64 ((shV (rdV a b c d e f y) (IntKind.wrap .i64 (f - o))).2)],.agg [i64 ((shV (rdV a' b' c' d' e' f' y) (IntKind.wrap .i64 (f' - p))).1),i64 ((shV (rdV a' b' c' d' e' f' y) (IntKind.wrap .i64 (f' - p))).2)]])) [(0,Ob.mk true 0 (AObj.cells [.imm (.str s),i64 o,bo h,.imm (.str t),i64 p,i64 a,i64 b,i64 c,i64 d,i64 e,i64 f,i64 a',i64 b',i64 c',i64 d',i64 e',i64 f'])),(1,Ob.mk true 0 (AObj.cells [i64 ((shV (rdV a b c d e f y) (IntKind.wrap .i64 (f - o))).1),i64 ((shV (rdV a b c d e f y) (IntKind.wrap .i64 (f - o))).2)])),(2,Ob.mk true 0 (AObj.cells [i64 ((shV (rdV a' b' c' d' e' f' y) (IntKind.wrap .i64 (f' - p))).1),i64 ((shV (rdV a' b' c' d' e' f' y) (IntKind.wrap .i64 (f' - p))).2)])),(3,
 Ob.mk true 0 (AObj.cells [i64 ((shV (rdV a b c d e f y) (IntKind.wrap .i64 (f - o))).1),i64 ((shV (rdV a b c d e f y) (IntKind.wrap .i64 (f - o))).2)])),(4,Ob.mk true 0 (AObj.cells [i64 ((shV (rdV a' b' c' d' e' f' y) (IntKind.wrap .i64 (f' - p))).1),i64 ((shV (rdV a' b' c' d' e' f' y) (IntKind.wrap .i64 (f' - p))).2)]))] 5 []))); ((vDay a b c d e f = true∧(-1000000000000:Int)≤y∧y≤1000000000000∧((-1000000000000000:Int)≤rdV a b c d e f y∧rdV a b c d e f y≤1000000000000000∧(-1000000:Int)≤IntKind.wrap .i64 (f - o)∧IntKind.wrap .i64 (f - o)≤1000000∧E1)∧(-1000000000000000:Int)≤rdV a b c d e f y∧rdV a b c d e f y≤1000000000000000∧(-1000000:Int)≤IntKind.wrap .i64 (f - o)∧IntKind.wrap .i64 (f - o)≤1000000∧E1)∧vDay a b c d e f = true∧(-1000000000000:Int)≤y∧y≤1000000000000∧(-1000000000000000:Int)≤rdV a b c d e f y∧rdV a b c d e f y≤1000000000000000∧(-1000000:Int)≤IntKind.wrap .i64 (f - o)∧IntKind.wrap .i64 (f - o)≤1000000∧E1)∧((vDay a' b' c' d' e' f' = true∧(-1000000000000:Int)≤y∧y≤1000000000000∧((-1000000000000000:Int)≤rdV a' b' c' d' e' f' y∧rdV a' b' c' d' e' f' y ≤
 1000000000000000∧(-1000000:Int)≤IntKind.wrap .i64 (f' - p)∧IntKind.wrap .i64 (f' - p)≤1000000∧E2)∧(-1000000000000000:Int)≤rdV a' b' c' d' e' f' y∧rdV a' b' c' d' e' f' y≤1000000000000000∧(-1000000:Int)≤IntKind.wrap .i64 (f' - p)∧IntKind.wrap .i64 (f' - p)≤1000000∧E2)∧vDay a' b' c' d' e' f' = true∧(-1000000000000:Int)≤y∧y≤1000000000000∧(-1000000000000000:Int)≤rdV a' b' c' d' e' f' y∧rdV a' b' c' d' e' f' y≤1000000000000000∧(-1000000:Int)≤IntKind.wrap .i64 (f' - p)∧IntKind.wrap .i64 (f' - p)≤1000000∧E2)∧E3∧K [.agg [i64 ((shV (rdV a b c d e f y) (IntKind.wrap .i64 (f - o))).1),i64 ((shV (rdV a b c d e f y) (IntKind.wrap .i64 (f - o))).2)],.agg [i64 ((shV (rdV a' b' c' d' e' f' y) (IntKind.wrap .i64 (f' - p))).1),i64 ((shV (rdV a' b' c' d' e' f' y) (IntKind.wrap .i64 (f' - p))).2)]]):=by kernel_rfl
theorem g101_in (s:List UInt8) (o:Int) (h:Bool) (t:List UInt8) (p:Int) (a:Int) (b:Int) (c:Int) (d:Int) (e:Int) (f:Int) (a':Int) (b':Int) (c':Int) (d':Int) (e':Int) (f':Int) (x:Int) (z:Int) (y:Int) (K:List AV→Prop):evSpec N6 Tryz.f75 [.agg (ruC s o h t p (rdC a b c d e f) (rdC a' b' c' d' e' f')),.agg [i64 x,i64 z],i64 y] K = (brn (!h) (K [bo false]) (LoopI N6 (bodyOf Tryz.f75) 0 (St.mk (lapp [.agg [.imm (.str s),i64 o,bo h,.imm (.str t),i64 p,i64 a,i64 b,i64 c,i64 d,i64 e,i64 f,i64 a',i64 b',i64 c',i64 d',i64 e',i64 f'],.agg [i64 x,i64 z],i64 y,.ptr 0 0,.ptr 1 0,.dead,bo false,.ptr 2 0,bo false,bo false,i64 (IntKind.wrap .i64 (y - 3))] (lapp (dN 5) (lapp [i64 y,i64 (IntKind.wrap .i64 (y - 3))] (dN 43)))) [(0,Ob.mk true 0 (AObj.cells [.imm (.str s),i64 o,bo h,.imm (.str t),i64 p,i64 a,i64 b,i64 c,i64 d,i64 e,i64 f,i64 a',i64 b',i64 c',i64 d',i64 e',i64 f'])),(1,Ob.mk true 0 (AObj.cells [i64 x,i64 z])),(2,Ob.mk true 0 (AObj.cells [i64 0,i64 0]))] 3 []) (finK N6 Tryz.f75 K))):=by kernel_rfl
theorem g101_lp (s:List UInt8) (o:Int) (h:Bool) (t:List UInt8) (p:Int) (a:Int) (b:Int) (c:Int) (d:Int) (e:Int) (f:Int) (a':Int) (b':Int) (c':Int) (d':Int) (e':Int) (f':Int) (x:Int) (z:Int) (y:Int) (l1:Int) (l2:Int) (on:Bool) (fd:Bool) (i:Int) (k:AX→St→Prop):evCode N6 (loopB (bodyOf Tryz.f75) 0) (h101 s o h t p a b c d e f a' b' c' d' e' f' x z y l1 l2 on fd i) k = (let A1:Prop:=((k AX.normal (St.mk (lapp [.dead,.dead,i64 y,.ptr 0 0,.ptr 1 0,.dead,.dead,.ptr 2 0,bo true,bo true,i64 (IntKind.wrap .i64 (i + 1)),.ptr 3 0,.ptr 4 0] (lapp (dN 9) (lapp [i64 i,i64 (IntKind.wrap .i64 (i + 1))] (dN 37)))) [(0,Ob.mk true 0 (AObj.cells [.imm (.str s),i64 o,bo h,.imm (.str t),i64 p,i64 a,i64 b,i64 c,i64 d,i64 e,i64 f,i64 a',i64 b',i64 c',i64 d',i64 e',i64 f'])),(1,Ob.mk true 0 (AObj.cells [i64 x,i64 z])),(2,Ob.mk true 0 (AObj.cells [i64 ((ch1 o a b c d e f i).1),i64 ((ch1 o a b c d e f i).2)])),(3,Ob.mk true 0 (AObj.cells [i64 ((ch1 o a b c d e f i).1),i64 ((ch1 o a b c d e f i).2)])),(4,Ob.mk true 0 (AObj.cells [i64 ((ch1 p a' b' c' d' e' f' i).1),i64 ((ch1 p a' b' c' d' e' f' i).2)]))] 5
 []))); brn (decide (i≤IntKind.wrap .i64 (y + 2))) (okRu o p true (vDay a b c d e f) (vDay a' b' c' d' e' f')∧(-1000000000000:Int)≤i∧i≤1000000000000∧brn (decide (cmpU (ch1 p a' b' c' d' e' f' i).1 (ch1 p a' b' c' d' e' f' i).2 x z≤0) && (!fd || decide (cmpU (ch1 p a' b' c' d' e' f' i).1 (ch1 p a' b' c' d' e' f' i).2 l1 l2 > 0))) (brn (decide (cmpU (ch1 o a b c d e f i).1 (ch1 o a b c d e f i).2 x z≤0) && (!true || decide (cmpU (ch1 o a b c d e f i).1 (ch1 o a b c d e f i).2 (ch1 p a' b' c' d' e' f' i).1 (ch1 p a' b' c' d' e' f' i).2≥0))) A1 (k AX.normal (St.mk (lapp [.dead,.dead,i64 y,.ptr 0 0,.ptr 1 0,.dead,.dead,.ptr 2 0,bo false,bo true,i64 (IntKind.wrap .i64 (i + 1)),.ptr 3 0,.ptr 4 0] (lapp (dN 9) (lapp [i64 i,i64 (IntKind.wrap .i64 (i + 1))] (dN 37)))) [(0,Ob.mk true 0 (AObj.cells [.imm (.str s),i64 o,bo h,.imm (.str t),i64 p,i64 a,i64 b,i64 c,i64 d,i64 e,i64 f,i64 a',i64 b',i64 c',i64 d',i64 e',i64 f'])),(1,Ob.mk true 0 (AObj.cells [i64 x,i64 z])),(2,Ob.mk true 0 (AObj.cells [i64 ((ch1 p a' b' c' d' e' f' i).1),i64 ((ch1 p a' b' c' d' e' f' i).2)])),(3,Ob.mk true 0 (AObj.cells [i64 ((ch1 o a b c d e f i).1),i64 ((ch1 o
 a b c d e f i).2)])),(4,Ob.mk true 0 (AObj.cells [i64 ((ch1 p a' b' c' d' e' f' i).1),i64 ((ch1 p a' b' c' d' e' f' i).2)]))] 5 []))) (brn (decide (cmpU (ch1 o a b c d e f i).1 (ch1 o a b c d e f i).2 x z≤0) && (!fd || decide (cmpU (ch1 o a b c d e f i).1 (ch1 o a b c d e f i).2 l1 l2≥0))) A1 (k AX.normal (St.mk (lapp [.dead,.dead,i64 y,.ptr 0 0,.ptr 1 0,.dead,.dead,.ptr 2 0,bo on,bo fd,i64 (IntKind.wrap .i64 (i + 1)),.ptr 3 0,.ptr 4 0] (lapp (dN 9) (lapp [i64 i,i64 (IntKind.wrap .i64 (i + 1))] (dN 37)))) [(0,Ob.mk true 0 (AObj.cells [.imm (.str s),i64 o,bo h,.imm (.str t),i64 p,i64 a,i64 b,i64 c,i64 d,i64 e,i64 f,i64 a',i64 b',i64 c',i64 d',i64 e',i64 f'])),(1,Ob.mk true 0 (AObj.cells [i64 x,i64 z])),(2,Ob.mk true 0 (AObj.cells [i64 l1,i64 l2])),(3,Ob.mk true 0 (AObj.cells [i64 ((ch1 o a b c d e f i).1),i64 ((ch1 o a b c d e f i).2)])),(4,Ob.mk true 0 (AObj.cells [i64 ((ch1 p a' b' c' d' e' f' i).1),i64 ((ch1 p a' b' c' d' e' f' i).2)]))] 5 [])))) (k (AX.exit 0) (St.mk (lapp [.dead,.dead,i64 y,.ptr 0 0,.ptr 1 0,.dead,.dead,.ptr 2 0,bo on,bo fd,i64 i] (lapp (dN 7) (lapp [i64 i,i64 y,i64 (IntKind.wrap .i64 (y + 2)),bo
 (decide (i≤IntKind.wrap .i64 (y + 2)))] (dN 39)))) [(0,Ob.mk true 0 (AObj.cells [.imm (.str s),i64 o,bo h,.imm (.str t),i64 p,i64 a,i64 b,i64 c,i64 d,i64 e,i64 f,i64 a',i64 b',i64 c',i64 d',i64 e',i64 f'])),(1,Ob.mk true 0 (AObj.cells [i64 x,i64 z])),(2,Ob.mk true 0 (AObj.cells [i64 l1,i64 l2]))] 3 []))):=by kernel_rfl
theorem g101_out (s:List UInt8) (o:Int) (h:Bool) (t:List UInt8) (p:Int) (a:Int) (b:Int) (c:Int) (d:Int) (e:Int) (f:Int) (a':Int) (b':Int) (c':Int) (d':Int) (e':Int) (f':Int) (x:Int) (z:Int) (y:Int) (l1:Int) (l2:Int) (on:Bool) (fd:Bool) (i:Int) (K:List AV→Prop):loopK N6 (bodyOf Tryz.f75) 0 (finK N6 Tryz.f75 K) (AX.exit 0) (o101 s o h t p a b c d e f a' b' c' d' e' f' x z y l1 l2 on fd i) = (K [bo on]):=by kernel_rfl
theorem chg_ev (s:List UInt8) (o:Int) (h:Bool) (t:List UInt8) (p a b c d e f a' b' c' d' e' f' y:Int) (hr:okRu o p true (vDay a b c d e f) (vDay a' b' c' d' e' f')) (y1:-1000000000000≤y) (y2:y≤1000000000000) (K:List AV→Prop)
  (hK:K [.agg [i64 (ch1 o a b c d e f y).1,i64 (ch1 o a b c d e f y).2],.agg [i64 (ch1 p a' b' c' d' e' f' y).1,i64 (ch1 p a' b' c' d' e' f' y).2]]):evSpec N5 Tryz.f89 [.agg (ruC s o h t p (rdC a b c d e f) (rdC a' b' c' d' e' f')),i64 y] K:=by
 obtain ⟨o1,o2,p1,p2,hv⟩:=hr
 obtain ⟨v1,v2⟩:=hv rfl
 obtain ⟨⟨f1,f2⟩,_⟩:=vDay_elim v1
 obtain ⟨⟨g1,g2⟩,_⟩:=vDay_elim v2
 obtain ⟨⟨q1,q2⟩,_⟩:=rd_spec v1 y1 y2
 obtain ⟨⟨q3,q4⟩,_⟩:=rd_spec v2 y1 y2
 refine Eq.mpr (g120_in s o h t p a b c d e f a' b' c' d' e' f' y K) ?_
 intro E1 E2 E3
 have w1:IntKind.wrap .i64 (f - o) = f - o:=wrap64 (by omega) (by omega)
 have w2:IntKind.wrap .i64 (f' - p) = f' - p:=wrap64 (by omega) (by omega)
 have b1:-1000000≤IntKind.wrap .i64 (f - o):=by rw [w1]; omega
 have b2:IntKind.wrap .i64 (f - o)≤1000000:=by rw [w1]; omega
 have b3:-1000000≤IntKind.wrap .i64 (f' - p):=by rw [w2]; omega
 have b4:IntKind.wrap .i64 (f' - p)≤1000000:=by rw [w2]; omega
 have q1':-1000000000000000≤rdV a b c d e f y:=by omega
 have q2':rdV a b c d e f y≤1000000000000000:=by omega
 have q3':-1000000000000000≤rdV a' b' c' d' e' f' y:=by omega
 have q4':rdV a' b' c' d' e' f' y≤1000000000000000:=by omega
 exact ⟨⟨⟨v1,y1,y2,⟨q1',q2',b1,b2,rfl⟩,q1',q2',b1,b2,rfl⟩,v1,y1,y2,q1',q2',b1,b2,rfl⟩,⟨⟨v2,y1,y2,⟨q3',q4',b3,b4,rfl⟩,q3',q4',b3,b4,rfl⟩,v2,y1,y2,q3',q4',b3,b4,rfl⟩,rfl,hK⟩
theorem ok120e:∀ args pres res,sChg args = some (pres,res)→SpecOK Tryz.prog G16 89 args pres res:=by
 intro args pres res h
 unfold sChg at h
 split at h
 case h_2=>cases h
 cases h
 exact spec_ok (C:=N5) okF24 noCall_ok Tryz.func89 (by kernel_rfl) (by kernel_rfl) (fun hp=>chg_ev _ _ _ _ _ _ _ _ _ _ _ _ _ _ _ _ _ _ (hp _ (by simp)) (hp _ (by simp)) (hp _ (by simp)) _ rfl)
theorem okF25:EOK Tryz.prog F25 G16:=addE_ok okF24 ok120e
theorem on_ex (s:List UInt8) (o:Int) (h:Bool) (t:List UInt8) (p a b c d e f a' b' c' d' e' f' x z y:Int) (hr:okRu o p h (vDay a b c d e f) (vDay a' b' c' d' e' f')) (y1:-999999999000≤y) (y2:y≤999999999000) :
  ∃ v:Bool,True∧∀ K:List AV→Prop,K [bo v]→evSpec N6 Tryz.f75 [.agg (ruC s o h t p (rdC a b c d e f) (rdC a' b' c' d' e' f')),.agg [i64 x,i64 z],i64 y] K:=by
 cases hh:h with
 | false =>
  refine ⟨false,trivial,fun K hK=>?_⟩
  rw [g101_in]
  exact brn_T rfl hK
 | true =>
  subst hh
  have w3:IntKind.wrap .i64 (y - 3) = y - 3:=wrap64 (by omega) (by omega)
  have w2:IntKind.wrap .i64 (y + 2) = y + 2:=wrap64 (by omega) (by omega)
  refine Exists.elim (loop_det (C:=N6) (c:=loopB (bodyOf Tryz.f75) 0) (fun q:Int×Int×Bool×Bool×Int=>h101 s o true t p a b c d e f a' b' c' d' e' f' x z y q.1 q.2.1 q.2.2.1 q.2.2.2.1 q.2.2.2.2) (fun q=>y - 3≤q.2.2.2.2∧q.2.2.2.2≤y + 3) (fun q=>(y + 3 - q.2.2.2.2).toNat) (fun _:Bool=>True) (fun v=>[bo v])
   (fun K=>loopK N6 (bodyOf Tryz.f75) 0 (finK N6 Tryz.f75 K)) rfl (fun q hq=>?_) (0,0,false,false,y - 3) ⟨by show y - 3≤y - 3; omega,by show y - 3≤y + 3; omega⟩) (fun v hv'=>?_)
  ·obtain ⟨l1,l2,on,fd,i⟩:=q
   obtain ⟨i1,i2⟩:=hq
   simp only at i1 i2
   have e0:IntKind.wrap .i64 (i + 1) = i + 1:=wrap64 (by omega) (by omega)
   by_cases hi:i≤y + 2
   ·have j1:(-1000000000000:Int)≤i:=by omega
    have j2:i≤(1000000000000:Int):=by omega
    have hμ:(y + 3 - (i + 1)).toNat < (y + 3 - i).toNat:=by omega
    have hG:y - 3≤i + 1∧i + 1≤y + 3:=by omega
    cases hb:(decide (cmpU (ch1 p a' b' c' d' e' f' i).1 (ch1 p a' b' c' d' e' f' i).2 x z≤0) && (!fd || decide (cmpU (ch1 p a' b' c' d' e' f' i).1 (ch1 p a' b' c' d' e' f' i).2 l1 l2 > 0))) with
    | true =>
     cases hc:(decide (cmpU (ch1 o a b c d e f i).1 (ch1 o a b c d e f i).2 x z≤0) && (!true || decide (cmpU (ch1 o a b c d e f i).1 (ch1 o a b c d e f i).2 (ch1 p a' b' c' d' e' f' i).1 (ch1 p a' b' c' d' e' f' i).2≥0))) with
     | true =>
      refine .inl ⟨((ch1 o a b c d e f i).1,(ch1 o a b c d e f i).2,true,true,i + 1),p101,_,hG,hμ,?_,fun K' hK'=>by
       rw [g101_lp,w2]
       intro A1
       exact brn_T (decide_eq_true hi) ⟨hr,j1,j2,brn_T hb (brn_T hc hK')⟩⟩
      rw [e0]
      kernel_rfl
     | false =>
      refine .inl ⟨((ch1 p a' b' c' d' e' f' i).1,(ch1 p a' b' c' d' e' f' i).2,false,true,i + 1),p101,_,hG,hμ,?_,fun K' hK'=>by
       rw [g101_lp,w2]
       intro A1
       exact brn_T (decide_eq_true hi) ⟨hr,j1,j2,brn_T hb (brn_Fa hc hK')⟩⟩
      rw [e0]
      kernel_rfl
    | false =>
     cases hc:(decide (cmpU (ch1 o a b c d e f i).1 (ch1 o a b c d e f i).2 x z≤0) && (!fd || decide (cmpU (ch1 o a b c d e f i).1 (ch1 o a b c d e f i).2 l1 l2≥0))) with
     | true =>
      refine .inl ⟨((ch1 o a b c d e f i).1,(ch1 o a b c d e f i).2,true,true,i + 1),p101,_,hG,hμ,?_,fun K' hK'=>by
       rw [g101_lp,w2]
       intro A1
       exact brn_T (decide_eq_true hi) ⟨hr,j1,j2,brn_Fa hb (brn_T hc hK')⟩⟩
      rw [e0]
      kernel_rfl
     | false =>
      refine .inl ⟨(l1,l2,on,fd,i + 1),p101,_,hG,hμ,?_,fun K' hK'=>by
       rw [g101_lp,w2]
       intro A1
       exact brn_T (decide_eq_true hi) ⟨hr,j1,j2,brn_Fa hb (brn_Fa hc hK')⟩⟩
      rw [e0]
      kernel_rfl
   ·refine .inr ⟨.exit 0,_,by simp,fun K' hK'=>by
     rw [g101_lp,w2]
     intro A1
     exact brn_Fa (decide_eq_false hi) hK',on,trivial,fun K hK=>?_⟩
    have key:loopK N6 (bodyOf Tryz.f75) 0 (finK N6 Tryz.f75 K) (AX.exit 0) (o101 s o true t p a b c d e f a' b' c' d' e' f' x z y l1 l2 on fd i):=Eq.mpr (g101_out s o true t p a b c d e f a' b' c' d' e' f' x z y l1 l2 on fd i K) hK
    unfold o101 at key
    rw [w2] at key
    exact Eq.mp (by kernel_rfl) key
  ·obtain ⟨_,hk⟩:=hv'
   refine ⟨v,trivial,fun K hK=>?_⟩
   rw [g101_in,w3]
   refine brn_Fa rfl ?_
   unfold LoopI
   exact hk K hK p101 _ (by kernel_rfl)
end PF
set_option maxRecDepth 100000
namespace PF
open Go Go.AE Go.Proofs PE
noncomputable def onV (R:List AV) (x z y:Int):Bool:=Classical.epsilon fun v:Bool=>True∧∀ K:List AV→Prop,K [bo v]→evSpec N6 Tryz.f75 [.agg R,.agg [i64 x,i64 z],i64 y] K
noncomputable def sOn:List AV→Option (List Prop×List AV)
 | [.agg [.imm (.str s),.imm (.int .i64 o),.imm (.bool h),.imm (.str t),.imm (.int .i64 p),.imm (.int .i64 a),.imm (.int .i64 b),.imm (.int .i64 c),.imm (.int .i64 d),.imm (.int .i64 e),.imm (.int .i64 f),.imm (.int .i64 a'),.imm (.int .i64 b'),.imm (.int .i64 c'),.imm (.int .i64 d'),.imm (.int .i64 e'),.imm (.int .i64 f')],.agg [.imm (.int .i64 x),.imm (.int .i64 z)],.imm (.int .i64 y)] =>
  some ([okRu o p h (vDay a b c d e f) (vDay a' b' c' d' e' f'),-999999999000≤y,y≤999999999000],[bo (onV (ruC s o h t p (rdC a b c d e f) (rdC a' b' c' d' e' f')) x z y)])
 | _=>none
noncomputable def F26:=addE F25 75 sOn
noncomputable def N7:Cx:=⟨Tryz.prog,F26,noCall,G16,4007⟩
theorem ok101e:∀ args pres res,sOn args = some (pres,res)→SpecOK Tryz.prog G16 75 args pres res:=by
 intro args pres res h
 unfold sOn at h
 split at h
 case h_2=>cases h
 cases h
 exact spec_ok (C:=N6) okF25 noCall_ok Tryz.func75 (by kernel_rfl) (by kernel_rfl) (fun hp=>(Classical.epsilon_spec (on_ex _ _ _ _ _ _ _ _ _ _ _ _ _ _ _ _ _ _ _ _ (hp _ (by simp)) (hp _ (by simp)) (hp _ (by simp)))).2 _ rfl)
theorem okF26:EOK Tryz.prog F26 G16:=addE_ok okF25 ok101e
attribute [local irreducible] evCode evSpec loopB loopK norm
theorem g71_in (s:List UInt8) (o:Int) (h:Bool) (t:List UInt8) (p:Int) (a:Int) (b:Int) (c:Int) (d:Int) (e:Int) (f:Int) (a':Int) (b':Int) (c':Int) (d':Int) (e':Int) (f':Int) (x:Int) (K:List AV→Prop):evSpec N7 Tryz.f57 [.agg (ruC s o h t p (rdC a b c d e f) (rdC a' b' c' d' e' f')),i64 x] K = (let E1:Prop:=((sm (St.mk (lapp [.agg [.imm (.str s),i64 o,bo h,.imm (.str t),i64 p,i64 a,i64 b,i64 c,i64 d,i64 e,i64 f,i64 a',i64 b',i64 c',i64 d',i64 e',i64 f'],i64 x,.ptr 0 0,.dead,.ptr 1 0,i64 (splD x),i64 (splS x)] (lapp (dN 5) (lapp [.agg [.imm (.str s),i64 o,bo h,.imm (.str t),i64 p,i64 a,i64 b,i64 c,i64 d,i64 e,i64 f,i64 a',i64 b',i64 c',i64 d',i64 e',i64 f'],i64 (splD x),i64 (splS x),.agg [i64 (splD x),i64 (splS x)],i64 x,.agg [i64 ((dtV (splD x)).1),i64 ((dtV (splD x)).2.1),i64 ((dtV (splD x)).2.2),i64 (IntKind.wrap .i64 (Int.tdiv (splS x) (3600:Int))),i64 (IntKind.wrap .i64 (Int.tdiv (Int.tmod (splS x) (3600:Int)) (60:Int))),i64 (Int.tmod (splS x) (60:Int)),i64 (wkU (splD x))],i64 ((dtV (splD x)).1),bo (onV (ruC s o h t p (rdC a b c d e f) (rdC a' b' c' d' e' f')) (splD x) (splS x)
 (dtV (splD x)).1)] (dN 10)))) [(0,Ob.mk true 0 (AObj.cells [.imm (.str s),i64 o,bo h,.imm (.str t),i64 p,i64 a,i64 b,i64 c,i64 d,i64 e,i64 f,i64 a',i64 b',i64 c',i64 d',i64 e',i64 f'])),(1,Ob.mk true 0 (AObj.cells [bo false,i64 0,bo false,.imm (.str [])]))] 2 []))); (((-9223372036854775808:Int)≤x∧x≤9223372036854775807∧okRu o p h (vDay a b c d e f) (vDay a' b' c' d' e' f')∧(-999999999000:Int)≤(dtV (splD x)).1∧(dtV (splD x)).1≤999999999000∧E1)∧(-9223372036854775808:Int)≤x∧x≤9223372036854775807∧(okRu o p h (vDay a b c d e f) (vDay a' b' c' d' e' f')∧(-999999999000:Int)≤(dtV (splD x)).1∧(dtV (splD x)).1≤999999999000∧E1)∧okRu o p h (vDay a b c d e f) (vDay a' b' c' d' e' f')∧(-999999999000:Int)≤(dtV (splD x)).1∧(dtV (splD x)).1≤999999999000∧E1)∧brn (onV (ruC s o h t p (rdC a b c d e f) (rdC a' b' c' d' e' f')) (splD x) (splS x) (dtV (splD x)).1) (K [.agg [bo true,i64 p,bo true,.imm (.str t)]]) (K [.agg [bo true,i64 o,bo false,.imm (.str s)]])):=by kernel_rfl
end PF
set_option maxRecDepth 100000
namespace PF
open Go Go.AE Go.Proofs PE
noncomputable def atC (s:List UInt8) (o:Int) (h:Bool) (t:List UInt8) (p a b c d e f a' b' c' d' e' f' x:Int):List AV :=
 [bo true,i64 (bif onV (ruC s o h t p (rdC a b c d e f) (rdC a' b' c' d' e' f')) (splD x) (splS x) (dtV (splD x)).1 then p else o),bo (onV (ruC s o h t p (rdC a b c d e f) (rdC a' b' c' d' e' f')) (splD x) (splS x) (dtV (splD x)).1),.imm (.str (bif onV (ruC s o h t p (rdC a b c d e f) (rdC a' b' c' d' e' f')) (splD x) (splS x) (dtV (splD x)).1 then t else s))]
noncomputable def sAt:List AV→Option (List Prop×List AV)
 | [.agg [.imm (.str s),.imm (.int .i64 o),.imm (.bool h),.imm (.str t),.imm (.int .i64 p),.imm (.int .i64 a),.imm (.int .i64 b),.imm (.int .i64 c),.imm (.int .i64 d),.imm (.int .i64 e),.imm (.int .i64 f),.imm (.int .i64 a'),.imm (.int .i64 b'),.imm (.int .i64 c'),.imm (.int .i64 d'),.imm (.int .i64 e'),.imm (.int .i64 f')],.imm (.int .i64 x)] =>
  some ([okRu o p h (vDay a b c d e f) (vDay a' b' c' d' e' f'),-9223372036854775808≤x,x≤9223372036854775807],[.agg (atC s o h t p a b c d e f a' b' c' d' e' f' x)])
 | _=>none
noncomputable def F27:=addE F26 57 sAt
noncomputable def N8:Cx:=⟨Tryz.prog,F27,noCall,G16,4020⟩
def h70 (L:List Lp) (t i:Int):St:=⟨spr [(0,.imm (.sl 2 (L.map cellsL))),(1,i64 t),(5,i64 i)] 0 26,[],0,[]⟩
def o70 (L:List Lp) (t i:Int):St:=⟨spr [(0,.imm (.sl 2 (L.map cellsL))),(1,i64 t),(5,i64 i),(9,i64 i),(10,bo (decide (i≥0)))] 0 26,[],0,[]⟩
def p70:Plan:=⟨[],msk [0,1,5] 0 26,[]⟩
def h103 (b s:List UInt8) (i:Int):St:=⟨spr [(0,by' b),(6,.imm (.str s)),(7,i64 i)] 0 39,[],0,[]⟩
def p103:Plan:=⟨[],msk [0,6,7] 0 39,[]⟩
attribute [local irreducible] loopK evCode evSpec loopB norm
theorem at_ev (s:List UInt8) (o:Int) (h:Bool) (t:List UInt8) (p a b c d e f a' b' c' d' e' f' x:Int) (hr:okRu o p h (vDay a b c d e f) (vDay a' b' c' d' e' f')) (x1:-9223372036854775808≤x) (x2:x≤9223372036854775807) (K:List AV→Prop)
  (hK:K [.agg (atC s o h t p a b c d e f a' b' c' d' e' f' x)]):evSpec N7 Tryz.f57 [.agg (ruC s o h t p (rdC a b c d e f) (rdC a' b' c' d' e' f')),i64 x] K:=by
 refine Eq.mpr (g71_in s o h t p a b c d e f a' b' c' d' e' f' x K) ?_
 intro E1
 obtain ⟨q1,q2⟩:=spl_rng x1 x2
 obtain ⟨⟨y1,y2⟩,_⟩:=dt_spec q1 q2
 have z1:-999999999000≤(dtV (splD x)).1:=by omega
 have z2:(dtV (splD x)).1≤999999999000:=by omega
 refine ⟨⟨⟨x1,x2,hr,z1,z2,rfl⟩,x1,x2,⟨hr,z1,z2,rfl⟩,hr,z1,z2,rfl⟩,?_⟩
 unfold atC at hK
 cases ho:onV (ruC s o h t p (rdC a b c d e f) (rdC a' b' c' d' e' f')) (splD x) (splS x) (dtV (splD x)).1 with
 | true=>rw [ho] at hK; exact brn_T rfl hK
 | false=>rw [ho] at hK; exact brn_Fa rfl hK
theorem ok71e:∀ args pres res,sAt args = some (pres,res)→SpecOK Tryz.prog G16 57 args pres res:=by
 intro args pres res h
 unfold sAt at h
 split at h
 case h_2=>cases h
 cases h
 exact spec_ok (C:=N7) okF26 noCall_ok Tryz.func57 (by kernel_rfl) (by kernel_rfl) (fun hp=>at_ev _ _ _ _ _ _ _ _ _ _ _ _ _ _ _ _ _ _ (hp _ (by simp)) (hp _ (by simp)) (hp _ (by simp)) _ rfl)
theorem okF27:EOK Tryz.prog F27 G16:=addE_ok okF26 ok71e
end PF
set_option maxRecDepth 100000
namespace PF
open Go Go.AE Go.Proofs PE
attribute [local irreducible] loopK evCode evSpec loopB norm
theorem g70_in (L:List Lp) (t:Int) (K:List AV→Prop):evSpec N8 Tryz.f56 [.imm (.sl 2 (List.map cellsL L)),i64 t] K = (LoopI N8 (bodyOf Tryz.f56) 0 (St.mk (lapp [.imm (.sl 2 (List.map cellsL L)),i64 t,.dead,.dead,i64 0,i64 (IntKind.wrap .i64 ((↑(List.map cellsL L).length:Int) - 1)),.imm (.sl 2 (List.map cellsL L)),i64 (↑(List.map cellsL L).length:Int),i64 (IntKind.wrap .i64 ((↑(List.map cellsL L).length:Int) - 1))] (dN 17)) [] 0 []) (finK N8 Tryz.f56 K)):=by kernel_rfl
theorem g70_lp (L:List Lp) (t:Int) (i:Int) (k:AX→St→Prop):evCode N8 (loopB (bodyOf Tryz.f56) 0) (h70 L t i) k = (brn (decide (i≥0)) ((0:Int)≤i∧i < (↑(List.map cellsL L).length:Int)∧kcells (List.getD (List.map cellsL L) i.toNat []) 0 (lapp [CK.int IntKind.i64] (lapp [CK.int IntKind.i32] [])) = List.getD (List.map cellsL L) i.toNat []∧brn (decide (ivInt (ivNth (List.getD (List.map cellsL L) i.toNat []) 0)≤t)) ((0:Int)≤i∧i < (↑(List.map cellsL L).length:Int)∧kcells (List.getD (List.map cellsL L) i.toNat []) 0 (lapp [CK.int IntKind.i64] (lapp [CK.int IntKind.i32] [])) = List.getD (List.map cellsL L) i.toNat []∧k AX.ret (St.mk [.imm (.sl 2 (List.map cellsL L)),i64 t,.dead,.dead,i64 (IntKind.wrap .i64 (ivInt (ivNth (List.getD (List.map cellsL L) i.toNat []) (0 + 1)))),i64 i,.dead,.dead,.dead,i64 i,bo (decide (i≥0)),.dead,.dead,.imm (.sl 2 (List.map cellsL L)),i64 i,AV.elv [IV.int .i64 (ivInt (ivNth (List.getD (List.map cellsL L) i.toNat []) 0)),IV.int IntKind.i32 (ivInt (ivNth (List.getD (List.map cellsL L) i.toNat []) (0 + 1)))],AV.elv [IV.int .i64 (ivInt (ivNth (List.getD (List.map cellsL L) i.toNat []) 0)),IV.int IntKind.i32
 (ivInt (ivNth (List.getD (List.map cellsL L) i.toNat []) (0 + 1)))],i64 (ivInt (ivNth (List.getD (List.map cellsL L) i.toNat []) 0)),i64 t,bo (decide (ivInt (ivNth (List.getD (List.map cellsL L) i.toNat []) 0)≤t)),.imm (.sl 2 (List.map cellsL L)),i64 i,AV.elv [IV.int .i64 (ivInt (ivNth (List.getD (List.map cellsL L) i.toNat []) 0)),IV.int IntKind.i32 (ivInt (ivNth (List.getD (List.map cellsL L) i.toNat []) (0 + 1)))],AV.elv [IV.int IntKind.i32 (ivInt (ivNth (List.getD (List.map cellsL L) i.toNat []) (0 + 1)))],.imm (.int IntKind.i32 (ivInt (ivNth (List.getD (List.map cellsL L) i.toNat []) (0 + 1)))),i64 (IntKind.wrap .i64 (ivInt (ivNth (List.getD (List.map cellsL L) i.toNat []) (0 + 1))))] [] 0 [])) (k AX.normal (St.mk (lapp [.imm (.sl 2 (List.map cellsL L)),i64 t,.dead,.dead,.dead,i64 (IntKind.wrap .i64 (i - 1)),.dead,.dead,.dead,i64 i,bo (decide (i≥0)),i64 i,i64 (IntKind.wrap .i64 (i - 1)),.imm (.sl 2 (List.map cellsL L)),i64 i,AV.elv [IV.int .i64 (ivInt (ivNth (List.getD (List.map cellsL L) i.toNat []) 0)),IV.int IntKind.i32 (ivInt (ivNth (List.getD (List.map cellsL L) i.toNat []) (0 + 1)))],AV.elv [IV.int .i64 (ivInt (ivNth (List.getD (List.map
 cellsL L) i.toNat []) 0)),IV.int IntKind.i32 (ivInt (ivNth (List.getD (List.map cellsL L) i.toNat []) (0 + 1)))],i64 (ivInt (ivNth (List.getD (List.map cellsL L) i.toNat []) 0)),i64 t,bo (decide (ivInt (ivNth (List.getD (List.map cellsL L) i.toNat []) 0)≤t))] (dN 6)) [] 0 []))) (k (AX.exit 0) (St.mk (lapp [.imm (.sl 2 (List.map cellsL L)),i64 t,.dead,.dead,.dead,i64 i,.dead,.dead,.dead,i64 i,bo (decide (i≥0))] (dN 15)) [] 0 []))):=by kernel_rfl
theorem g70_out (L:List Lp) (t:Int) (i:Int) (K:List AV→Prop):loopK N8 (bodyOf Tryz.f56) 0 (finK N8 Tryz.f56 K) (AX.exit 0) (o70 L t i) = (K [i64 0]):=by kernel_rfl
theorem g103_in (b:List UInt8) (i:Int) (K:List AV→Prop):evSpec N8 Tryz.f77 [by' b,i64 i] K = (brn (decide (i < 0) || decide (i≥(b.length:Int))) (K [.imm (.str []),bo false]) (LoopI N8 (bodyOf Tryz.f77) 0 (St.mk (lapp [by' b,i64 i,.dead,.dead,.imm (.str []),bo false,.imm (.str []),i64 i,i64 i,bo (decide (i < 0)),bo (decide (i < 0)),.opt [(10,false)] (i64 i),.opt [(10,false)] (by' b),.opt [(10,false)] (i64 (b.length:Int)),.opt [(10,false)] (bo (decide (i≥(b.length:Int)))),bo (decide (i < 0) || decide (i≥(b.length:Int))),i64 i] (dN 22)) [] 0 []) (finK N8 Tryz.f77 K))):=by kernel_rfl
theorem g103_lp (b:List UInt8) (s:List UInt8) (i:Int) (k:AX→St→Prop):evCode N8 (loopB (bodyOf Tryz.f77) 0) (h103 b s i) k = ((decide (i < (b.length:Int)) = true→(0:Int)≤i)∧(decide (i < (b.length:Int)) = true→i < (b.length:Int))∧brn (decide (i < (b.length:Int)) && (↑(UInt8.toNat (List.getD b i.toNat (0:UInt8))):Int) != 0) ((0:Int)≤i∧i < (b.length:Int)∧s.length + (List.map u8 [(↑(UInt8.toNat (List.getD b i.toNat (0:UInt8))):Int)]).length≤9223372036854775807∧k AX.normal (St.mk (lapp [by' b] (lapp (dN 5) (lapp [.imm (.str (s ++ List.map u8 [(↑(UInt8.toNat (List.getD b i.toNat (0:UInt8))):Int)])),i64 (IntKind.wrap .i64 (i + 1))] (lapp (dN 9) (lapp [i64 i,by' b,i64 (b.length:Int)] (lapp (dN 8) (lapp [i64 i,i64 (IntKind.wrap .i64 (i + 1))] (dN 9)))))))) [] 0 [])) (k (AX.exit 0) (St.mk (lapp [by' b] (lapp (dN 5) (lapp [.imm (.str s),i64 i] (lapp (dN 9) (lapp [i64 i,by' b,i64 (b.length:Int),bo (decide (i < (b.length:Int))),bo (decide (i < (b.length:Int))),.opt [(21,true)] (by' b),.opt [(21,true)] (i64 i),.opt [(21,true)] (AV.elv [IV.int .u8 (↑(UInt8.toNat (List.getD b i.toNat (0:UInt8))):Int)]),.opt [(21,
 true)] (.imm (.int .u8 (↑(UInt8.toNat (List.getD b i.toNat (0:UInt8))):Int))),.opt [(21,true)] (bo ((↑(UInt8.toNat (List.getD b i.toNat (0:UInt8))):Int) != 0)),bo (decide (i < (b.length:Int)) && (↑(UInt8.toNat (List.getD b i.toNat (0:UInt8))):Int) != 0)] (dN 11)))))) [] 0 []))):=by kernel_rfl
end PF
set_option maxRecDepth 100000
namespace PF
open Go Go.AE Go.Proofs PE
noncomputable def coV (L:List Lp) (t:Int):Int:=Classical.epsilon fun v:Int=>True∧∀ K:List AV→Prop,K [i64 v]→evSpec N8 Tryz.f56 [.imm (.sl 2 (L.map cellsL)),i64 t] K
noncomputable def nmV (b:List UInt8) (i:Int):List UInt8×Bool:=Classical.epsilon fun v:List UInt8×Bool=>True∧∀ K:List AV→Prop,K [.imm (.str v.1),bo v.2]→evSpec N8 Tryz.f77 [by' b,i64 i] K
noncomputable def sCorr:List AV→Option (List Prop×List AV)
 | [.imm (.sl 2 xs),.imm (.int .i64 t)]=>some ([okL xs,(xs.length:Int)≤1000000],[i64 (coV (lps xs) t)])
 | _=>none
noncomputable def sName:List AV→Option (List Prop×List AV)
 | [.imm (.bytes b),.imm (.int .i64 i)]=>some ([(b.length:Int)≤1000000],[.imm (.str (nmV b i).1),bo (nmV b i).2])
 | _=>none
noncomputable def F28:=addE (addE F27 56 sCorr) 77 sName
noncomputable def N9:Cx:=⟨Tryz.prog,F28,noCall,G16,4008⟩
attribute [local irreducible] loopK evCode evSpec loopB norm
theorem getL9 {L:List Lp} {i:Nat} (h:i < L.length):(L.map cellsL).getD i [] = cellsL (L[i]):=by
 rw [List.getD_eq_getElem?_getD,List.getElem?_map,List.getElem?_eq_getElem h]
 first | done | rfl
theorem corr_ex (L:List Lp) (t:Int) (hl:(L.length:Int)≤1000000):∃ v:Int,True∧∀ K:List AV→Prop,K [i64 v]→evSpec N8 Tryz.f56 [.imm (.sl 2 (L.map cellsL)),i64 t] K:=by
 have hlen:(L.map cellsL).length = L.length:=List.length_map _
 have w1:IntKind.wrap .i64 ((L.length:Int) - 1) = (L.length:Int) - 1:=wrap64 (by omega) (by omega)
 refine Exists.elim (loop_det (C:=N8) (c:=loopB (bodyOf Tryz.f56) 0) (fun i:Int=>h70 L t i) (fun i=>-1≤i∧i < L.length) (fun i=>(i + 1).toNat) (fun _:Int=>True) (fun v=>[i64 v])
  (fun K=>loopK N8 (bodyOf Tryz.f56) 0 (finK N8 Tryz.f56 K)) rfl (fun i hs=>?_) ((L.length:Int) - 1) ⟨by omega,by omega⟩) (fun v hv'=>?_)
 ·obtain ⟨i1,i2⟩:=hs
  by_cases h:i≥0
  ·have hi:i.toNat < L.length:=by omega
   have hg:=getL9 hi
   have hk:kcells (List.getD (List.map cellsL L) i.toNat []) 0 (lapp [CK.int IntKind.i64] (lapp [CK.int IntKind.i32] [])) = List.getD (List.map cellsL L) i.toNat []:=by rw [hg]; first | done | rfl
   have hb:i < ((L.map cellsL).length:Int):=by rw [hlen]; exact i2
   by_cases hx:ivInt (ivNth (List.getD (List.map cellsL L) i.toNat []) 0)≤t
   ·refine .inr ⟨.ret,_,by simp,fun K' hK'=>by
     rw [g70_lp]
     exact brn_T (decide_eq_true h) ⟨h,hb,hk,brn_T (decide_eq_true hx) ⟨h,hb,hk,hK'⟩⟩,IntKind.wrap .i64 (ivInt (ivNth (List.getD (List.map cellsL L) i.toNat []) (0 + 1))),trivial,fun K hK=>?_⟩
    exact Eq.mp (by kernel_rfl) hK
   ·have e1:IntKind.wrap .i64 (i - 1) = i - 1:=wrap64 (by omega) (by omega)
    refine .inl ⟨i - 1,p70,_,⟨by omega,by omega⟩,by omega,?_,fun K' hK'=>by
     rw [g70_lp]
     exact brn_T (decide_eq_true h) ⟨h,hb,hk,brn_Fa (decide_eq_false hx) hK'⟩⟩
    rw [e1]
    kernel_rfl
  ·refine .inr ⟨.exit 0,_,by simp,fun K' hK'=>by
    rw [g70_lp]
    exact brn_Fa (decide_eq_false h) hK',0,trivial,fun K hK=>?_⟩
   have key:loopK N8 (bodyOf Tryz.f56) 0 (finK N8 Tryz.f56 K) (AX.exit 0) (o70 L t i):=Eq.mpr (g70_out L t i K) hK
   exact Eq.mp (by kernel_rfl) key
 ·obtain ⟨hv,hk⟩:=hv'
  refine ⟨v,hv,fun K hK=>?_⟩
  rw [g70_in,hlen]
  unfold LoopI
  exact hk K hK p70 _ (by rw [w1]; kernel_rfl)
theorem name_ex (b:List UInt8) (i:Int) (hl:(b.length:Int)≤1000000):∃ v:List UInt8×Bool,True∧∀ K:List AV→Prop,K [.imm (.str v.1),bo v.2]→evSpec N8 Tryz.f77 [by' b,i64 i] K:=by
 by_cases h0:i < 0∨i≥b.length
 ·refine ⟨([],false),trivial,fun K hK=>?_⟩
  rw [g103_in]
  refine brn_T ?_ hK
  rcases h0 with h | h
  ·rw [decide_eq_true h]; first | done | rfl
  ·rw [decide_eq_true h]; exact Bool.or_true _
 ·refine Exists.elim (loop_det (C:=N8) (c:=loopB (bodyOf Tryz.f77) 0) (fun s:Int×List UInt8=>h103 b s.2 s.1) (fun s=>0≤s.1∧s.1≤b.length∧(s.2.length:Int)≤s.1) (fun s=>((b.length:Int) - s.1).toNat) (fun _:List UInt8×Bool=>True) (fun v=>[.imm (.str v.1),bo v.2])
   (fun K=>loopK N8 (bodyOf Tryz.f77) 0 (finK N8 Tryz.f77 K)) rfl (fun s hs=>?_) (i,[]) ⟨by show 0≤i; omega,by show i≤b.length; omega,by show (0:Int)≤i; omega⟩) (fun v hv'=>?_)
  ·obtain ⟨i,s⟩:=s
   obtain ⟨i1,i2,i3⟩:=hs
   simp only at i1 i2 i3
   cases hb:(decide (i < (b.length:Int)) && ((b.getD i.toNat 0).toNat:Int) != 0) with
   | true =>
    have hi:i < (b.length:Int):=of_decide_eq_true ((Bool.and_eq_true _ _).mp hb).1
    have e1:IntKind.wrap .i64 (i + 1) = i + 1:=wrap64 (by omega) (by omega)
    refine .inl ⟨(i + 1,s ++ List.map u8 [((b.getD i.toNat 0).toNat:Int)]),p103,_,⟨by show 0≤i + 1; omega,by show i + 1≤_; omega,by show ((s ++ List.map u8 [((b.getD i.toNat 0).toNat:Int)]).length:Int)≤i + 1; rw [List.length_append]; show ((s.length + 1:Nat):Int)≤i + 1; omega⟩,by show ((b.length:Int) - (i + 1)).toNat < ((b.length:Int) - i).toNat; omega,?_,fun K' hK'=>by
     rw [g103_lp]
     exact ⟨fun _=>i1,fun h=>of_decide_eq_true h,brn_T hb ⟨i1,hi,by show s.length + 1≤_; omega,hK'⟩⟩⟩
    rw [e1]
    kernel_rfl
   | false =>
    refine .inr ⟨.exit 0,_,by simp,fun K' hK'=>by
     rw [g103_lp]
     exact ⟨fun _=>i1,fun h=>of_decide_eq_true h,brn_Fa hb hK'⟩,(s,true),trivial,fun K hK=>?_⟩
    exact Eq.mp (by kernel_rfl) hK
  ·obtain ⟨hv,hk⟩:=hv'
   refine ⟨v,hv,fun K hK=>?_⟩
   rw [g103_in]
   refine brn_Fa ?_ ?_
   ·rw [decide_eq_false (by omega),decide_eq_false (by omega)]; first | done | rfl
   ·unfold LoopI
    exact hk K hK p103 _ (by kernel_rfl)
theorem ok70e:∀ args pres res,sCorr args = some (pres,res)→SpecOK Tryz.prog G16 56 args pres res:=by
 intro args pres res h
 unfold sCorr at h
 split at h
 case h_2=>cases h
 cases h
 rename_i xs t
 refine spec_ok (C:=N8) okF27 noCall_ok Tryz.func56 (by kernel_rfl) (by kernel_rfl) (fun hp=>?_)
 obtain ⟨L,rfl,e,hL⟩:=okL_elim (hp (okL xs) (by simp))
 have h1:=hp (((L.map cellsL).length:Int)≤1000000) (by simp)
 rw [List.length_map] at h1
 rw [e]
 exact (Classical.epsilon_spec (corr_ex L t h1)).2 _ rfl
theorem ok103e:∀ args pres res,sName args = some (pres,res)→SpecOK Tryz.prog G16 77 args pres res:=by
 intro args pres res h
 unfold sName at h
 split at h
 case h_2=>cases h
 cases h
 exact spec_ok (C:=N8) okF27 noCall_ok Tryz.func77 (by kernel_rfl) (by kernel_rfl) (fun hp=>(Classical.epsilon_spec (name_ex _ _ (hp _ (by simp)))).2 _ rfl)
theorem okF28:EOK Tryz.prog F28 G16:=addE_ok (addE_ok okF27 ok70e) ok103e
end PF
set_option maxRecDepth 100000
namespace PF
open Go Go.AE Go.Proofs PE
attribute [local irreducible] loopK evCode evSpec loopB norm
theorem g72_in (T:List Int) (I:List UInt8) (X:List (List IV)) (C:List UInt8) (L:List (List IV)) (S:List Bool) (U:List Bool) (i:Int) (K:List AV→Prop):evSpec N9 Tryz.f58 [blkAV T I X C L S U,i64 i] K = ((0:Int)≤i∧i < (X.length:Int)∧kcells (List.getD X i.toNat []) 0 (lapp [CK.int IntKind.i32] (lapp [CK.bool] (lapp [CK.int IntKind.u8] []))) = List.getD X i.toNat []∧(C.length:Int)≤1000000∧K [.agg [bo true,i64 (IntKind.wrap .i64 (ivInt (ivNth (List.getD X i.toNat []) 0))),bo (ivBool (ivNth (List.getD X i.toNat []) (0 + 1))),.imm (.str (nmV C (IntKind.wrap .i64 (ivInt (ivNth (List.getD X i.toNat []) (0 + 1 + 1))))).1)]]):=by kernel_rfl
end PF
set_option maxRecDepth 100000
namespace PF
open Go Go.AE Go.Proofs PE
noncomputable def trC (X:List (List IV)) (C:List UInt8) (i:Int):List AV:=[bo true,i64 (IntKind.wrap .i64 (ivInt (ivNth (List.getD X i.toNat []) 0))),bo (ivBool (ivNth (List.getD X i.toNat []) (0 + 1))),.imm (.str (nmV C (IntKind.wrap .i64 (ivInt (ivNth (List.getD X i.toNat []) (0 + 1 + 1))))).1)]
noncomputable def sTyRes:List AV→Option (List Prop×List AV)
 | [.agg [.imm (.ints .i64 T),.imm (.bytes I),.imm (.sl 3 X),.imm (.bytes C),.imm (.sl 2 L),.imm (.bools S),.imm (.bools U)],.imm (.int .i64 i)]=>some ([okT X,0≤i,i < (X.length:Int),(C.length:Int)≤1000000],[.agg (trC X C i)])
 | _=>none
noncomputable def F29:=addE F28 58 sTyRes
noncomputable def N10:Cx:=⟨Tryz.prog,F29,noCall,G16,4004⟩
noncomputable def N11:Cx:=⟨Tryz.prog,F29,noCall,G16,4009⟩
def k57 (T:List Int) (i:Int):St:=⟨spr [(0,ii T),(3,i64 i)] 0 21,[],0,[]⟩
def q57:Plan:=⟨[],msk [0,3] 0 21,[]⟩
def xT (X:List Ty):AV:=.imm (.sl 3 (X.map cellsT))
def xL (L:List Lp):AV:=.imm (.sl 2 (L.map cellsL))
def k58 (X:List Ty) (n i:Int):St:=⟨spr [(0,xT X),(1,i64 n),(5,i64 i)] 0 33,[],0,[]⟩
def r58 (X:List Ty) (n i:Int):St:=⟨spr [(0,xT X),(1,i64 n),(5,i64 i),(7,i64 i),(8,xT X),(9,i64 ((X.map cellsT).length:Int)),(10,bo (decide (i < ((X.map cellsT).length:Int))))] 0 33,[],0,[]⟩
def q58:Plan:=⟨[],msk [0,1,5] 0 33,[]⟩
def k58b (X:List Ty) (n i:Int):St:=⟨spr [(0,xT X),(1,i64 n),(6,i64 i)] 0 33,[],0,[]⟩
def q58b:Plan:=⟨[],msk [0,1,6] 0 33,[]⟩
def h92 (b:List UInt8) (i:Int):St:=⟨spr [(0,by' b),(3,i64 i)] 0 38,[],0,[]⟩
def o92 (b:List UInt8) (i:Int):St:=⟨spr [(0,by' b),(3,i64 i),(4,i64 i),(5,by' b),(6,ln b.length),(7,bo (decide (i < (b.length:Int))))] 0 38,[],0,[]⟩
def p92:Plan:=⟨[],msk [0,3] 0 38,[]⟩
def k60 (L:List Lp) (v i:Int):St:=⟨spr [(0,xL L),(1,i64 v),(5,i64 i)] 0 99,[],0,[]⟩
def q60:Plan:=⟨[],msk [0,1,5] 0 99,[]⟩
def k61 (S U:List Bool) (i:Int):St:=⟨spr [(0,oo S),(1,oo U),(5,i64 i)] 0 31,[],0,[]⟩
def q61:Plan:=⟨[],msk [0,1,5] 0 31,[]⟩
attribute [local irreducible] loopK evCode evSpec loopB norm
theorem getT9 {X:List Ty} {i:Nat} (h:i < X.length):(X.map cellsT).getD i [] = cellsT (X[i]):=by
 rw [List.getD_eq_getElem?_getD,List.getElem?_map,List.getElem?_eq_getElem h]
 first | done | rfl
theorem kcT {X:List Ty} {i:Int} (h0:0≤i) (h:i < (X.length:Int)):kcells (List.getD (List.map cellsT X) i.toNat []) 0 (lapp [CK.int IntKind.i32] (lapp [CK.bool] (lapp [CK.int IntKind.u8] []))) = List.getD (List.map cellsT X) i.toNat []:=by
 rw [getT9 (by omega)]; first | done | rfl
theorem kcL {L:List Lp} {i:Int} (h0:0≤i) (h:i < (L.length:Int)):kcells (List.getD (List.map cellsL L) i.toNat []) 0 (lapp [CK.int IntKind.i64] (lapp [CK.int IntKind.i32] [])) = List.getD (List.map cellsL L) i.toNat []:=by
 rw [getL9 (by omega)]; first | done | rfl
theorem ok72e:∀ args pres res,sTyRes args = some (pres,res)→SpecOK Tryz.prog G16 58 args pres res:=by
 intro args pres res h
 unfold sTyRes at h
 split at h
 case h_2=>cases h
 cases h
 rename_i T I X C L S U i
 refine spec_ok (C:=N9) okF28 noCall_ok Tryz.func58 (by kernel_rfl) (by kernel_rfl) (fun hp=>?_)
 have hX:okT X:=hp _ (by simp)
 have h0:0≤i:=hp _ (by simp)
 have h1:i < (X.length:Int):=hp _ (by simp)
 have h2:(C.length:Int)≤1000000:=hp _ (by simp)
 refine Eq.mpr (g72_in T I X C L S U i _) ⟨h0,h1,?_,h2,rfl⟩
 rw [hX.1]
 refine kcT h0 ?_
 rw [hX.1,List.length_map] at h1
 exact h1
theorem okF29:EOK Tryz.prog F29 G16:=addE_ok okF28 ok72e
end PF
set_option maxRecDepth 100000
namespace PF
open Go Go.AE Go.Proofs PE
attribute [local irreducible] loopK evCode evSpec loopB norm
theorem g57_in (T:List Int) (K:List AV→Prop):evSpec N10 Tryz.f51 [ii T] K = (LoopI N10 (bodyOf Tryz.f51) 0 (St.mk (lapp [.imm (.ints IntKind.i64 T),.dead,i64 0,i64 1] (dN 17)) [] 0 []) (finK N10 Tryz.f51 K)):=by kernel_rfl
theorem g57_lp (T:List Int) (i:Int) (k:AX→St→Prop):evCode N10 (loopB (bodyOf Tryz.f51) 0) (k57 T i) k = (let E1:Prop:=((sm (St.mk (lapp [.imm (.ints IntKind.i64 T),.dead,.dead,i64 i] (lapp (dN 6) [.imm (.ints IntKind.i64 T),i64 i,i64 (IntKind.wrap .i64 (i - 1)),AV.elv [IV.int .i64 (List.getD T (IntKind.wrap .i64 (i - 1)).toNat (0:Int))],i64 (List.getD T (IntKind.wrap .i64 (i - 1)).toNat (0:Int)),.imm (.ints IntKind.i64 T),i64 i,AV.elv [IV.int .i64 (List.getD T i.toNat (0:Int))],i64 (List.getD T i.toNat (0:Int)),bo (decide (List.getD T (IntKind.wrap .i64 (i - 1)).toNat (0:Int)≥List.getD T i.toNat (0:Int))),.dead])) [] 0 []))); brn (decide (i < (T.length:Int))) (((0:Int)≤IntKind.wrap .i64 (i - 1)∧IntKind.wrap .i64 (i - 1) < (T.length:Int)∧(0:Int)≤i∧i < (T.length:Int)∧E1∧E1)∧brn (decide (List.getD T (IntKind.wrap .i64 (i - 1)).toNat (0:Int)≥List.getD T i.toNat (0:Int))) (k AX.ret (St.mk (lapp [.imm (.ints IntKind.i64 T),.dead,i64 i,i64 i] (lapp (dN 16) [i64 i])) [] 0 [])) (k AX.normal (St.mk (lapp [.imm (.ints IntKind.i64 T),.dead,.dead,i64 (IntKind.wrap .i64 (i + 1))] (lapp (dN 4) (lapp [i64 i,i64
 (IntKind.wrap .i64 (i + 1))] (dN 11)))) [] 0 []))) (k (AX.exit 0) (St.mk (lapp [.imm (.ints IntKind.i64 T),.dead,.dead,i64 i,i64 i,.imm (.ints IntKind.i64 T),i64 (T.length:Int),bo (decide (i < (T.length:Int)))] (dN 13)) [] 0 []))):=by kernel_rfl
theorem g58_in (X:List Ty) (n:Int) (K:List AV→Prop):evSpec N11 Tryz.f52 [xT X,i64 n] K = (LoopI N11 (bodyOf Tryz.f52) 0 (St.mk (lapp [.imm (.sl 3 (List.map cellsT X)),i64 n,.dead,.dead,i64 0,i64 0] (dN 27)) [] 0 []) (finK N11 Tryz.f52 K)):=by kernel_rfl
theorem g58_lp (X:List Ty) (n:Int) (i:Int) (k:AX→St→Prop):evCode N11 (loopB (bodyOf Tryz.f52) 0) (k58 X n i) k = (brn (decide (i < (↑(List.map cellsT X).length:Int))) ((0:Int)≤i∧i < (↑(List.map cellsT X).length:Int)∧kcells (List.getD (List.map cellsT X) i.toNat []) 0 (lapp [CK.int IntKind.i32] (lapp [CK.bool] (lapp [CK.int IntKind.u8] []))) = List.getD (List.map cellsT X) i.toNat []∧brn (ivInt (ivNth (List.getD (List.map cellsT X) i.toNat []) 0) == (-2147483648:Int)) (k AX.ret (St.mk (lapp [.imm (.sl 3 (List.map cellsT X)),i64 n,.dead,.dead,i64 9,i64 i,.dead,i64 i,.imm (.sl 3 (List.map cellsT X))] (dN 24)) [] 0 [])) (k AX.normal (St.mk (lapp [.imm (.sl 3 (List.map cellsT X)),i64 n,.dead,.dead,.dead,i64 (IntKind.wrap .i64 (i + 1)),.dead,i64 i,.imm (.sl 3 (List.map cellsT X)),.dead,.dead,i64 i,i64 (IntKind.wrap .i64 (i + 1))] (dN 20)) [] 0 []))) (k (AX.exit 0) (St.mk (lapp [.imm (.sl 3 (List.map cellsT X)),i64 n,.dead,.dead,.dead,i64 i,.dead,i64 i,.imm (.sl 3 (List.map cellsT X)),i64 (↑(List.map cellsT X).length:Int),bo (decide (i < (↑(List.map cellsT X).length:Int)))] (dN 22)) [] 0 []))):=by kernel_rfl
theorem g58_out (X:List Ty) (n:Int) (i:Int) (K:List AV→Prop):loopK N11 (bodyOf Tryz.f52) 0 (finK N11 Tryz.f52 K) (AX.exit 0) (r58 X n i) = (LoopI N11 (bodyOf Tryz.f52) 1 (St.mk (lapp [.imm (.sl 3 (List.map cellsT X)),i64 n,.dead,.dead,.dead,i64 i,i64 0,i64 i,.imm (.sl 3 (List.map cellsT X))] (dN 24)) [] 0 []) (finK N11 Tryz.f52 K)):=by kernel_rfl
theorem g58_lp2 (X:List Ty) (n:Int) (i:Int) (k:AX→St→Prop):evCode N11 (loopB (bodyOf Tryz.f52) 1) (k58b X n i) k = (brn (decide (i < (↑(List.map cellsT X).length:Int))) ((0:Int)≤i∧i < (↑(List.map cellsT X).length:Int)∧kcells (List.getD (List.map cellsT X) i.toNat []) 0 (lapp [CK.int IntKind.i32] (lapp [CK.bool] (lapp [CK.int IntKind.u8] []))) = List.getD (List.map cellsT X) i.toNat []∧brn (decide (IntKind.wrap .i64 (ivInt (ivNth (List.getD (List.map cellsT X) i.toNat []) (0 + 1 + 1)))≥n)) (k AX.ret (St.mk (lapp [.imm (.sl 3 (List.map cellsT X)),i64 n,.dead,.dead,i64 8,.dead,i64 i] (dN 26)) [] 0 [])) (k AX.normal (St.mk (lapp [.imm (.sl 3 (List.map cellsT X)),i64 n] (lapp (dN 4) (lapp [i64 (IntKind.wrap .i64 (i + 1))] (lapp (dN 16) (lapp [i64 i,i64 (IntKind.wrap .i64 (i + 1))] (dN 8)))))) [] 0 []))) (k (AX.exit 2) (St.mk (lapp [.imm (.sl 3 (List.map cellsT X)),i64 n] (lapp (dN 4) (lapp [i64 i] (lapp (dN 12) (lapp [i64 i,.imm (.sl 3 (List.map cellsT X)),i64 (↑(List.map cellsT X).length:Int),bo (decide (i < (↑(List.map cellsT X).length:Int)))] (dN 10)))))) [] 0 []))):=by kernel_rfl
theorem g92_in (b:List UInt8) (K:List AV→Prop):evSpec N10 Tryz.f73 [by' b] K = (LoopI N10 (bodyOf Tryz.f73) 0 (St.mk (lapp [by' b,.dead,i64 0,i64 0] (dN 34)) [] 0 []) (finK N10 Tryz.f73 K)):=by kernel_rfl
theorem g92_lp (b:List UInt8) (i:Int) (k:AX→St→Prop):evCode N10 (loopB (bodyOf Tryz.f73) 0) (h92 b i) k = (brn (decide (i < (b.length:Int))) ((0:Int)≤i∧i < (b.length:Int)∧(((↑(UInt8.toNat (List.getD b i.toNat (0:UInt8))):Int) != 0) = true→(0:Int)≤i)∧(((↑(UInt8.toNat (List.getD b i.toNat (0:UInt8))):Int) != 0) = true→i < (b.length:Int))∧brn ((↑(UInt8.toNat (List.getD b i.toNat (0:UInt8))):Int) != 0 && !alwU (↑(UInt8.toNat (List.getD b i.toNat (0:UInt8))):Int)) (k AX.ret (St.mk (lapp [by' b,.dead,i64 i,i64 i] (lapp (dN 19) (lapp [i64 i] (dN 14)))) [] 0 [])) (k AX.normal (St.mk (lapp [by' b,.dead,.dead,i64 (IntKind.wrap .i64 (i + 1))] (lapp (dN 4) (lapp [i64 i,i64 (IntKind.wrap .i64 (i + 1))] (dN 28)))) [] 0 []))) (k (AX.exit 0) (St.mk (lapp [by' b,.dead,.dead,i64 i,i64 i,by' b,i64 (b.length:Int),bo (decide (i < (b.length:Int)))] (dN 30)) [] 0 []))):=by kernel_rfl
theorem g92_out (b:List UInt8) (i:Int) (K:List AV→Prop):loopK N10 (bodyOf Tryz.f73) 0 (finK N10 Tryz.f73 K) (AX.exit 0) (o92 b i) = ((decide ((b.length:Int) > 0) = true→(0:Int)≤IntKind.wrap .i64 ((b.length:Int) - 1))∧(decide ((b.length:Int) > 0) = true→IntKind.wrap .i64 ((b.length:Int) - 1) < (b.length:Int))∧brn (decide ((b.length:Int) > 0) && (↑(UInt8.toNat (List.getD b (IntKind.wrap .i64 ((b.length:Int) - 1)).toNat (0:UInt8))):Int) == 0) (K [i64 (-1:Int)]) (K [i64 (b.length:Int)])):=by kernel_rfl
theorem g60_in (L:List Lp) (v:Int) (K:List AV→Prop):evSpec N11 Tryz.f41 [xL L,i64 v] K = (LoopI N11 (bodyOf Tryz.f41) 0 (St.mk (lapp [.imm (.sl 2 (List.map cellsL L)),i64 v,.dead,.dead,bo false,i64 0] (dN 93)) [] 0 []) (finK N11 Tryz.f41 K)):=by kernel_rfl
theorem g60_lp (L:List Lp) (v:Int) (i:Int) (k:AX→St→Prop):evCode N11 (loopB (bodyOf Tryz.f41) 0) (k60 L v i) k = (let A4:Prop:=((k AX.ret (St.mk (lapp [.imm (.sl 2 (List.map cellsL L)),i64 v,.dead,.dead,bo false,i64 i,i64 (IntKind.wrap .i64 (ivInt (ivNth (List.getD (List.map cellsL L) i.toNat []) (0 + 1)))),i64 (IntKind.wrap .i64 (IntKind.wrap .i64 (ivInt (ivNth (List.getD (List.map cellsL L) i.toNat []) (0 + 1))) - IntKind.wrap .i64 (ivInt (ivNth (List.getD (List.map cellsL L) (IntKind.wrap .i64 (i - 1)).toNat []) (0 + 1))))),bo (i == IntKind.wrap .i64 ((↑(List.map cellsL L).length:Int) - 1))] (dN 90)) [] 0 []))); brn (decide (i < (↑(List.map cellsL L).length:Int))) ((0:Int)≤i∧i < (↑(List.map cellsL L).length:Int)∧kcells (List.getD (List.map cellsL L) i.toNat []) 0 (lapp [CK.int IntKind.i64] (lapp [CK.int IntKind.i32] [])) = List.getD (List.map cellsL L) i.toNat []∧brn (i == 0) ((0:Int)≤0∧(0:Int) < (↑(List.map cellsL L).length:Int)∧kcells (List.getD (List.map cellsL L) (0:Int).toNat []) 0 (lapp [CK.int IntKind.i64] (lapp [CK.int IntKind.i32] [])) = List.getD (List.map cellsL L) (0:Int).toNat []∧brn (decide (ivInt (ivNth
 (List.getD (List.map cellsL L) (0:Int).toNat []) 0) < 0) || decide (v < 4) && IntKind.wrap .i64 (ivInt (ivNth (List.getD (List.map cellsL L) i.toNat []) (0 + 1))) != 1 && IntKind.wrap .i64 (ivInt (ivNth (List.getD (List.map cellsL L) i.toNat []) (0 + 1))) != (-1:Int)) (k AX.ret (St.mk (lapp [.imm (.sl 2 (List.map cellsL L)),i64 v,.dead,.dead,bo false,i64 i,i64 (IntKind.wrap .i64 (ivInt (ivNth (List.getD (List.map cellsL L) i.toNat []) (0 + 1))))] (dN 92)) [] 0 [])) (k AX.normal (St.mk (lapp [.imm (.sl 2 (List.map cellsL L)),i64 v,.dead,.dead,.dead,i64 (IntKind.wrap .i64 (i + 1)),i64 (IntKind.wrap .i64 (ivInt (ivNth (List.getD (List.map cellsL L) i.toNat []) (0 + 1))))] (lapp (dN 6) (lapp [i64 i,i64 (IntKind.wrap .i64 (i + 1))] (dN 84)))) [] 0 []))) ((0:Int)≤IntKind.wrap .i64 (i - 1)∧IntKind.wrap .i64 (i - 1) < (↑(List.map cellsL L).length:Int)∧kcells (List.getD (List.map cellsL L) (IntKind.wrap .i64 (i - 1)).toNat []) 0 (lapp [CK.int IntKind.i64] (lapp [CK.int IntKind.i32] [])) = List.getD (List.map cellsL L) (IntKind.wrap .i64 (i - 1)).toNat []∧(0:Int)≤i∧i < (↑(List.map cellsL L).length:Int)∧kcells (List.getD (List.map cellsL L) i.toNat []) 0
 (lapp [CK.int IntKind.i64] (lapp [CK.int IntKind.i32] [])) = List.getD (List.map cellsL L) i.toNat []∧(0:Int)≤IntKind.wrap .i64 (i - 1)∧IntKind.wrap .i64 (i - 1) < (↑(List.map cellsL L).length:Int)∧kcells (List.getD (List.map cellsL L) (IntKind.wrap .i64 (i - 1)).toNat []) 0 (lapp [CK.int IntKind.i64] (lapp [CK.int IntKind.i32] [])) = List.getD (List.map cellsL L) (IntKind.wrap .i64 (i - 1)).toNat []∧brn (decide (ivInt (ivNth (List.getD (List.map cellsL L) i.toNat []) 0) < ivInt (ivNth (List.getD (List.map cellsL L) (IntKind.wrap .i64 (i - 1)).toNat []) 0))) A4 ((0:Int)≤i∧i < (↑(List.map cellsL L).length:Int)∧kcells (List.getD (List.map cellsL L) i.toNat []) 0 (lapp [CK.int IntKind.i64] (lapp [CK.int IntKind.i32] [])) = List.getD (List.map cellsL L) i.toNat []∧(0:Int)≤IntKind.wrap .i64 (i - 1)∧IntKind.wrap .i64 (i - 1) < (↑(List.map cellsL L).length:Int)∧kcells (List.getD (List.map cellsL L) (IntKind.wrap .i64 (i - 1)).toNat []) 0 (lapp [CK.int IntKind.i64] (lapp [CK.int IntKind.i32] [])) = List.getD (List.map cellsL L) (IntKind.wrap .i64 (i - 1)).toNat []∧brn (decide (IntKind.wrap .i64 (ivInt (ivNth (List.getD (List.map cellsL L) i.toNat []) 0)
 - ivInt (ivNth (List.getD (List.map cellsL L) (IntKind.wrap .i64 (i - 1)).toNat []) 0)) < 2419199)) A4 (brn (IntKind.wrap .i64 (IntKind.wrap .i64 (ivInt (ivNth (List.getD (List.map cellsL L) i.toNat []) (0 + 1))) - IntKind.wrap .i64 (ivInt (ivNth (List.getD (List.map cellsL L) (IntKind.wrap .i64 (i - 1)).toNat []) (0 + 1)))) != 1 && IntKind.wrap .i64 (IntKind.wrap .i64 (ivInt (ivNth (List.getD (List.map cellsL L) i.toNat []) (0 + 1))) - IntKind.wrap .i64 (ivInt (ivNth (List.getD (List.map cellsL L) (IntKind.wrap .i64 (i - 1)).toNat []) (0 + 1)))) != (-1:Int) && (IntKind.wrap .i64 (IntKind.wrap .i64 (ivInt (ivNth (List.getD (List.map cellsL L) i.toNat []) (0 + 1))) - IntKind.wrap .i64 (ivInt (ivNth (List.getD (List.map cellsL L) (IntKind.wrap .i64 (i - 1)).toNat []) (0 + 1)))) != 0 || decide (v < 4) || !i == IntKind.wrap .i64 ((↑(List.map cellsL L).length:Int) - 1))) (k AX.ret (St.mk (lapp [.imm (.sl 2 (List.map cellsL L)),i64 v,.dead,.dead,bo false,i64 i,i64 (IntKind.wrap .i64 (ivInt (ivNth (List.getD (List.map cellsL L) i.toNat []) (0 + 1)))),i64 (IntKind.wrap .i64 (IntKind.wrap .i64 (ivInt (ivNth (List.getD (List.map cellsL L) i.toNat []) (0 + 1))) - IntKind.wrap .i64
 (ivInt (ivNth (List.getD (List.map cellsL L) (IntKind.wrap .i64 (i - 1)).toNat []) (0 + 1))))),bo (i == IntKind.wrap .i64 ((↑(List.map cellsL L).length:Int) - 1))] (dN 90)) [] 0 [])) (k AX.normal (St.mk (lapp [.imm (.sl 2 (List.map cellsL L)),i64 v,.dead,.dead,.dead,i64 (IntKind.wrap .i64 (i + 1)),i64 (IntKind.wrap .i64 (ivInt (ivNth (List.getD (List.map cellsL L) i.toNat []) (0 + 1)))),i64 (IntKind.wrap .i64 (IntKind.wrap .i64 (ivInt (ivNth (List.getD (List.map cellsL L) i.toNat []) (0 + 1))) - IntKind.wrap .i64 (ivInt (ivNth (List.getD (List.map cellsL L) (IntKind.wrap .i64 (i - 1)).toNat []) (0 + 1))))),bo (i == IntKind.wrap .i64 ((↑(List.map cellsL L).length:Int) - 1))] (lapp (dN 4) (lapp [i64 i,i64 (IntKind.wrap .i64 (i + 1))] (dN 84)))) [] 0 [])))))) (k (AX.exit 0) (St.mk (lapp [.imm (.sl 2 (List.map cellsL L)),i64 v,.dead,.dead,.dead,i64 i,.dead,.dead,.dead,i64 i,.imm (.sl 2 (List.map cellsL L)),i64 (↑(List.map cellsL L).length:Int),bo (decide (i < (↑(List.map cellsL L).length:Int)))] (dN 86)) [] 0 []))):=by kernel_rfl
theorem g61_in (S:List Bool) (U:List Bool) (K:List AV→Prop):evSpec N11 Tryz.f54 [oo S,oo U] K = (LoopI N11 (bodyOf Tryz.f54) 0 (St.mk (lapp [.imm (.bools S),.imm (.bools U),.dead,.dead,bo false,i64 0] (dN 25)) [] 0 []) (finK N11 Tryz.f54 K)):=by kernel_rfl
theorem g61_lp (S:List Bool) (U:List Bool) (i:Int) (k:AX→St→Prop):evCode N11 (loopB (bodyOf Tryz.f54) 0) (k61 S U i) k = (brn (decide (i < (U.length:Int))) ((decide (i < (S.length:Int)) = true→(0:Int)≤i)∧(decide (i < (S.length:Int)) = true→i < (S.length:Int))∧(0:Int)≤i∧i < (U.length:Int)∧brn (List.getD U i.toNat false && !(decide (i < (S.length:Int)) && List.getD S i.toNat false)) (k AX.ret (St.mk (lapp [.imm (.bools S),.imm (.bools U),.dead,.dead,bo false,i64 i,bo (decide (i < (S.length:Int)) && List.getD S i.toNat false),i64 i,.imm (.bools U)] (dN 22)) [] 0 [])) (k AX.normal (St.mk (lapp [.imm (.bools S),.imm (.bools U),.dead,.dead,.dead,i64 (IntKind.wrap .i64 (i + 1)),bo (decide (i < (S.length:Int)) && List.getD S i.toNat false),i64 i,.imm (.bools U),.dead,.dead,i64 i,i64 (IntKind.wrap .i64 (i + 1))] (dN 18)) [] 0 []))) (k (AX.exit 0) (St.mk (lapp [.imm (.bools S),.imm (.bools U),.dead,.dead,.dead,i64 i,.dead,i64 i,.imm (.bools U),i64 (U.length:Int),bo (decide (i < (U.length:Int)))] (dN 20)) [] 0 []))):=by kernel_rfl
theorem w1 {i:Int} (h0:0≤i) (h:i≤10000000000):IntKind.wrap .i64 (i + 1) = i + 1:=wrap64 (by omega) (by omega)
def ascP (T:List Int):Prop:=∀ j:Nat,j + 1 < T.length→T.getD j 0 < T.getD (j + 1) 0
theorem desc_ex (T:List Int) (hl:(T.length:Int)≤1000000):∃ v:Int,(v = -1→ascP T)∧∀ K:List AV→Prop,K [i64 v]→evSpec N10 Tryz.f51 [ii T] K:=by
 refine Exists.elim (loop_det (C:=N10) (c:=loopB (bodyOf Tryz.f51) 0) (fun i:Int=>k57 T i) (fun i=>1≤i∧i≤T.length + 1∧∀ j:Nat,(j:Int) + 1 < i→T.getD j 0 < T.getD (j + 1) 0) (fun i=>((T.length:Int) + 1 - i).toNat) (fun v:Int=>v = -1→ascP T) (fun v=>[i64 v])
  (fun K=>loopK N10 (bodyOf Tryz.f51) 0 (finK N10 Tryz.f51 K)) rfl (fun i hs=>?_) 1 ⟨Int.le_refl 1,by omega,fun j hj=>by omega⟩) (fun v hv'=>?_)
 ·obtain ⟨i1,i2,i3⟩:=hs
  have e0:IntKind.wrap .i64 (i - 1) = i - 1:=wrap64 (by omega) (by omega)
  by_cases h:i < T.length
  ·have b1:0≤i - 1:=by omega
   have b2:i - 1 < T.length:=by omega
   have b3:0≤i:=by omega
   by_cases hx:List.getD T (Int.toNat (i - 1)) 0≥List.getD T i.toNat 0
   ·refine .inr ⟨.ret,_,by simp,fun K' hK'=>by
     rw [g57_lp]
     intro E1
     rw [e0]
     exact brn_T (decide_eq_true h) ⟨⟨b1,b2,b3,h,rfl,rfl⟩,brn_T (decide_eq_true hx) hK'⟩,i,fun e=>by omega,fun K hK=>?_⟩
    exact Eq.mp (by kernel_rfl) hK
   ·refine .inl ⟨i + 1,q57,_,⟨by omega,by omega,fun j hj=>?_⟩,by omega,?_,fun K' hK'=>by
     rw [g57_lp]
     intro E1
     rw [e0]
     exact brn_T (decide_eq_true h) ⟨⟨b1,b2,b3,h,rfl,rfl⟩,brn_Fa (decide_eq_false hx) hK'⟩⟩
    ·by_cases hji:(j:Int) + 1 = i
     ·have q1:(i - 1).toNat = j:=by omega
      have q2:i.toNat = j + 1:=by omega
      rw [q1,q2] at hx
      omega
     ·exact i3 j (by omega)
    ·rw [w1 (by omega) (by omega)]
     kernel_rfl
  ·refine .inr ⟨.exit 0,_,by simp,fun K' hK'=>by
    rw [g57_lp]
    intro E1
    exact brn_Fa (decide_eq_false h) hK',-1,fun _ j hj=>i3 j (by omega),fun K hK=>?_⟩
   exact Eq.mp (by kernel_rfl) hK
 ·obtain ⟨hv,hk⟩:=hv'
  refine ⟨v,hv,fun K hK=>?_⟩
  rw [g57_in]
  unfold LoopI
  exact hk K hK q57 _ (by kernel_rfl)
theorem chk_ex (X:List Ty) (n:Int) (hl:(X.length:Int)≤1000000):∃ v:Int,True∧∀ K:List AV→Prop,K [i64 v]→evSpec N11 Tryz.f52 [xT X,i64 n] K:=by
 have hlen:(X.map cellsT).length = X.length:=List.length_map _
 have second:∃ v:Int,True∧∀ K:List AV→Prop,K [i64 v]→∀ p st,norm p st = some (k58b X n 0)→evCode N11 (.loop (loopB (bodyOf Tryz.f52) 1)) st (loopK N11 (bodyOf Tryz.f52) 1 (finK N11 Tryz.f52 K)):=by
  refine loop_det (C:=N11) (c:=loopB (bodyOf Tryz.f52) 1) (fun i:Int=>k58b X n i) (fun i=>0≤i∧i≤X.length) (fun i=>((X.length:Int) - i).toNat) (fun _:Int=>True) (fun v=>[i64 v])
   (fun K=>loopK N11 (bodyOf Tryz.f52) 1 (finK N11 Tryz.f52 K)) rfl (fun i hs=>?_) 0 ⟨Int.le_refl 0,by omega⟩
  obtain ⟨i1,i2⟩:=hs
  by_cases h:i < X.length
  ·have hb:i < ((X.map cellsT).length:Int):=by rw [hlen]; exact h
   have hk:=kcT i1 h
   by_cases hx:IntKind.wrap .i64 (ivInt (ivNth (List.getD (List.map cellsT X) i.toNat []) (0 + 1 + 1)))≥n
   ·refine .inr ⟨.ret,_,by simp,fun K' hK'=>by
     rw [g58_lp2]
     exact brn_T (decide_eq_true hb) ⟨i1,hb,hk,brn_T (decide_eq_true hx) hK'⟩,8,trivial,fun K hK=>?_⟩
    exact Eq.mp (by kernel_rfl) hK
   ·refine .inl ⟨i + 1,q58b,_,⟨by omega,by omega⟩,by omega,?_,fun K' hK'=>by
     rw [g58_lp2]
     exact brn_T (decide_eq_true hb) ⟨i1,hb,hk,brn_Fa (decide_eq_false hx) hK'⟩⟩
    rw [w1 (by omega) (by omega)]
    kernel_rfl
  ·refine .inr ⟨.exit 2,_,by simp,fun K' hK'=>by
    rw [g58_lp2]
    exact brn_Fa (decide_eq_false (by rw [hlen]; exact h)) hK',0,trivial,fun K hK=>?_⟩
   exact Eq.mp (by kernel_rfl) hK
 refine Exists.elim (loop_det (C:=N11) (c:=loopB (bodyOf Tryz.f52) 0) (fun i:Int=>k58 X n i) (fun i=>0≤i∧i≤X.length) (fun i=>((X.length:Int) - i).toNat) (fun _:Int=>True) (fun v=>[i64 v])
  (fun K=>loopK N11 (bodyOf Tryz.f52) 0 (finK N11 Tryz.f52 K)) rfl (fun i hs=>?_) 0 ⟨Int.le_refl 0,by omega⟩) (fun v hv'=>?_)
 ·obtain ⟨i1,i2⟩:=hs
  by_cases h:i < X.length
  ·have hb:i < ((X.map cellsT).length:Int):=by rw [hlen]; exact h
   have hk:=kcT i1 h
   cases hx:(ivInt (ivNth (List.getD (List.map cellsT X) i.toNat []) 0) == -2147483648) with
   | true =>
    refine .inr ⟨.ret,_,by simp,fun K' hK'=>by
     rw [g58_lp]
     exact brn_T (decide_eq_true hb) ⟨i1,hb,hk,brn_T hx hK'⟩,9,trivial,fun K hK=>?_⟩
    exact Eq.mp (by kernel_rfl) hK
   | false =>
    refine .inl ⟨i + 1,q58,_,⟨by omega,by omega⟩,by omega,?_,fun K' hK'=>by
     rw [g58_lp]
     exact brn_T (decide_eq_true hb) ⟨i1,hb,hk,brn_Fa hx hK'⟩⟩
    rw [w1 (by omega) (by omega)]
    kernel_rfl
  ·obtain ⟨v,hv,hk⟩:=second
   refine .inr ⟨.exit 0,_,by simp,fun K' hK'=>by
    rw [g58_lp]
    exact brn_Fa (decide_eq_false (by rw [hlen]; exact h)) hK',v,trivial,fun K hK=>?_⟩
   have key:loopK N11 (bodyOf Tryz.f52) 0 (finK N11 Tryz.f52 K) (AX.exit 0) (r58 X n i):=by
    refine Eq.mpr (g58_out X n i K) ?_
    unfold LoopI
    exact hk K hK q58b _ (by kernel_rfl)
   exact Eq.mp (by kernel_rfl) key
 ·obtain ⟨hv,hk⟩:=hv'
  refine ⟨v,hv,fun K hK=>?_⟩
  rw [g58_in]
  unfold LoopI
  exact hk K hK q58 _ (by kernel_rfl)
theorem bad_ex (b:List UInt8) (hl:(b.length:Int)≤1000000):∃ v:Int,True∧∀ K:List AV→Prop,K [i64 v]→evSpec N10 Tryz.f73 [by' b] K:=by
 refine Exists.elim (loop_det (C:=N10) (c:=loopB (bodyOf Tryz.f73) 0) (fun i:Int=>h92 b i) (fun i=>0≤i∧i≤b.length) (fun i=>((b.length:Int) - i).toNat) (fun _:Int=>True) (fun v=>[i64 v])
  (fun K=>loopK N10 (bodyOf Tryz.f73) 0 (finK N10 Tryz.f73 K)) rfl (fun i hs=>?_) 0 ⟨Int.le_refl 0,by omega⟩) (fun v hv'=>?_)
 ·obtain ⟨i1,i2⟩:=hs
  by_cases h:i < b.length
  ·cases hx:(((b.getD i.toNat 0).toNat:Int) != 0 && !alwU ((b.getD i.toNat 0).toNat:Int)) with
   | true =>
    refine .inr ⟨.ret,_,by simp,fun K' hK'=>by
     rw [g92_lp]
     exact brn_T (decide_eq_true h) ⟨i1,h,fun _=>i1,fun _=>h,brn_T hx hK'⟩,i,trivial,fun K hK=>?_⟩
    exact Eq.mp (by kernel_rfl) hK
   | false =>
    refine .inl ⟨i + 1,p92,_,⟨by omega,by omega⟩,by omega,?_,fun K' hK'=>by
     rw [g92_lp]
     exact brn_T (decide_eq_true h) ⟨i1,h,fun _=>i1,fun _=>h,brn_Fa hx hK'⟩⟩
    rw [w1 (by omega) (by omega)]
    kernel_rfl
  ·have hw:IntKind.wrap .i64 ((b.length:Int) - 1) = (b.length:Int) - 1:=wrap64 (by omega) (by omega)
   have c1:decide ((b.length:Int) > 0) = true→0≤IntKind.wrap .i64 ((b.length:Int) - 1):=fun h=>by
    have:=of_decide_eq_true h
    rw [hw]; omega
   have c2:decide ((b.length:Int) > 0) = true→IntKind.wrap .i64 ((b.length:Int) - 1) < (b.length:Int):=fun h=>by
    rw [hw]; omega
   cases hx:(decide ((b.length:Int) > 0) && ((b.getD (Int.toNat (IntKind.wrap .i64 ((b.length:Int) - 1))) 0).toNat:Int) == 0) with
   | true =>
    refine .inr ⟨.exit 0,_,by simp,fun K' hK'=>by
     rw [g92_lp]
     exact brn_Fa (decide_eq_false h) hK',-1,trivial,fun K hK=>?_⟩
    have key:loopK N10 (bodyOf Tryz.f73) 0 (finK N10 Tryz.f73 K) (AX.exit 0) (o92 b i):=Eq.mpr (g92_out b i K) ⟨c1,c2,brn_T hx hK⟩
    exact Eq.mp (by kernel_rfl) key
   | false =>
    refine .inr ⟨.exit 0,_,by simp,fun K' hK'=>by
     rw [g92_lp]
     exact brn_Fa (decide_eq_false h) hK',(b.length:Int),trivial,fun K hK=>?_⟩
    have key:loopK N10 (bodyOf Tryz.f73) 0 (finK N10 Tryz.f73 K) (AX.exit 0) (o92 b i):=Eq.mpr (g92_out b i K) ⟨c1,c2,brn_Fa hx hK⟩
    exact Eq.mp (by kernel_rfl) key
 ·obtain ⟨hv,hk⟩:=hv'
  refine ⟨v,hv,fun K hK=>?_⟩
  rw [g92_in]
  unfold LoopI
  exact hk K hK p92 _ (by kernel_rfl)
theorem con_ex (S U:List Bool) (hl:(U.length:Int)≤1000000):∃ v:Bool,True∧∀ K:List AV→Prop,K [bo v]→evSpec N11 Tryz.f54 [oo S,oo U] K:=by
 refine Exists.elim (loop_det (C:=N11) (c:=loopB (bodyOf Tryz.f54) 0) (fun i:Int=>k61 S U i) (fun i=>0≤i∧i≤U.length) (fun i=>((U.length:Int) - i).toNat) (fun _:Bool=>True) (fun v=>[bo v])
  (fun K=>loopK N11 (bodyOf Tryz.f54) 0 (finK N11 Tryz.f54 K)) rfl (fun i hs=>?_) 0 ⟨Int.le_refl 0,by omega⟩) (fun v hv'=>?_)
 ·obtain ⟨i1,i2⟩:=hs
  by_cases h:i < U.length
  ·cases hx:(List.getD U i.toNat false && !(decide (i < (S.length:Int)) && List.getD S i.toNat false)) with
   | true =>
    refine .inr ⟨.ret,_,by simp,fun K' hK'=>by
     rw [g61_lp]
     exact brn_T (decide_eq_true h) ⟨fun _=>i1,fun h=>of_decide_eq_true h,i1,h,brn_T hx hK'⟩,false,trivial,fun K hK=>?_⟩
    exact Eq.mp (by kernel_rfl) hK
   | false =>
    refine .inl ⟨i + 1,q61,_,⟨by omega,by omega⟩,by omega,?_,fun K' hK'=>by
     rw [g61_lp]
     exact brn_T (decide_eq_true h) ⟨fun _=>i1,fun h=>of_decide_eq_true h,i1,h,brn_Fa hx hK'⟩⟩
    rw [w1 (by omega) (by omega)]
    kernel_rfl
  ·refine .inr ⟨.exit 0,_,by simp,fun K' hK'=>by
    rw [g61_lp]
    exact brn_Fa (decide_eq_false h) hK',true,trivial,fun K hK=>?_⟩
   exact Eq.mp (by kernel_rfl) hK
 ·obtain ⟨hv,hk⟩:=hv'
  refine ⟨v,hv,fun K hK=>?_⟩
  rw [g61_in]
  unfold LoopI
  exact hk K hK q61 _ (by kernel_rfl)
def gdL (L:List Lp) (n i:Int):Bool:=bif i == (0:Int) then !(decide (ivInt (ivNth (List.getD (List.map cellsL L) (Int.toNat (0:Int)) []) (0:Nat)) < (0:Int)) || decide (n < (4:Int)) && IntKind.wrap IntKind.i64 (ivInt (ivNth (List.getD (List.map cellsL L) (Int.toNat i) []) ((0:Nat) + (1:Nat)))) != (1:Int) && IntKind.wrap IntKind.i64 (ivInt (ivNth (List.getD (List.map cellsL L) (Int.toNat i) []) ((0:Nat) + (1:Nat)))) != (-1:Int))
 else !(decide (ivInt (ivNth (List.getD (List.map cellsL L) (Int.toNat i) []) (0:Nat)) < ivInt (ivNth (List.getD (List.map cellsL L) (Int.toNat (i - (1:Int))) []) (0:Nat)))) && (!(decide (IntKind.wrap IntKind.i64 (ivInt (ivNth (List.getD (List.map cellsL L) (Int.toNat i) []) (0:Nat)) - ivInt (ivNth (List.getD (List.map cellsL L) (Int.toNat (i - (1:Int))) []) (0:Nat))) < (2419199:Int))) && !(IntKind.wrap IntKind.i64 (IntKind.wrap IntKind.i64 (ivInt (ivNth (List.getD (List.map cellsL L) (Int.toNat i) []) ((0:Nat) + (1:Nat)))) - IntKind.wrap IntKind.i64 (ivInt (ivNth (List.getD (List.map cellsL L) (Int.toNat (i - (1:Int))) []) ((0:Nat) + (1:Nat))))) != (1:Int) && IntKind.wrap IntKind.i64 (IntKind.wrap IntKind.i64 (ivInt (ivNth (List.getD (List.map cellsL L) (Int.toNat i) []) ((0:Nat) + (1:Nat)))) - IntKind.wrap IntKind.i64 (ivInt (ivNth (List.getD (List.map cellsL L) (Int.toNat (i - (1:Int))) []) ((0:Nat) + (1:Nat))))) != (-1:Int) && (IntKind.wrap IntKind.i64 (IntKind.wrap IntKind.i64 (ivInt (ivNth (List.getD (List.map cellsL L) (Int.toNat i) []) ((0:Nat) + (1:Nat)))) - IntKind.wrap IntKind.i64 (ivInt (ivNth (List.getD (List.map cellsL L) (Int.toNat (i - (1:Int))) []) ((0:Nat) + (1:Nat))))) != (0:Int) || decide (n < (4:Int)) || !i == IntKind.wrap IntKind.i64 ((↑(List.length (List.map cellsL L)):Int) - (1:Int)))))
def lvC (L:List Lp) (n:Int):Bool:=(List.range L.length).all fun i=>gdL L n i
theorem lvC_F {L:List Lp} {n i:Int} (h0:0≤i) (h:i < L.length) (hg:gdL L n i = false):false = lvC L n:=by
 symm
 unfold lvC
 rw [List.all_eq_false]
 refine ⟨i.toNat,List.mem_range.2 (by omega),?_⟩
 rw [show ((i.toNat:Nat):Int) = i by omega,hg]
 decide
theorem lvC_T {L:List Lp} {n i:Int} (h:¬ i < L.length) (hj:∀ j:Nat,(j:Int) < i→gdL L n j = true):true = lvC L n:=by
 symm
 unfold lvC
 rw [List.all_eq_true]
 intro j hm
 have:=List.mem_range.1 hm
 exact hj j (by omega)
theorem gdL_next {L:List Lp} {n i:Int} (h0:0≤i) (hj:∀ j:Nat,(j:Int) < i→gdL L n j = true) (hg:gdL L n i = true) (j:Nat) (h:(j:Int) < i + 1):gdL L n j = true:=by
 by_cases e:(j:Int) < i
 ·exact hj j e
 ·rw [show (j:Int) = i by omega]; exact hg
theorem lv_ex (L:List Lp) (n:Int) (hl:(L.length:Int)≤1000000):∃ v:Bool,v = lvC L n∧∀ K:List AV→Prop,K [bo v]→evSpec N11 Tryz.f41 [xL L,i64 n] K:=by
 have hlen:(L.map cellsL).length = L.length:=List.length_map _
 refine Exists.elim (loop_det (C:=N11) (c:=loopB (bodyOf Tryz.f41) 0) (fun i:Int=>k60 L n i) (fun i=>0≤i∧i≤L.length∧∀ j:Nat,(j:Int) < i→gdL L n j = true) (fun i=>((L.length:Int) - i).toNat) (fun v:Bool=>v = lvC L n) (fun v=>[bo v])
  (fun K=>loopK N11 (bodyOf Tryz.f41) 0 (finK N11 Tryz.f41 K)) rfl (fun i hs=>?_) 0 ⟨Int.le_refl 0,by omega,fun j hj=>by omega⟩) (fun v hv'=>?_)
 ·obtain ⟨i1,i2,i3⟩:=hs
  have e0:IntKind.wrap .i64 (i - 1) = i - 1:=wrap64 (by omega) (by omega)
  by_cases h:i < L.length
  ·have hb:i < ((L.map cellsL).length:Int):=by rw [hlen]; exact h
   have hk:=kcL i1 h
   by_cases hz:i = 0
   ·have hz':(i == (0:Int)) = true:=by rw [hz]; first | done | rfl
    have hb0:(0:Int) < ((L.map cellsL).length:Int):=by omega
    have hk0:=kcL (L:=L) (i:=0) (Int.le_refl 0) (by omega)
    cases hx:(decide (ivInt (ivNth (List.getD (List.map cellsL L) (Int.toNat (0:Int)) []) (0:Nat)) < (0:Int)) || decide (n < (4:Int)) && IntKind.wrap IntKind.i64 (ivInt (ivNth (List.getD (List.map cellsL L) (Int.toNat i) []) ((0:Nat) + (1:Nat)))) != (1:Int) && IntKind.wrap IntKind.i64 (ivInt (ivNth (List.getD (List.map cellsL L) (Int.toNat i) []) ((0:Nat) + (1:Nat)))) != (-1:Int)) with
    | true =>
     refine .inr ⟨.ret,_,by simp,fun K' hK'=>by
      rw [g60_lp]
      intro A4
      exact brn_T (decide_eq_true hb) ⟨i1,hb,hk,brn_T hz' ⟨Int.le_refl 0,hb0,hk0,brn_T hx hK'⟩⟩,false,lvC_F i1 h (by unfold gdL; rw [hz',cond_true,hx]; rfl),fun K hK=>?_⟩
     exact Eq.mp (by kernel_rfl) hK
    | false =>
     refine .inl ⟨i + 1,q60,_,⟨by omega,by omega,gdL_next i1 i3 (by unfold gdL; rw [hz',cond_true,hx]; rfl)⟩,by omega,?_,fun K' hK'=>by
      rw [g60_lp]
      intro A4
      exact brn_T (decide_eq_true hb) ⟨i1,hb,hk,brn_T hz' ⟨Int.le_refl 0,hb0,hk0,brn_Fa hx hK'⟩⟩⟩
     rw [w1 (by omega) (by omega)]
     kernel_rfl
   ·have hz':(i == (0:Int)) = false:=by
     cases he:(i == (0:Int)) with
     | false=>rfl
     | true=>exact absurd (eq_of_beq he) hz
    have j0:0≤i - 1:=by omega
    have j1:i - 1 < ((L.map cellsL).length:Int):=by omega
    have hkj:=kcL (L:=L) (i:=i - 1) j0 (by omega)
    by_cases hx:(decide (ivInt (ivNth (List.getD (List.map cellsL L) (Int.toNat i) []) (0:Nat)) < ivInt (ivNth (List.getD (List.map cellsL L) (Int.toNat (i - (1:Int))) []) (0:Nat)))) = true
    ·refine .inr ⟨.ret,_,by simp,fun K' hK'=>by
      rw [g60_lp]
      intro A4
      have hA:A4:=hK'
      clear_value A4
      rw [e0]
      exact brn_T (decide_eq_true hb) ⟨i1,hb,hk,brn_Fa hz' ⟨j0,j1,hkj,i1,hb,hk,j0,j1,hkj,brn_T hx hA⟩⟩,false,lvC_F i1 h (by unfold gdL; rw [hz',cond_false,hx]; rfl),fun K hK=>?_⟩
     exact Eq.mp (by kernel_rfl) hK
    ·have hxf:=Bool.eq_false_iff.mpr hx
     by_cases hy:(decide (IntKind.wrap IntKind.i64 (ivInt (ivNth (List.getD (List.map cellsL L) (Int.toNat i) []) (0:Nat)) - ivInt (ivNth (List.getD (List.map cellsL L) (Int.toNat (i - (1:Int))) []) (0:Nat))) < (2419199:Int))) = true
     ·refine .inr ⟨.ret,_,by simp,fun K' hK'=>by
       rw [g60_lp]
       intro A4
       have hA:A4:=hK'
       clear_value A4
       rw [e0]
       exact brn_T (decide_eq_true hb) ⟨i1,hb,hk,brn_Fa hz' ⟨j0,j1,hkj,i1,hb,hk,j0,j1,hkj,brn_Fa hxf ⟨i1,hb,hk,j0,j1,hkj,brn_T hy hA⟩⟩⟩,false,lvC_F i1 h (by unfold gdL; rw [hz',cond_false,hxf,hy]; rfl),fun K hK=>?_⟩
      exact Eq.mp (by kernel_rfl) hK
     ·have hyf:=Bool.eq_false_iff.mpr hy
      cases hw:(IntKind.wrap IntKind.i64 (IntKind.wrap IntKind.i64 (ivInt (ivNth (List.getD (List.map cellsL L) (Int.toNat i) []) ((0:Nat) + (1:Nat)))) - IntKind.wrap IntKind.i64 (ivInt (ivNth (List.getD (List.map cellsL L) (Int.toNat (i - (1:Int))) []) ((0:Nat) + (1:Nat))))) != (1:Int) && IntKind.wrap IntKind.i64 (IntKind.wrap IntKind.i64 (ivInt (ivNth (List.getD (List.map cellsL L) (Int.toNat i) []) ((0:Nat) + (1:Nat)))) - IntKind.wrap IntKind.i64 (ivInt (ivNth (List.getD (List.map cellsL L) (Int.toNat (i - (1:Int))) []) ((0:Nat) + (1:Nat))))) != (-1:Int) && (IntKind.wrap IntKind.i64 (IntKind.wrap IntKind.i64 (ivInt (ivNth (List.getD (List.map cellsL L) (Int.toNat i) []) ((0:Nat) + (1:Nat)))) - IntKind.wrap IntKind.i64 (ivInt (ivNth (List.getD (List.map cellsL L) (Int.toNat (i - (1:Int))) []) ((0:Nat) + (1:Nat))))) != (0:Int) || decide (n < (4:Int)) || !i == IntKind.wrap IntKind.i64 ((↑(List.length (List.map cellsL L)):Int) - (1:Int)))) with
      | true =>
       refine .inr ⟨.ret,_,by simp,fun K' hK'=>by
        rw [g60_lp]
        intro A4
        clear_value A4
        rw [e0]
        exact brn_T (decide_eq_true hb) ⟨i1,hb,hk,brn_Fa hz' ⟨j0,j1,hkj,i1,hb,hk,j0,j1,hkj,brn_Fa hxf ⟨i1,hb,hk,j0,j1,hkj,brn_Fa hyf (brn_T hw hK')⟩⟩⟩,false,lvC_F i1 h (by unfold gdL; rw [hz',cond_false,hxf,hyf,hw]; rfl),fun K hK=>?_⟩
       exact Eq.mp (by kernel_rfl) hK
      | false =>
       refine .inl ⟨i + 1,q60,_,⟨by omega,by omega,gdL_next i1 i3 (by unfold gdL; rw [hz',cond_false,hxf,hyf,hw]; rfl)⟩,by omega,?_,fun K' hK'=>by
        rw [g60_lp]
        intro A4
        clear_value A4
        rw [e0]
        exact brn_T (decide_eq_true hb) ⟨i1,hb,hk,brn_Fa hz' ⟨j0,j1,hkj,i1,hb,hk,j0,j1,hkj,brn_Fa hxf ⟨i1,hb,hk,j0,j1,hkj,brn_Fa hyf (brn_Fa hw hK')⟩⟩⟩⟩
       rw [w1 (by omega) (by omega)]
       kernel_rfl
  ·refine .inr ⟨.exit 0,_,by simp,fun K' hK'=>by
    rw [g60_lp]
    exact brn_Fa (decide_eq_false (by rw [hlen]; exact h)) hK',true,lvC_T h i3,fun K hK=>?_⟩
   exact Eq.mp (by kernel_rfl) hK
 ·obtain ⟨hv,hk⟩:=hv'
  refine ⟨v,hv,fun K hK=>?_⟩
  rw [g60_in]
  unfold LoopI
  exact hk K hK q60 _ (by kernel_rfl)
end PF
set_option maxRecDepth 100000
namespace PF
open Go Go.AE Go.Proofs PE
noncomputable section
def desV (T:List Int):Int:=Classical.epsilon fun v:Int=>(v = -1→ascP T)∧∀ K:List AV→Prop,K [i64 v]→evSpec N10 Tryz.f51 [ii T] K
def chkV (X:List Ty) (n:Int):Int:=Classical.epsilon fun v:Int=>True∧∀ K:List AV→Prop,K [i64 v]→evSpec N11 Tryz.f52 [xT X,i64 n] K
def badV (b:List UInt8):Int:=Classical.epsilon fun v:Int=>True∧∀ K:List AV→Prop,K [i64 v]→evSpec N10 Tryz.f73 [by' b] K
def lvV (L:List Lp) (n:Int):Bool:=Classical.epsilon fun v:Bool=>v = lvC L n∧∀ K:List AV→Prop,K [bo v]→evSpec N11 Tryz.f41 [xL L,i64 n] K
def conV (S U:List Bool):Bool:=Classical.epsilon fun v:Bool=>True∧∀ K:List AV→Prop,K [bo v]→evSpec N11 Tryz.f54 [oo S,oo U] K
def sDesc:List AV→Option (List Prop×List AV)
 | [.imm (.ints .i64 T)]=>some ([(T.length:Int)≤1000000],[i64 (desV T)])
 | _=>none
def sChk:List AV→Option (List Prop×List AV)
 | [.imm (.sl 3 X),.imm (.int .i64 n)]=>some ([okT X,(X.length:Int)≤1000000],[i64 (chkV (tys X) n)])
 | _=>none
def sBad:List AV→Option (List Prop×List AV)
 | [.imm (.bytes b)]=>some ([(b.length:Int)≤1000000],[i64 (badV b)])
 | _=>none
def sLvl:List AV→Option (List Prop×List AV)
 | [.imm (.sl 2 xs),.imm (.int .i64 n)]=>some ([okL xs,(xs.length:Int)≤1000000],[bo (lvV (lps xs) n)])
 | _=>none
def sCon:List AV→Option (List Prop×List AV)
 | [.imm (.bools S),.imm (.bools U)]=>some ([(U.length:Int)≤1000000],[bo (conV S U)])
 | _=>none
noncomputable def F30:=addE (addE (addE (addE (addE F29 51 sDesc) 52 sChk) 73 sBad) 41 sLvl) 54 sCon
end
attribute [local irreducible] loopK evCode evSpec loopB norm
theorem xT_tys {X:List (List IV)} (h:okT X):AV.imm (.sl 3 X) = xT (tys X):=by
 have:=h.1
 unfold xT
 rw [← this]
theorem tys_len {X:List (List IV)} (h:okT X):(tys X).length = X.length:=by
 have:=congrArg List.length h.1
 rw [List.length_map] at this
 exact this.symm
theorem desV_sp {T:List Int} (hl:(T.length:Int)≤1000000):desV T = -1→ascP T:=(Classical.epsilon_spec (desc_ex T hl)).1
theorem ok57e:∀ args pres res,sDesc args = some (pres,res)→SpecOK Tryz.prog G16 51 args pres res:=by
 intro args pres res h
 unfold sDesc at h
 split at h
 case h_2=>cases h
 cases h
 exact spec_ok (C:=N10) okF29 noCall_ok Tryz.func51 (by kernel_rfl) (by kernel_rfl) (fun hp=>(Classical.epsilon_spec (desc_ex _ (hp _ (by simp)))).2 _ rfl)
theorem ok58e:∀ args pres res,sChk args = some (pres,res)→SpecOK Tryz.prog G16 52 args pres res:=by
 intro args pres res h
 unfold sChk at h
 split at h
 case h_2=>cases h
 cases h
 rename_i X n
 refine spec_ok (C:=N11) okF29 noCall_ok Tryz.func52 (by kernel_rfl) (by kernel_rfl) (fun hp=>?_)
 have hX:okT X:=hp _ (by simp)
 have hl:(X.length:Int)≤1000000:=hp _ (by simp)
 rw [xT_tys hX]
 exact (Classical.epsilon_spec (chk_ex (tys X) n (by rw [tys_len hX]; exact hl))).2 _ rfl
theorem ok92e:∀ args pres res,sBad args = some (pres,res)→SpecOK Tryz.prog G16 73 args pres res:=by
 intro args pres res h
 unfold sBad at h
 split at h
 case h_2=>cases h
 cases h
 exact spec_ok (C:=N10) okF29 noCall_ok Tryz.func73 (by kernel_rfl) (by kernel_rfl) (fun hp=>(Classical.epsilon_spec (bad_ex _ (hp _ (by simp)))).2 _ rfl)
theorem ok60e:∀ args pres res,sLvl args = some (pres,res)→SpecOK Tryz.prog G16 41 args pres res:=by
 intro args pres res h
 unfold sLvl at h
 split at h
 case h_2=>cases h
 cases h
 rename_i xs n
 refine spec_ok (C:=N11) okF29 noCall_ok Tryz.func41 (by kernel_rfl) (by kernel_rfl) (fun hp=>?_)
 obtain ⟨L,rfl,e,hL⟩:=okL_elim (hp (okL xs) (by simp))
 have h1:=hp (((L.map cellsL).length:Int)≤1000000) (by simp)
 rw [List.length_map] at h1
 rw [e]
 exact (Classical.epsilon_spec (lv_ex L n h1)).2 _ rfl
theorem ok61e:∀ args pres res,sCon args = some (pres,res)→SpecOK Tryz.prog G16 54 args pres res:=by
 intro args pres res h
 unfold sCon at h
 split at h
 case h_2=>cases h
 cases h
 exact spec_ok (C:=N11) okF29 noCall_ok Tryz.func54 (by kernel_rfl) (by kernel_rfl) (fun hp=>(Classical.epsilon_spec (con_ex _ _ (hp _ (by simp)))).2 _ rfl)
theorem okF30:EOK Tryz.prog F30 G16:=addE_ok (addE_ok (addE_ok (addE_ok (addE_ok okF29 ok57e) ok58e) ok92e) ok60e) ok61e
theorem lvV_eq {L:List Lp} (n:Int) (h:(L.length:Int)≤1000000):lvV L n = lvC L n:=(Classical.epsilon_spec (lv_ex L n h)).1
end PF
namespace Q6
open Go Go.AE Go.Proofs
noncomputable def B0:=PF.F30
def G6:Nat→Option (List AV):=P8.G8
def i6 (n:Int):AV:=.imm (.int .i64 n)
def bo6 (b:Bool):AV:=.imm (.bool b)
def sl2 (xs:List (List IV)):AV:=.imm (.sl 2 xs)
def aL (xs:List (List IV)) (i:Int):Int:=ivInt (ivNth (List.getD xs (Int.toNat i) []) 0)
def cL (xs:List (List IV)) (i:Int):Int:=ivInt (ivNth (List.getD xs (Int.toNat i) []) (0 + 1))
structure okX (xs:List (List IV)):Prop where
 len:(xs.length:Int)≤1000000
 kc:∀ k:Int,0≤k→k < (xs.length:Int)→kcells (List.getD xs (Int.toNat k) []) 0 (lapp [CK.int .i64] (lapp [CK.int .i32] [])) = List.getD xs (Int.toNat k) []
def stL (xs:List (List IV)) (i:Int):Int:=IntKind.wrap .i64 (IntKind.wrap .i64 (cL xs i) - IntKind.wrap .i64 (cL xs (i - 1)))
def ru1 (xs:List (List IV)) (i:Int):Bool:=bif i == 0 then decide (aL xs 0≥0) else decide (aL xs i≥aL xs (i - 1)) && decide (IntKind.wrap .i64 (aL xs i - aL xs (i - 1))≥2419199)
def ru2 (xs:List (List IV)) (i n:Int):Bool:=decide (i > 0) || decide (n≥4) || cL xs 0 == 1 || cL xs 0 == -1
def ru3 (xs:List (List IV)) (i n:Int):Bool:=i == 0 || (stL xs i == 1 || stL xs i == -1 || (stL xs i == 0 && decide (n≥4) && i == (xs.length:Int) - 1))
def lvA (xs:List (List IV)) (n:Int):Bool:=(List.range xs.length).all fun i=>ru1 xs i && ru2 xs i n && ru3 xs i n
def sStep:List AV→Option (List Prop×List AV)
 | [.imm (.sl 2 xs),.imm (.int .i64 i)]=>some ([1≤i,i < (xs.length:Int),okX xs],[i6 (stL xs i)])
 | _=>none
def sR1:List AV→Option (List Prop×List AV)
 | [.imm (.sl 2 xs),.imm (.int .i64 i),.imm (.int .i64 n)]=>some ([0≤i,i < (xs.length:Int),okX xs],[bo6 (ru1 xs i)])
 | _=>none
def sR2:List AV→Option (List Prop×List AV)
 | [.imm (.sl 2 xs),.imm (.int .i64 i),.imm (.int .i64 n)]=>some ([0≤i,i < (xs.length:Int),okX xs],[bo6 (ru2 xs i n)])
 | _=>none
def sR3:List AV→Option (List Prop×List AV)
 | [.imm (.sl 2 xs),.imm (.int .i64 i),.imm (.int .i64 n)]=>some ([0≤i,i < (xs.length:Int),okX xs],[bo6 (ru3 xs i n)])
 | _=>none
def sLv:List AV→Option (List Prop×List AV)
 | [.imm (.sl 2 xs),.imm (.int .i64 n)]=>some ([okX xs],[bo6 (lvA xs n)])
 | _=>none
def sNeed:List AV→Option (List Prop×List AV)
 | [.imm (.sl 2 xs)]=>some ([okX xs],[bo6 (lvA xs 4 && !lvA xs 3)])
 | _=>none
noncomputable def H1:=addE B0 145 sStep
noncomputable def H2:=addE (addE (addE H1 142 sR1) 143 sR2) 144 sR3
noncomputable def H3:=addE H2 40 sLv
noncomputable def H4:=addE H3 19 sNeed
noncomputable def M5:Cx:=⟨Tryz.prog,B0,noCall,G6,4005⟩
noncomputable def M7:Cx:=⟨Tryz.prog,B0,noCall,G6,4007⟩
noncomputable def M8:Cx:=⟨Tryz.prog,H1,noCall,G6,4008⟩
noncomputable def M29:Cx:=⟨Tryz.prog,H2,noCall,G6,4028⟩
noncomputable def M17:Cx:=⟨Tryz.prog,H3,noCall,G6,4003⟩
def ruR:AV:=.imm (.sl 2 [[.str [116,105,109,101],.val (.func (.func 142) #[] #[])],[.str [102,105,114,115,116,32,99,111,114,114,101,99,116,105,111,110],.val (.func (.func 143) #[] #[])],[.str [115,116,101,112],.val (.func (.func 144) #[] #[])]])
def k29 (xs:List (List IV)) (n i:Int):St:=⟨spr [(0,sl2 xs),(1,i6 n),(9,i6 (xs.length:Int)),(10,i6 i)] 0 28,[],0,[]⟩
def q29:Plan:=⟨[],msk [0,1,9,10] 0 28,[]⟩
def k29b (xs:List (List IV)) (n i j:Int):St:=⟨spr [(0,sl2 xs),(1,i6 n),(5,i6 i),(9,i6 (xs.length:Int)),(10,i6 i),(13,ruR),(14,i6 3),(15,i6 j)] 0 28,[],0,[]⟩
def q29b:Plan:=⟨[],msk [0,1,5,9,10,13,14,15] 0 28,[]⟩
end Q6
