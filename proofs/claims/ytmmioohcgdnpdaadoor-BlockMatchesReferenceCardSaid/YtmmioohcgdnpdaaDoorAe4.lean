/- The walk's evaluator and its laws (over whatever program), and contracts of the program's functions. -/
import Derived.Test.YtmmioohcgdnpdaaDoorAe3
import Derived.KernelRfl
import Derived.Laws.BitsLemmas
set_option linter.all false
set_option maxRecDepth 100000
namespace D6
open Go Go.AE Go.Proofs
attribute [local irreducible] loopK evCode evSpec loopB norm
theorem f31_lp (b : List UInt8) (off : Int) (n : Int) (v : Int) (i : Nat) (k : AX → St → Prop) : evCode C0 (loopB (bodyOf Tryd.f81) (0 : Nat)) (h31 b off n v i) k = (brn (decide ((↑i : Int) < n)) ((0 : Int) ≤ 8 ∧ (0 : Int) ≤ IntKind.wrap .i64 (off + (↑i : Int)) ∧ IntKind.wrap .i64 (off + (↑i : Int)) < (b.length : Int) ∧ k AX.normal (St.mk [.imm (.bytes b), .imm (.int .i64 off), .imm (.int .i64 n), .dead, .dead, .dead, .dead, .dead, .imm (.int IntKind.u64 (bitsV BinOp.or IntKind.u64 (shlV IntKind.u64 v (8 : Int)) (IntKind.wrap IntKind.u64 (↑(UInt8.toNat (List.getD b (IntKind.wrap .i64 (off + (↑i : Int))).toNat (0 : UInt8))) : Int)))), .imm (.int .i64 (↑i : Int)), .dead, .dead, .dead, .dead, .dead, .dead, .dead, .dead, .dead, .dead, .dead, .dead, .dead, .dead, .dead, .dead, .imm (.int .i64 n), .imm (.int .i64 (IntKind.wrap .i64 ((↑i : Int) + 1))), .imm (.bool (decide ((↑i : Int) < n))), .imm (.int .i64 (↑i : Int)), .imm (.int IntKind.u64 v), .imm (.int IntKind.u64 (shlV IntKind.u64 v (8 : Int))), .imm (.bytes b), .imm (.int .i64 off), .imm (.int .i64 (↑i : Int)), .imm (.int .i64 (IntKind.wrap .i64 (off + (↑i : Int)))), AV.elv [IV.int .u8 (↑(UInt8.toNat (List.getD b (IntKind.wrap .i64
 (off + (↑i : Int))).toNat (0 : UInt8))) : Int)], .imm (.int .u8 (↑(UInt8.toNat (List.getD b (IntKind.wrap .i64 (off + (↑i : Int))).toNat (0 : UInt8))) : Int)), .imm (.int IntKind.u64 (IntKind.wrap IntKind.u64 (↑(UInt8.toNat (List.getD b (IntKind.wrap .i64 (off + (↑i : Int))).toNat (0 : UInt8))) : Int))), .imm (.int IntKind.u64 (bitsV BinOp.or IntKind.u64 (shlV IntKind.u64 v (8 : Int)) (IntKind.wrap IntKind.u64 (↑(UInt8.toNat (List.getD b (IntKind.wrap .i64 (off + (↑i : Int))).toNat (0 : UInt8))) : Int)))), .imm (.int .i64 (IntKind.wrap .i64 ((↑i : Int) + 1))), .dead] [] (0 : Nat) [])) (k (AX.exit (0 : Nat)) (St.mk [.imm (.bytes b), .imm (.int .i64 off), .imm (.int .i64 n), .dead, .dead, .dead, .dead, .dead, .imm (.int IntKind.u64 v), .dead, .dead, .dead, .dead, .dead, .dead, .dead, .dead, .dead, .dead, .dead, .dead, .dead, .dead, .dead, .dead, .dead, .imm (.int .i64 n), .imm (.int .i64 (↑i : Int)), .imm (.bool (decide ((↑i : Int) < n))), .dead, .dead, .dead, .dead, .dead, .dead, .dead, .dead, .dead, .dead, .dead, .dead, .dead] [] (0 : Nat) []))) := by kernel_rfl
theorem f29_lp (b : List UInt8) (off : Int) (n : Int) (v : Int) (i : Nat) (k : AX → St → Prop) : evCode C0 (loopB (bodyOf Tryd.f82) (0 : Nat)) (h29 b off n v i) k = (brn (decide ((↑i : Int) < n)) ((0 : Int) ≤ IntKind.wrap .i64 (off + (↑i : Int)) ∧ IntKind.wrap .i64 (off + (↑i : Int)) < (b.length : Int) ∧ k AX.normal (St.mk [.imm (.bytes b), .imm (.int .i64 off), .imm (.int .i64 n), .dead, .dead, .dead, .dead, .dead, .imm (.int IntKind.u64 (IntKind.wrap IntKind.u64 (IntKind.wrap IntKind.u64 (v * 256) + IntKind.wrap IntKind.u64 (↑(UInt8.toNat (List.getD b (IntKind.wrap .i64 (off + (↑i : Int))).toNat (0 : UInt8))) : Int)))), .imm (.int .i64 (IntKind.wrap .i64 ((↑i : Int) + 1))), .dead, .dead, .dead, .dead, .dead, .dead, .dead, .dead, .dead, .dead, .imm (.int .i64 (↑i : Int)), .imm (.int .i64 n), .imm (.bool (decide ((↑i : Int) < n))), .imm (.int .i64 (↑i : Int)), .imm (.int .i64 (IntKind.wrap .i64 ((↑i : Int) + 1))), .imm (.int IntKind.u64 v), .imm (.int IntKind.u64 (IntKind.wrap IntKind.u64 (v * 256))), .imm (.bytes b), .imm (.int .i64 off), .imm (.int .i64 (↑i : Int)), .imm (.int .i64 (IntKind.wrap .i64 (off + (↑i : Int)))), AV.elv [IV.int .u8 (↑(UInt8.toNat (List.getD b
 (IntKind.wrap .i64 (off + (↑i : Int))).toNat (0 : UInt8))) : Int)], .imm (.int .u8 (↑(UInt8.toNat (List.getD b (IntKind.wrap .i64 (off + (↑i : Int))).toNat (0 : UInt8))) : Int)), .imm (.int IntKind.u64 (IntKind.wrap IntKind.u64 (↑(UInt8.toNat (List.getD b (IntKind.wrap .i64 (off + (↑i : Int))).toNat (0 : UInt8))) : Int))), .imm (.int IntKind.u64 (IntKind.wrap IntKind.u64 (IntKind.wrap IntKind.u64 (v * 256) + IntKind.wrap IntKind.u64 (↑(UInt8.toNat (List.getD b (IntKind.wrap .i64 (off + (↑i : Int))).toNat (0 : UInt8))) : Int)))), .dead] [] (0 : Nat) [])) (k (AX.exit (0 : Nat)) (St.mk [.imm (.bytes b), .imm (.int .i64 off), .imm (.int .i64 n), .dead, .dead, .dead, .dead, .dead, .imm (.int IntKind.u64 v), .imm (.int .i64 (↑i : Int)), .dead, .dead, .dead, .dead, .dead, .dead, .dead, .dead, .dead, .dead, .imm (.int .i64 (↑i : Int)), .imm (.int .i64 n), .imm (.bool (decide ((↑i : Int) < n))), .dead, .dead, .dead, .dead, .dead, .dead, .dead, .dead, .dead, .dead, .dead, .dead, .dead] [] (0 : Nat) []))) := by kernel_rfl
theorem f30_lp (n : Int) (p : Int) (i : Nat) (k : AX →
  St → Prop) : evCode C0 (loopB (bodyOf Tryd.f70) (0 : Nat)) (h30 n p i) k =
  (brn (decide ((↑i : Int) < n))
  (k AX.normal
    (St.mk
      [AV.imm (IV.int IntKind.i64 n), AV.dead, AV.dead,
        AV.imm (IV.int IntKind.u64 (IntKind.wrap IntKind.u64 (p * (256 : Int)))),
        AV.imm (IV.int IntKind.i64 (IntKind.wrap IntKind.i64 ((↑i : Int) + (1 : Int)))),
        AV.imm (IV.int IntKind.i64 (↑i : Int)), AV.imm (IV.int IntKind.i64 n),
        AV.imm (IV.bool (decide ((↑i : Int) < n))), AV.imm (IV.int IntKind.i64 (↑i : Int)),
        AV.imm (IV.int IntKind.i64 (IntKind.wrap IntKind.i64 ((↑i : Int) + (1 : Int)))), AV.imm (IV.int IntKind.u64 p),
        AV.imm (IV.int IntKind.u64 (IntKind.wrap IntKind.u64 (p * (256 : Int)))), AV.dead]
      [] (0 : Nat) []))
  (k (AX.exit (0 : Nat))
    (St.mk
      [AV.imm (IV.int IntKind.i64 n), AV.dead, AV.dead, AV.imm (IV.int IntKind.u64 p),
        AV.imm (IV.int IntKind.i64 (↑i : Int)), AV.imm (IV.int IntKind.i64 (↑i : Int)), AV.imm (IV.int IntKind.i64 n),
        AV.imm (IV.bool (decide ((↑i : Int) < n))), AV.dead, AV.dead, AV.dead, AV.dead, AV.dead]
      [] (0 : Nat) []))) := by kernel_rfl
theorem f11_lp (a : List UInt8) (b : List UInt8) (i : Nat) (k : AX → St → Prop) : evCode C0 (loopB (bodyOf Tryd.f20) (0 : Nat)) (h11 a b i) k = (brn (decide ((↑i : Int) < (a.length : Int))) ((0 : Int) ≤ (↑i : Int) ∧ (↑i : Int) < (a.length : Int) ∧ (0 : Int) ≤ (↑i : Int) ∧ (↑i : Int) < (b.length : Int) ∧ brn ((↑(UInt8.toNat (List.getD a (↑i : Int).toNat (0 : UInt8))) : Int) != (↑(UInt8.toNat (List.getD b (↑i : Int).toNat (0 : UInt8))) : Int)) (k AX.ret (St.mk [.imm (.bytes a), .imm (.bytes b), .dead, .dead, .imm (.bool false), .imm (.int .i64 (↑i : Int)), .dead, .dead, .dead, .dead, .dead, .imm (.int .i64 (↑i : Int)), .imm (.bytes a), .imm (.int .i64 (a.length : Int)), .imm (.bool (decide ((↑i : Int) < (a.length : Int)))), .dead, .dead, .imm (.bytes a), .imm (.int .i64 (↑i : Int)), AV.elv [IV.int .u8 (↑(UInt8.toNat (List.getD a (↑i : Int).toNat (0 : UInt8))) : Int)], .imm (.int .u8 (↑(UInt8.toNat (List.getD a (↑i : Int).toNat (0 : UInt8))) : Int)), .imm (.bytes b), .imm (.int .i64 (↑i : Int)), AV.elv [IV.int .u8 (↑(UInt8.toNat (List.getD b (↑i : Int).toNat (0 : UInt8))) : Int)], .imm (.int .u8 (↑(UInt8.toNat (List.getD b (↑i : Int).toNat (0 : UInt8))) : Int)), .imm (.bool
 ((↑(UInt8.toNat (List.getD a (↑i : Int).toNat (0 : UInt8))) : Int) != (↑(UInt8.toNat (List.getD b (↑i : Int).toNat (0 : UInt8))) : Int)))] [] (0 : Nat) [])) (k AX.normal (St.mk [.imm (.bytes a), .imm (.bytes b), .dead, .dead, .dead, .imm (.int .i64 (IntKind.wrap .i64 ((↑i : Int) + 1))), .dead, .dead, .dead, .dead, .dead, .imm (.int .i64 (↑i : Int)), .imm (.bytes a), .imm (.int .i64 (a.length : Int)), .imm (.bool (decide ((↑i : Int) < (a.length : Int)))), .imm (.int .i64 (↑i : Int)), .imm (.int .i64 (IntKind.wrap .i64 ((↑i : Int) + 1))), .imm (.bytes a), .imm (.int .i64 (↑i : Int)), AV.elv [IV.int .u8 (↑(UInt8.toNat (List.getD a (↑i : Int).toNat (0 : UInt8))) : Int)], .imm (.int .u8 (↑(UInt8.toNat (List.getD a (↑i : Int).toNat (0 : UInt8))) : Int)), .imm (.bytes b), .imm (.int .i64 (↑i : Int)), AV.elv [IV.int .u8 (↑(UInt8.toNat (List.getD b (↑i : Int).toNat (0 : UInt8))) : Int)], .imm (.int .u8 (↑(UInt8.toNat (List.getD b (↑i : Int).toNat (0 : UInt8))) : Int)), .imm (.bool ((↑(UInt8.toNat (List.getD a (↑i : Int).toNat (0 : UInt8))) : Int) != (↑(UInt8.toNat (List.getD b (↑i : Int).toNat (0 : UInt8))) : Int)))] [] (0 : Nat) []))) (k (AX.exit (0 : Nat)) (St.mk [.imm (.bytes a), .imm
 (.bytes b), .dead, .dead, .dead, .imm (.int .i64 (↑i : Int)), .dead, .dead, .dead, .dead, .dead, .imm (.int .i64 (↑i : Int)), .imm (.bytes a), .imm (.int .i64 (a.length : Int)), .imm (.bool (decide ((↑i : Int) < (a.length : Int)))), .dead, .dead, .dead, .dead, .dead, .dead, .dead, .dead, .dead, .dead, .dead] [] (0 : Nat) []))) := by kernel_rfl
theorem f10_lp (a : List (List IV)) (b : List (List IV)) (i : Nat) (k : AX → St → Prop) : evCode C0 (loopB (bodyOf Tryd.f43) (0 : Nat)) (h10 a b i) k = (brn (decide ((↑i : Int) < (a.length : Int))) ((0 : Int) ≤ (↑i : Int) ∧ (↑i : Int) < (a.length : Int) ∧ kcells (List.getD a (↑i : Int).toNat []) (0 : Nat) (lapp [CK.int IntKind.i32] (lapp [CK.bool] (lapp [CK.int IntKind.u8] []))) = List.getD a (↑i : Int).toNat [] ∧ (0 : Int) ≤ (↑i : Int) ∧ (↑i : Int) < (b.length : Int) ∧ kcells (List.getD b (↑i : Int).toNat []) (0 : Nat) (lapp [CK.int IntKind.i32] (lapp [CK.bool] (lapp [CK.int IntKind.u8] []))) = List.getD b (↑i : Int).toNat [] ∧ brn (!(ivInt (ivNth (List.getD a (↑i : Int).toNat []) (0 : Nat)) == ivInt (ivNth (List.getD b (↑i : Int).toNat []) (0 : Nat)) && (ivBool (ivNth (List.getD a (↑i : Int).toNat []) ((0 : Nat) + 1)) == ivBool (ivNth (List.getD b (↑i : Int).toNat []) ((0 : Nat) + 1)) && (ivInt (ivNth (List.getD a (↑i : Int).toNat []) ((0 : Nat) + 1 + 1)) == ivInt (ivNth (List.getD b (↑i : Int).toNat []) ((0 : Nat) + 1 + 1)) && true)))) (k AX.ret (St.mk [.imm (.sl (3 : Nat) a), .imm (.sl (3 : Nat) b), .dead, .dead, .imm (.bool false), .imm (.int .i64 (↑i : Int)), .dead, .dead,
 .dead, .dead, .dead, .imm (.int .i64 (↑i : Int)), .imm (.sl (3 : Nat) a), .imm (.int .i64 (a.length : Int)), .imm (.bool (decide ((↑i : Int) < (a.length : Int)))), .dead, .dead, .imm (.sl (3 : Nat) a), .imm (.int .i64 (↑i : Int)), AV.elv [IV.int IntKind.i32 (ivInt (ivNth (List.getD a (↑i : Int).toNat []) (0 : Nat))), IV.bool (ivBool (ivNth (List.getD a (↑i : Int).toNat []) ((0 : Nat) + 1))), IV.int .u8 (ivInt (ivNth (List.getD a (↑i : Int).toNat []) ((0 : Nat) + 1 + 1)))], .agg [.imm (.int IntKind.i32 (ivInt (ivNth (List.getD a (↑i : Int).toNat []) (0 : Nat)))), .imm (.bool (ivBool (ivNth (List.getD a (↑i : Int).toNat []) ((0 : Nat) + 1)))), .imm (.int .u8 (ivInt (ivNth (List.getD a (↑i : Int).toNat []) ((0 : Nat) + 1 + 1))))], .imm (.sl (3 : Nat) b), .imm (.int .i64 (↑i : Int)), AV.elv [IV.int IntKind.i32 (ivInt (ivNth (List.getD b (↑i : Int).toNat []) (0 : Nat))), IV.bool (ivBool (ivNth (List.getD b (↑i : Int).toNat []) ((0 : Nat) + 1))), IV.int .u8 (ivInt (ivNth (List.getD b (↑i : Int).toNat []) ((0 : Nat) + 1 + 1)))], .agg [.imm (.int IntKind.i32 (ivInt (ivNth (List.getD b (↑i : Int).toNat []) (0 : Nat)))), .imm (.bool (ivBool (ivNth (List.getD b (↑i : Int).toNat []) ((0 : Nat)
 + 1)))), .imm (.int .u8 (ivInt (ivNth (List.getD b (↑i : Int).toNat []) ((0 : Nat) + 1 + 1))))], .imm (.bool !(ivInt (ivNth (List.getD a (↑i : Int).toNat []) (0 : Nat)) == ivInt (ivNth (List.getD b (↑i : Int).toNat []) (0 : Nat)) && (ivBool (ivNth (List.getD a (↑i : Int).toNat []) ((0 : Nat) + 1)) == ivBool (ivNth (List.getD b (↑i : Int).toNat []) ((0 : Nat) + 1)) && (ivInt (ivNth (List.getD a (↑i : Int).toNat []) ((0 : Nat) + 1 + 1)) == ivInt (ivNth (List.getD b (↑i : Int).toNat []) ((0 : Nat) + 1 + 1)) && true))))] [] (0 : Nat) [])) (k AX.normal (St.mk [.imm (.sl (3 : Nat) a), .imm (.sl (3 : Nat) b), .dead, .dead, .dead, .imm (.int .i64 (IntKind.wrap .i64 ((↑i : Int) + 1))), .dead, .dead, .dead, .dead, .dead, .imm (.int .i64 (↑i : Int)), .imm (.sl (3 : Nat) a), .imm (.int .i64 (a.length : Int)), .imm (.bool (decide ((↑i : Int) < (a.length : Int)))), .imm (.int .i64 (↑i : Int)), .imm (.int .i64 (IntKind.wrap .i64 ((↑i : Int) + 1))), .imm (.sl (3 : Nat) a), .imm (.int .i64 (↑i : Int)), AV.elv [IV.int IntKind.i32 (ivInt (ivNth (List.getD a (↑i : Int).toNat []) (0 : Nat))), IV.bool (ivBool (ivNth (List.getD a (↑i : Int).toNat []) ((0 : Nat) + 1))), IV.int .u8 (ivInt (ivNth (List.getD
 a (↑i : Int).toNat []) ((0 : Nat) + 1 + 1)))], .agg [.imm (.int IntKind.i32 (ivInt (ivNth (List.getD a (↑i : Int).toNat []) (0 : Nat)))), .imm (.bool (ivBool (ivNth (List.getD a (↑i : Int).toNat []) ((0 : Nat) + 1)))), .imm (.int .u8 (ivInt (ivNth (List.getD a (↑i : Int).toNat []) ((0 : Nat) + 1 + 1))))], .imm (.sl (3 : Nat) b), .imm (.int .i64 (↑i : Int)), AV.elv [IV.int IntKind.i32 (ivInt (ivNth (List.getD b (↑i : Int).toNat []) (0 : Nat))), IV.bool (ivBool (ivNth (List.getD b (↑i : Int).toNat []) ((0 : Nat) + 1))), IV.int .u8 (ivInt (ivNth (List.getD b (↑i : Int).toNat []) ((0 : Nat) + 1 + 1)))], .agg [.imm (.int IntKind.i32 (ivInt (ivNth (List.getD b (↑i : Int).toNat []) (0 : Nat)))), .imm (.bool (ivBool (ivNth (List.getD b (↑i : Int).toNat []) ((0 : Nat) + 1)))), .imm (.int .u8 (ivInt (ivNth (List.getD b (↑i : Int).toNat []) ((0 : Nat) + 1 + 1))))], .imm (.bool !(ivInt (ivNth (List.getD a (↑i : Int).toNat []) (0 : Nat)) == ivInt (ivNth (List.getD b (↑i : Int).toNat []) (0 : Nat)) && (ivBool (ivNth (List.getD a (↑i : Int).toNat []) ((0 : Nat) + 1)) == ivBool (ivNth (List.getD b (↑i : Int).toNat []) ((0 : Nat) + 1)) && (ivInt (ivNth (List.getD a (↑i : Int).toNat []) ((0 : Nat) +
 1 + 1)) == ivInt (ivNth (List.getD b (↑i : Int).toNat []) ((0 : Nat) + 1 + 1)) && true))))] [] (0 : Nat) []))) (k (AX.exit (0 : Nat)) (St.mk [.imm (.sl (3 : Nat) a), .imm (.sl (3 : Nat) b), .dead, .dead, .dead, .imm (.int .i64 (↑i : Int)), .dead, .dead, .dead, .dead, .dead, .imm (.int .i64 (↑i : Int)), .imm (.sl (3 : Nat) a), .imm (.int .i64 (a.length : Int)), .imm (.bool (decide ((↑i : Int) < (a.length : Int)))), .dead, .dead, .dead, .dead, .dead, .dead, .dead, .dead, .dead, .dead, .dead] [] (0 : Nat) []))) := by kernel_rfl
theorem f21_lp (n : Int) (v : Int) (l : List UInt8) (i : Nat) (k : AX → St → Prop) : evCode C0 (loopB (bodyOf Tryd.f72) (0 : Nat)) (h21 n v l i) k = (brn (decide ((↑i : Int) < n)) ((0 : Int) ≤ IntKind.wrap IntKind.u64 (IntKind.wrap .i64 ((8 : Int) * IntKind.wrap .i64 (IntKind.wrap .i64 (n - 1) - (↑i : Int)))) ∧ (l.length + (List.map u8 [IntKind.wrap IntKind.u8 (shrV IntKind.u64 v (IntKind.wrap IntKind.u64 (IntKind.wrap .i64 ((8 : Int) * IntKind.wrap .i64 (IntKind.wrap .i64 (n - 1) - (↑i : Int))))))]).length) * 1 ≤ 140737488355328 ∧ l.length + (List.map u8 [IntKind.wrap IntKind.u8 (shrV IntKind.u64 v (IntKind.wrap IntKind.u64 (IntKind.wrap .i64 ((8 : Int) * IntKind.wrap .i64 (IntKind.wrap .i64 (n - 1) - (↑i : Int))))))]).length ≤ 140737488355328 ∧ k AX.normal (St.mk [.dead, .imm (.int .i64 n), .imm (.int IntKind.u64 v), .dead, .dead, .dead, .dead, AV.row (0 : Nat) (1 : Nat), .imm (.int .i64 (↑i : Int)), .dead, .dead, .dead, .dead, .dead, .dead, .dead, .imm (.int .i64 n), .imm (.int .i64 (IntKind.wrap .i64 ((↑i : Int) + 1))), .imm (.bool (decide ((↑i : Int) < n))), .imm (.int .i64 (↑i : Int)), AV.row (0 : Nat) (0 : Nat), .imm (.int IntKind.u64 v), .imm (.int .i64 n), .imm (.int .i64
 (IntKind.wrap .i64 (n - 1))), .imm (.int .i64 (↑i : Int)), .imm (.int .i64 (IntKind.wrap .i64 (IntKind.wrap .i64 (n - 1) - (↑i : Int)))), .imm (.int .i64 (IntKind.wrap .i64 ((8 : Int) * IntKind.wrap .i64 (IntKind.wrap .i64 (n - 1) - (↑i : Int))))), .imm (.int IntKind.u64 (IntKind.wrap IntKind.u64 (IntKind.wrap .i64 ((8 : Int) * IntKind.wrap .i64 (IntKind.wrap .i64 (n - 1) - (↑i : Int)))))), .imm (.int IntKind.u64 (shrV IntKind.u64 v (IntKind.wrap IntKind.u64 (IntKind.wrap .i64 ((8 : Int) * IntKind.wrap .i64 (IntKind.wrap .i64 (n - 1) - (↑i : Int))))))), .imm (.int .u8 (IntKind.wrap IntKind.u8 (shrV IntKind.u64 v (IntKind.wrap IntKind.u64 (IntKind.wrap .i64 ((8 : Int) * IntKind.wrap .i64 (IntKind.wrap .i64 (n - 1) - (↑i : Int)))))))), .full (IV.bytes (List.map u8 [IntKind.wrap IntKind.u8 (shrV IntKind.u64 v (IntKind.wrap IntKind.u64 (IntKind.wrap .i64 ((8 : Int) * IntKind.wrap .i64 (IntKind.wrap .i64 (n - 1) - (↑i : Int))))))])), AV.row (0 : Nat) (1 : Nat), .imm (.int .i64 (IntKind.wrap .i64 ((↑i : Int) + 1))), .dead] [(0, Ob.mk true 1 (AObj.row (IV.bytes (l ++ List.map u8 [IntKind.wrap IntKind.u8 (shrV IntKind.u64 v (IntKind.wrap IntKind.u64 (IntKind.wrap .i64 ((8 : Int) *
 IntKind.wrap .i64 (IntKind.wrap .i64 (n - 1) - (↑i : Int))))))]))))] (1 : Nat) [])) (k (AX.exit (0 : Nat)) (St.mk [.dead, .imm (.int .i64 n), .imm (.int IntKind.u64 v), .dead, .dead, .dead, .dead, AV.row (0 : Nat) (0 : Nat), .dead, .dead, .dead, .dead, .dead, .dead, .dead, .dead, .imm (.int .i64 n), .imm (.int .i64 (↑i : Int)), .imm (.bool (decide ((↑i : Int) < n))), .dead, .dead, .dead, .dead, .dead, .dead, .dead, .dead, .dead, .dead, .dead, .dead, .dead, .dead, .dead] [(0, Ob.mk true 0 (AObj.row (IV.bytes l)))] (1 : Nat) []))) := by kernel_rfl
theorem f22_lp (b : List UInt8) (n : Int) (v : Int) (own : Bool) (l : List UInt8) (i : Nat) (k : AX → St → Prop) : evCode C0 (loopB (bodyOf Tryd.f73) (0 : Nat)) (h22 b n v own l i) k = (brn (decide ((↑i : Int) < n)) ((256 : Int) ≠ 0 ∧ ((List.map u8 [IntKind.wrap IntKind.u8 (Int.tmod v (256 : Int))]).length + l.length) * 1 ≤ 140737488355328 ∧ (List.map u8 [IntKind.wrap IntKind.u8 (Int.tmod v (256 : Int))]).length + l.length ≤ 140737488355328 ∧ (256 : Int) ≠ 0 ∧ k AX.normal (St.mk [.imm (.bytes b), .imm (.int .i64 n), .imm (.int IntKind.u64 (IntKind.wrap IntKind.u64 (Int.tdiv v (256 : Int)))), .dead, .dead, .dead, .dead, AV.row (1 : Nat) (0 : Nat), .imm (.int .i64 (IntKind.wrap .i64 ((↑i : Int) + 1))), .dead, .imm (.int .i64 (↑i : Int)), .imm (.int .i64 n), .imm (.bool (decide ((↑i : Int) < n))), .imm (.int .i64 (↑i : Int)), .imm (.int .i64 (IntKind.wrap .i64 ((↑i : Int) + 1))), .imm (.int IntKind.u64 v), .imm (.int IntKind.u64 (Int.tmod v (256 : Int))), .imm (.int .u8 (IntKind.wrap IntKind.u8 (Int.tmod v (256 : Int)))), .full (IV.bytes (List.map u8 [IntKind.wrap IntKind.u8 (Int.tmod v (256 : Int))])), AV.row (0 : Nat) (0 : Nat), AV.row (1 : Nat) (0 : Nat), .imm (.int IntKind.u64 v),
 .imm (.int IntKind.u64 (IntKind.wrap IntKind.u64 (Int.tdiv v (256 : Int)))), .dead, .dead, .dead, .dead, .dead] [((0 : Nat), Ob.mk own (0 : Nat) (AObj.row (IV.bytes l))), ((1 : Nat), Ob.mk (bif noneIV ((fun l => IV.bytes (List.map u8 l)) [IntKind.wrap IntKind.u8 (Int.tmod v (256 : Int))]) then true else someIV (IV.bytes l)) (0 : Nat) (AObj.row (IV.bytes (List.map u8 [IntKind.wrap IntKind.u8 (Int.tmod v (256 : Int))] ++ l))))] (2 : Nat) [])) (k (AX.exit (0 : Nat)) (St.mk [.imm (.bytes b), .imm (.int .i64 n), .imm (.int IntKind.u64 v), .dead, .dead, .dead, .dead, AV.row (0 : Nat) (0 : Nat), .imm (.int .i64 (↑i : Int)), .dead, .imm (.int .i64 (↑i : Int)), .imm (.int .i64 n), .imm (.bool (decide ((↑i : Int) < n))), .dead, .dead, .dead, .dead, .dead, .dead, .dead, .dead, .dead, .dead, .dead, .dead, .dead, .dead, .dead] [((0 : Nat), Ob.mk own (0 : Nat) (AObj.row (IV.bytes l)))] (1 : Nat) []))) := by kernel_rfl
theorem f12_lp (xs : List (List IV)) (l : List UInt8) (i : Nat) (k : AX → St → Prop) : evCode C3 (loopB (bodyOf Tryd.f55) (0 : Nat)) (h12 xs l i) k = (brn (decide ((↑i : Int) < (↑(List.length xs) : Int))) ((0 : Int) ≤ (↑i : Int) ∧ (↑i : Int) < (↑(List.length xs) : Int) ∧ kcells (List.getD xs (↑i : Int).toNat []) (0 : Nat) (lapp [CK.int IntKind.i32] (lapp [CK.bool] (lapp [CK.int IntKind.u8] []))) = List.getD xs (↑i : Int).toNat [] ∧ (l.length : Int) ≤ 1000000000000 ∧ (0 : Int) ≤ 4 ∧ (4 : Int) ≤ 8 ∧ (0 : Int) ≤ IntKind.wrap IntKind.u64 (IntKind.wrap .i64 (ivInt (ivNth (List.getD xs (↑i : Int).toNat []) (0 : Nat)))) ∧ IntKind.wrap IntKind.u64 (IntKind.wrap .i64 (ivInt (ivNth (List.getD xs (↑i : Int).toNat []) (0 : Nat)))) < 18446744073709551616 ∧ brn (ivBool (ivNth (List.getD xs (↑i : Int).toNat []) ((0 : Nat) + 1))) (((l ++ be (4 : Int).toNat (IntKind.wrap IntKind.u64 (IntKind.wrap .i64 (ivInt (ivNth (List.getD xs (↑i : Int).toNat []) (0 : Nat))))).toNat).length + (List.map u8 [(1 : Int), ivInt (ivNth (List.getD xs (↑i : Int).toNat []) ((0 : Nat) + 1 + 1))]).length) * 1 ≤ 140737488355328 ∧ (l ++ be (4 : Int).toNat (IntKind.wrap IntKind.u64 (IntKind.wrap .i64 (ivInt (ivNth (List.getD
 xs (↑i : Int).toNat []) (0 : Nat))))).toNat).length + (List.map u8 [(1 : Int), ivInt (ivNth (List.getD xs (↑i : Int).toNat []) ((0 : Nat) + 1 + 1))]).length ≤ 140737488355328 ∧ k AX.normal (St.mk [.dead, .dead, .dead, AV.row (2 : Nat) (1 : Nat), .dead, .ptr 1 0, .imm (.int .u8 1), .dead, .dead, .dead, .dead, .imm (.sl (3 : Nat) xs), .imm (.int .i64 (↑(List.length xs) : Int)), .imm (.int .i64 (IntKind.wrap .i64 ((↑i : Int) + 1))), .imm (.bool (decide ((↑i : Int) < (↑(List.length xs) : Int)))), AV.elv [IV.int IntKind.i32 (ivInt (ivNth (List.getD xs (↑i : Int).toNat []) (0 : Nat))), IV.bool (ivBool (ivNth (List.getD xs (↑i : Int).toNat []) ((0 : Nat) + 1))), IV.int .u8 (ivInt (ivNth (List.getD xs (↑i : Int).toNat []) ((0 : Nat) + 1 + 1)))], .agg [.imm (.int IntKind.i32 (ivInt (ivNth (List.getD xs (↑i : Int).toNat []) (0 : Nat)))), .imm (.bool (ivBool (ivNth (List.getD xs (↑i : Int).toNat []) ((0 : Nat) + 1)))), .imm (.int .u8 (ivInt (ivNth (List.getD xs (↑i : Int).toNat []) ((0 : Nat) + 1 + 1))))], AV.row (0 : Nat) (0 : Nat), .ptr 1 0, .imm (.int IntKind.i32 (ivInt (ivNth (List.getD xs (↑i : Int).toNat []) (0 : Nat)))), .imm (.int .i64 (IntKind.wrap .i64 (ivInt (ivNth (List.getD xs (↑i
 : Int).toNat []) (0 : Nat))))), .imm (.int IntKind.u64 (IntKind.wrap IntKind.u64 (IntKind.wrap .i64 (ivInt (ivNth (List.getD xs (↑i : Int).toNat []) (0 : Nat)))))), AV.row (2 : Nat) (0 : Nat), .ptr 1 1, .imm (.bool (ivBool (ivNth (List.getD xs (↑i : Int).toNat []) ((0 : Nat) + 1)))), AV.row (2 : Nat) (0 : Nat), .imm (.int .u8 1), .ptr 1 2, .imm (.int .u8 (ivInt (ivNth (List.getD xs (↑i : Int).toNat []) ((0 : Nat) + 1 + 1)))), .full (IV.bytes (List.map u8 [(1 : Int), ivInt (ivNth (List.getD xs (↑i : Int).toNat []) ((0 : Nat) + 1 + 1))])), AV.row (2 : Nat) (1 : Nat), .imm (.int .i64 (IntKind.wrap .i64 ((↑i : Int) + 1))), .dead] [(0, Ob.mk false 0 (AObj.row (IV.bytes l))), (1, Ob.mk true 0 (AObj.cells [.imm (.int IntKind.i32 (ivInt (ivNth (List.getD xs (↑i : Int).toNat []) (0 : Nat)))), .imm (.bool (ivBool (ivNth (List.getD xs (↑i : Int).toNat []) ((0 : Nat) + 1)))), .imm (.int .u8 (ivInt (ivNth (List.getD xs (↑i : Int).toNat []) ((0 : Nat) + 1 + 1))))])), (2, Ob.mk true 1 (AObj.row (IV.bytes (l ++ be (4 : Int).toNat (IntKind.wrap IntKind.u64 (IntKind.wrap .i64 (ivInt (ivNth (List.getD xs (↑i : Int).toNat []) (0 : Nat))))).toNat ++ List.map u8 [(1 : Int), ivInt (ivNth (List.getD xs (↑i
 : Int).toNat []) ((0 : Nat) + 1 + 1))]))))] (3 : Nat) [])) (((l ++ be (4 : Int).toNat (IntKind.wrap IntKind.u64 (IntKind.wrap .i64 (ivInt (ivNth (List.getD xs (↑i : Int).toNat []) (0 : Nat))))).toNat).length + (List.map u8 [(0 : Int), ivInt (ivNth (List.getD xs (↑i : Int).toNat []) ((0 : Nat) + 1 + 1))]).length) * 1 ≤ 140737488355328 ∧ (l ++ be (4 : Int).toNat (IntKind.wrap IntKind.u64 (IntKind.wrap .i64 (ivInt (ivNth (List.getD xs (↑i : Int).toNat []) (0 : Nat))))).toNat).length + (List.map u8 [(0 : Int), ivInt (ivNth (List.getD xs (↑i : Int).toNat []) ((0 : Nat) + 1 + 1))]).length ≤ 140737488355328 ∧ k AX.normal (St.mk [.dead, .dead, .dead, AV.row (2 : Nat) (1 : Nat), .dead, .ptr 1 0, .imm (.int .u8 0), .dead, .dead, .dead, .dead, .imm (.sl (3 : Nat) xs), .imm (.int .i64 (↑(List.length xs) : Int)), .imm (.int .i64 (IntKind.wrap .i64 ((↑i : Int) + 1))), .imm (.bool (decide ((↑i : Int) < (↑(List.length xs) : Int)))), AV.elv [IV.int IntKind.i32 (ivInt (ivNth (List.getD xs (↑i : Int).toNat []) (0 : Nat))), IV.bool (ivBool (ivNth (List.getD xs (↑i : Int).toNat []) ((0 : Nat) + 1))), IV.int .u8 (ivInt (ivNth (List.getD xs (↑i : Int).toNat []) ((0 : Nat) + 1 + 1)))], .agg [.imm (.int
 IntKind.i32 (ivInt (ivNth (List.getD xs (↑i : Int).toNat []) (0 : Nat)))), .imm (.bool (ivBool (ivNth (List.getD xs (↑i : Int).toNat []) ((0 : Nat) + 1)))), .imm (.int .u8 (ivInt (ivNth (List.getD xs (↑i : Int).toNat []) ((0 : Nat) + 1 + 1))))], AV.row (0 : Nat) (0 : Nat), .ptr 1 0, .imm (.int IntKind.i32 (ivInt (ivNth (List.getD xs (↑i : Int).toNat []) (0 : Nat)))), .imm (.int .i64 (IntKind.wrap .i64 (ivInt (ivNth (List.getD xs (↑i : Int).toNat []) (0 : Nat))))), .imm (.int IntKind.u64 (IntKind.wrap IntKind.u64 (IntKind.wrap .i64 (ivInt (ivNth (List.getD xs (↑i : Int).toNat []) (0 : Nat)))))), AV.row (2 : Nat) (0 : Nat), .ptr 1 1, .imm (.bool (ivBool (ivNth (List.getD xs (↑i : Int).toNat []) ((0 : Nat) + 1)))), AV.row (2 : Nat) (0 : Nat), .imm (.int .u8 0), .ptr 1 2, .imm (.int .u8 (ivInt (ivNth (List.getD xs (↑i : Int).toNat []) ((0 : Nat) + 1 + 1)))), .full (IV.bytes (List.map u8 [(0 : Int), ivInt (ivNth (List.getD xs (↑i : Int).toNat []) ((0 : Nat) + 1 + 1))])), AV.row (2 : Nat) (1 : Nat), .imm (.int .i64 (IntKind.wrap .i64 ((↑i : Int) + 1))), .dead] [(0, Ob.mk false 0 (AObj.row (IV.bytes l))), (1, Ob.mk true 0 (AObj.cells [.imm (.int IntKind.i32 (ivInt (ivNth (List.getD xs (↑i
 : Int).toNat []) (0 : Nat)))), .imm (.bool (ivBool (ivNth (List.getD xs (↑i : Int).toNat []) ((0 : Nat) + 1)))), .imm (.int .u8 (ivInt (ivNth (List.getD xs (↑i : Int).toNat []) ((0 : Nat) + 1 + 1))))])), (2, Ob.mk true 1 (AObj.row (IV.bytes (l ++ be (4 : Int).toNat (IntKind.wrap IntKind.u64 (IntKind.wrap .i64 (ivInt (ivNth (List.getD xs (↑i : Int).toNat []) (0 : Nat))))).toNat ++ List.map u8 [(0 : Int), ivInt (ivNth (List.getD xs (↑i : Int).toNat []) ((0 : Nat) + 1 + 1))]))))] (3 : Nat) []))) (k (AX.exit (0 : Nat)) (St.mk [.dead, .dead, .dead, AV.row (0 : Nat) (0 : Nat), .dead, .dead, .dead, .dead, .dead, .dead, .dead, .imm (.sl (3 : Nat) xs), .imm (.int .i64 (↑(List.length xs) : Int)), .imm (.int .i64 (↑i : Int)), .imm (.bool (decide ((↑i : Int) < (↑(List.length xs) : Int)))), .dead, .dead, .dead, .dead, .dead, .dead, .dead, .dead, .dead, .dead, .dead, .dead, .dead, .dead, .dead, .dead, .dead, .dead] [(0, Ob.mk true 0 (AObj.row (IV.bytes l)))] (1 : Nat) []))) := by kernel_rfl
theorem f13_lp (xs : List (List IV)) (l : List UInt8) (i : Nat) (k : AX → St → Prop) : evCode C3 (loopB (bodyOf Tryd.f59) (0 : Nat)) (h13 xs l i) k = (brn (decide ((↑i : Int) < (↑(List.length xs) : Int))) ((0 : Int) ≤ (↑i : Int) ∧ (↑i : Int) < (↑(List.length xs) : Int) ∧ kcells (List.getD xs (↑i : Int).toNat []) (0 : Nat) (lapp [CK.int IntKind.i32] (lapp [CK.bool] (lapp [CK.int IntKind.u8] []))) = List.getD xs (↑i : Int).toNat [] ∧ (l.length : Int) ≤ 1000000000000 ∧ (0 : Int) ≤ 4 ∧ (4 : Int) ≤ 8 ∧ (0 : Int) ≤ IntKind.wrap IntKind.u64 (IntKind.wrap .i64 (ivInt (ivNth (List.getD xs (↑i : Int).toNat []) (0 : Nat)))) ∧ IntKind.wrap IntKind.u64 (IntKind.wrap .i64 (ivInt (ivNth (List.getD xs (↑i : Int).toNat []) (0 : Nat)))) < 18446744073709551616 ∧ (0 : Int) ≤ (↑i : Int) ∧ (↑i : Int) < (↑(List.length xs) : Int) ∧ kcells (List.getD xs (↑i : Int).toNat []) (0 : Nat) (lapp [CK.int IntKind.i32] (lapp [CK.bool] (lapp [CK.int IntKind.u8] []))) = List.getD xs (↑i : Int).toNat [] ∧ brn (ivBool (ivNth (List.getD xs (↑i : Int).toNat []) ((0 : Nat) + 1))) ((0 : Int) ≤ (↑i : Int) ∧ (↑i : Int) < (↑(List.length xs) : Int) ∧ kcells (List.getD xs (↑i : Int).toNat []) (0 : Nat) (lapp [CK.int IntKind.i32]
 (lapp [CK.bool] (lapp [CK.int IntKind.u8] []))) = List.getD xs (↑i : Int).toNat [] ∧ ((l ++ be (4 : Int).toNat (IntKind.wrap IntKind.u64 (IntKind.wrap .i64 (ivInt (ivNth (List.getD xs (↑i : Int).toNat []) (0 : Nat))))).toNat).length + (List.map u8 [(1 : Int), ivInt (ivNth (List.getD xs (↑i : Int).toNat []) ((0 : Nat) + 1 + 1))]).length) * 1 ≤ 140737488355328 ∧ (l ++ be (4 : Int).toNat (IntKind.wrap IntKind.u64 (IntKind.wrap .i64 (ivInt (ivNth (List.getD xs (↑i : Int).toNat []) (0 : Nat))))).toNat).length + (List.map u8 [(1 : Int), ivInt (ivNth (List.getD xs (↑i : Int).toNat []) ((0 : Nat) + 1 + 1))]).length ≤ 140737488355328 ∧ k AX.normal (St.mk [.imm (.sl (3 : Nat) xs), .dead, .dead, AV.row (1 : Nat) (1 : Nat), .imm (.int .i64 (IntKind.wrap .i64 ((↑i : Int) + 1))), .imm (.int .u8 1), .imm (.int .i64 (↑i : Int)), .imm (.sl (3 : Nat) xs), .imm (.int .i64 (↑(List.length xs) : Int)), .imm (.bool (decide ((↑i : Int) < (↑(List.length xs) : Int)))), .imm (.int .i64 (↑i : Int)), .imm (.int .i64 (IntKind.wrap .i64 ((↑i : Int) + 1))), AV.row (0 : Nat) (0 : Nat), .imm (.sl (3 : Nat) xs), .imm (.int .i64 (↑i : Int)), AV.elv [IV.int IntKind.i32 (ivInt (ivNth (List.getD xs (↑i : Int).toNat [])
 (0 : Nat))), IV.bool (ivBool (ivNth (List.getD xs (↑i : Int).toNat []) ((0 : Nat) + 1))), IV.int .u8 (ivInt (ivNth (List.getD xs (↑i : Int).toNat []) ((0 : Nat) + 1 + 1)))], AV.elv [IV.int IntKind.i32 (ivInt (ivNth (List.getD xs (↑i : Int).toNat []) (0 : Nat))), IV.bool (ivBool (ivNth (List.getD xs (↑i : Int).toNat []) ((0 : Nat) + 1))), IV.int .u8 (ivInt (ivNth (List.getD xs (↑i : Int).toNat []) ((0 : Nat) + 1 + 1)))], .imm (.int IntKind.i32 (ivInt (ivNth (List.getD xs (↑i : Int).toNat []) (0 : Nat)))), .imm (.int .i64 (IntKind.wrap .i64 (ivInt (ivNth (List.getD xs (↑i : Int).toNat []) (0 : Nat))))), .imm (.int IntKind.u64 (IntKind.wrap IntKind.u64 (IntKind.wrap .i64 (ivInt (ivNth (List.getD xs (↑i : Int).toNat []) (0 : Nat)))))), AV.row (1 : Nat) (0 : Nat), .imm (.sl (3 : Nat) xs), .imm (.int .i64 (↑i : Int)), AV.elv [IV.int IntKind.i32 (ivInt (ivNth (List.getD xs (↑i : Int).toNat []) (0 : Nat))), IV.bool (ivBool (ivNth (List.getD xs (↑i : Int).toNat []) ((0 : Nat) + 1))), IV.int .u8 (ivInt (ivNth (List.getD xs (↑i : Int).toNat []) ((0 : Nat) + 1 + 1)))], AV.elv [IV.bool (ivBool (ivNth (List.getD xs (↑i : Int).toNat []) ((0 : Nat) + 1))), IV.int .u8 (ivInt (ivNth (List.getD xs (↑i
 : Int).toNat []) ((0 : Nat) + 1 + 1)))], .imm (.bool (ivBool (ivNth (List.getD xs (↑i : Int).toNat []) ((0 : Nat) + 1)))), AV.row (1 : Nat) (0 : Nat), .imm (.int .u8 1), .imm (.sl (3 : Nat) xs), .imm (.int .i64 (↑i : Int)), AV.elv [IV.int IntKind.i32 (ivInt (ivNth (List.getD xs (↑i : Int).toNat []) (0 : Nat))), IV.bool (ivBool (ivNth (List.getD xs (↑i : Int).toNat []) ((0 : Nat) + 1))), IV.int .u8 (ivInt (ivNth (List.getD xs (↑i : Int).toNat []) ((0 : Nat) + 1 + 1)))], AV.elv [IV.int .u8 (ivInt (ivNth (List.getD xs (↑i : Int).toNat []) ((0 : Nat) + 1 + 1)))], .imm (.int .u8 (ivInt (ivNth (List.getD xs (↑i : Int).toNat []) ((0 : Nat) + 1 + 1)))), .full (IV.bytes (List.map u8 [(1 : Int), ivInt (ivNth (List.getD xs (↑i : Int).toNat []) ((0 : Nat) + 1 + 1))])), AV.row (1 : Nat) (1 : Nat), .dead] [(0, Ob.mk false 0 (AObj.row (IV.bytes l))), (1, Ob.mk true 1 (AObj.row (IV.bytes (l ++ be (4 : Int).toNat (IntKind.wrap IntKind.u64 (IntKind.wrap .i64 (ivInt (ivNth (List.getD xs (↑i : Int).toNat []) (0 : Nat))))).toNat ++ List.map u8 [(1 : Int), ivInt (ivNth (List.getD xs (↑i : Int).toNat []) ((0 : Nat) + 1 + 1))]))))] (2 : Nat) [])) ((0 : Int) ≤ (↑i : Int) ∧ (↑i : Int) < (↑(List.length xs) :
 Int) ∧ kcells (List.getD xs (↑i : Int).toNat []) (0 : Nat) (lapp [CK.int IntKind.i32] (lapp [CK.bool] (lapp [CK.int IntKind.u8] []))) = List.getD xs (↑i : Int).toNat [] ∧ ((l ++ be (4 : Int).toNat (IntKind.wrap IntKind.u64 (IntKind.wrap .i64 (ivInt (ivNth (List.getD xs (↑i : Int).toNat []) (0 : Nat))))).toNat).length + (List.map u8 [(0 : Int), ivInt (ivNth (List.getD xs (↑i : Int).toNat []) ((0 : Nat) + 1 + 1))]).length) * 1 ≤ 140737488355328 ∧ (l ++ be (4 : Int).toNat (IntKind.wrap IntKind.u64 (IntKind.wrap .i64 (ivInt (ivNth (List.getD xs (↑i : Int).toNat []) (0 : Nat))))).toNat).length + (List.map u8 [(0 : Int), ivInt (ivNth (List.getD xs (↑i : Int).toNat []) ((0 : Nat) + 1 + 1))]).length ≤ 140737488355328 ∧ k AX.normal (St.mk [.imm (.sl (3 : Nat) xs), .dead, .dead, AV.row (1 : Nat) (1 : Nat), .imm (.int .i64 (IntKind.wrap .i64 ((↑i : Int) + 1))), .imm (.int .u8 0), .imm (.int .i64 (↑i : Int)), .imm (.sl (3 : Nat) xs), .imm (.int .i64 (↑(List.length xs) : Int)), .imm (.bool (decide ((↑i : Int) < (↑(List.length xs) : Int)))), .imm (.int .i64 (↑i : Int)), .imm (.int .i64 (IntKind.wrap .i64 ((↑i : Int) + 1))), AV.row (0 : Nat) (0 : Nat), .imm (.sl (3 : Nat) xs), .imm (.int .i64 (↑i
 : Int)), AV.elv [IV.int IntKind.i32 (ivInt (ivNth (List.getD xs (↑i : Int).toNat []) (0 : Nat))), IV.bool (ivBool (ivNth (List.getD xs (↑i : Int).toNat []) ((0 : Nat) + 1))), IV.int .u8 (ivInt (ivNth (List.getD xs (↑i : Int).toNat []) ((0 : Nat) + 1 + 1)))], AV.elv [IV.int IntKind.i32 (ivInt (ivNth (List.getD xs (↑i : Int).toNat []) (0 : Nat))), IV.bool (ivBool (ivNth (List.getD xs (↑i : Int).toNat []) ((0 : Nat) + 1))), IV.int .u8 (ivInt (ivNth (List.getD xs (↑i : Int).toNat []) ((0 : Nat) + 1 + 1)))], .imm (.int IntKind.i32 (ivInt (ivNth (List.getD xs (↑i : Int).toNat []) (0 : Nat)))), .imm (.int .i64 (IntKind.wrap .i64 (ivInt (ivNth (List.getD xs (↑i : Int).toNat []) (0 : Nat))))), .imm (.int IntKind.u64 (IntKind.wrap IntKind.u64 (IntKind.wrap .i64 (ivInt (ivNth (List.getD xs (↑i : Int).toNat []) (0 : Nat)))))), AV.row (1 : Nat) (0 : Nat), .imm (.sl (3 : Nat) xs), .imm (.int .i64 (↑i : Int)), AV.elv [IV.int IntKind.i32 (ivInt (ivNth (List.getD xs (↑i : Int).toNat []) (0 : Nat))), IV.bool (ivBool (ivNth (List.getD xs (↑i : Int).toNat []) ((0 : Nat) + 1))), IV.int .u8 (ivInt (ivNth (List.getD xs (↑i : Int).toNat []) ((0 : Nat) + 1 + 1)))], AV.elv [IV.bool (ivBool (ivNth (List.getD
 xs (↑i : Int).toNat []) ((0 : Nat) + 1))), IV.int .u8 (ivInt (ivNth (List.getD xs (↑i : Int).toNat []) ((0 : Nat) + 1 + 1)))], .imm (.bool (ivBool (ivNth (List.getD xs (↑i : Int).toNat []) ((0 : Nat) + 1)))), AV.row (1 : Nat) (0 : Nat), .imm (.int .u8 0), .imm (.sl (3 : Nat) xs), .imm (.int .i64 (↑i : Int)), AV.elv [IV.int IntKind.i32 (ivInt (ivNth (List.getD xs (↑i : Int).toNat []) (0 : Nat))), IV.bool (ivBool (ivNth (List.getD xs (↑i : Int).toNat []) ((0 : Nat) + 1))), IV.int .u8 (ivInt (ivNth (List.getD xs (↑i : Int).toNat []) ((0 : Nat) + 1 + 1)))], AV.elv [IV.int .u8 (ivInt (ivNth (List.getD xs (↑i : Int).toNat []) ((0 : Nat) + 1 + 1)))], .imm (.int .u8 (ivInt (ivNth (List.getD xs (↑i : Int).toNat []) ((0 : Nat) + 1 + 1)))), .full (IV.bytes (List.map u8 [(0 : Int), ivInt (ivNth (List.getD xs (↑i : Int).toNat []) ((0 : Nat) + 1 + 1))])), AV.row (1 : Nat) (1 : Nat), .dead] [(0, Ob.mk false 0 (AObj.row (IV.bytes l))), (1, Ob.mk true 1 (AObj.row (IV.bytes (l ++ be (4 : Int).toNat (IntKind.wrap IntKind.u64 (IntKind.wrap .i64 (ivInt (ivNth (List.getD xs (↑i : Int).toNat []) (0 : Nat))))).toNat ++ List.map u8 [(0 : Int), ivInt (ivNth (List.getD xs (↑i : Int).toNat []) ((0 : Nat) + 1 +
 1))]))))] (2 : Nat) []))) (k (AX.exit (0 : Nat)) (St.mk [.imm (.sl (3 : Nat) xs), .dead, .dead, AV.row (0 : Nat) (0 : Nat), .imm (.int .i64 (↑i : Int)), .dead, .imm (.int .i64 (↑i : Int)), .imm (.sl (3 : Nat) xs), .imm (.int .i64 (↑(List.length xs) : Int)), .imm (.bool (decide ((↑i : Int) < (↑(List.length xs) : Int)))), .dead, .dead, .dead, .dead, .dead, .dead, .dead, .dead, .dead, .dead, .dead, .dead, .dead, .dead, .dead, .dead, .dead, .dead, .dead, .dead, .dead, .dead, .dead, .dead, .dead, .dead] [(0, Ob.mk true 0 (AObj.row (IV.bytes l)))] (1 : Nat) []))) := by kernel_rfl
theorem f9_lpa (b : List UInt8) (i : Nat) (k : AX → St → Prop) : evCode C2 (loopB (bodyOf Tryd.f39) (0 : Nat)) (h9a b i) k = ((6 : Int) ≠ 0 ∧ brn (decide ((↑i : Int) < IntKind.wrap .i64 (Int.tdiv (b.length : Int) (6 : Int)))) ((0 : Int) ≤ IntKind.wrap .i64 (IntKind.wrap .i64 ((6 : Int) * (↑i : Int)) + 4) ∧ IntKind.wrap .i64 (IntKind.wrap .i64 ((6 : Int) * (↑i : Int)) + 4) < (b.length : Int) ∧ brn (decide ((↑(UInt8.toNat (List.getD b (IntKind.wrap .i64 (IntKind.wrap .i64 ((6 : Int) * (↑i : Int)) + 4)).toNat (0 : UInt8))) : Int) > 1)) (k AX.ret (St.mk [.imm (.bytes b), .dead, .full (IV.sl (3 : Nat) []), .imm (.bool false), .imm (.int .i64 (↑i : Int)), .dead, .dead, .dead, .dead, .imm (.int .i64 (↑i : Int)), .imm (.bytes b), .imm (.int .i64 (b.length : Int)), .imm (.int .i64 (IntKind.wrap .i64 (Int.tdiv (b.length : Int) (6 : Int)))), .imm (.bool (decide ((↑i : Int) < IntKind.wrap .i64 (Int.tdiv (b.length : Int) (6 : Int))))), .dead, .dead, .imm (.bytes b), .imm (.int .i64 (↑i : Int)), .imm (.int .i64 (IntKind.wrap .i64 ((6 : Int) * (↑i : Int)))), .imm (.int .i64 (IntKind.wrap .i64 (IntKind.wrap .i64 ((6 : Int) * (↑i : Int)) + 4))), AV.elv [IV.int .u8 (↑(UInt8.toNat (List.getD b
 (IntKind.wrap .i64 (IntKind.wrap .i64 ((6 : Int) * (↑i : Int)) + 4)).toNat (0 : UInt8))) : Int)], .imm (.int .u8 (↑(UInt8.toNat (List.getD b (IntKind.wrap .i64 (IntKind.wrap .i64 ((6 : Int) * (↑i : Int)) + 4)).toNat (0 : UInt8))) : Int)), .imm (.bool (decide ((↑(UInt8.toNat (List.getD b (IntKind.wrap .i64 (IntKind.wrap .i64 ((6 : Int) * (↑i : Int)) + 4)).toNat (0 : UInt8))) : Int) > 1))), .dead, .dead, .dead, .dead, .dead, .dead, .dead, .dead, .dead, .dead, .dead, .dead, .dead, .dead, .dead, .dead, .dead, .dead, .dead, .dead, .dead, .dead, .dead, .dead, .dead, .dead, .dead, .dead, .dead, .dead, .dead, .dead, .dead, .dead] [] (0 : Nat) [])) (k AX.normal (St.mk [.imm (.bytes b), .dead, .dead, .dead, .imm (.int .i64 (IntKind.wrap .i64 ((↑i : Int) + 1))), .dead, .dead, .dead, .dead, .imm (.int .i64 (↑i : Int)), .imm (.bytes b), .imm (.int .i64 (b.length : Int)), .imm (.int .i64 (IntKind.wrap .i64 (Int.tdiv (b.length : Int) (6 : Int)))), .imm (.bool (decide ((↑i : Int) < IntKind.wrap .i64 (Int.tdiv (b.length : Int) (6 : Int))))), .imm (.int .i64 (↑i : Int)), .imm (.int .i64 (IntKind.wrap .i64 ((↑i : Int) + 1))), .imm (.bytes b), .imm (.int .i64 (↑i : Int)), .imm (.int .i64 (IntKind.wrap
 .i64 ((6 : Int) * (↑i : Int)))), .imm (.int .i64 (IntKind.wrap .i64 (IntKind.wrap .i64 ((6 : Int) * (↑i : Int)) + 4))), AV.elv [IV.int .u8 (↑(UInt8.toNat (List.getD b (IntKind.wrap .i64 (IntKind.wrap .i64 ((6 : Int) * (↑i : Int)) + 4)).toNat (0 : UInt8))) : Int)], .imm (.int .u8 (↑(UInt8.toNat (List.getD b (IntKind.wrap .i64 (IntKind.wrap .i64 ((6 : Int) * (↑i : Int)) + 4)).toNat (0 : UInt8))) : Int)), .imm (.bool (decide ((↑(UInt8.toNat (List.getD b (IntKind.wrap .i64 (IntKind.wrap .i64 ((6 : Int) * (↑i : Int)) + 4)).toNat (0 : UInt8))) : Int) > 1))), .dead, .dead, .dead, .dead, .dead, .dead, .dead, .dead, .dead, .dead, .dead, .dead, .dead, .dead, .dead, .dead, .dead, .dead, .dead, .dead, .dead, .dead, .dead, .dead, .dead, .dead, .dead, .dead, .dead, .dead, .dead, .dead, .dead, .dead] [] (0 : Nat) []))) (k (AX.exit (0 : Nat)) (St.mk [.imm (.bytes b), .dead, .dead, .dead, .imm (.int .i64 (↑i : Int)), .dead, .dead, .dead, .dead, .imm (.int .i64 (↑i : Int)), .imm (.bytes b), .imm (.int .i64 (b.length : Int)), .imm (.int .i64 (IntKind.wrap .i64 (Int.tdiv (b.length : Int) (6 : Int)))), .imm (.bool (decide ((↑i : Int) < IntKind.wrap .i64 (Int.tdiv (b.length : Int) (6 : Int))))), .dead,
 .dead, .dead, .dead, .dead, .dead, .dead, .dead, .dead, .dead, .dead, .dead, .dead, .dead, .dead, .dead, .dead, .dead, .dead, .dead, .dead, .dead, .dead, .dead, .dead, .dead, .dead, .dead, .dead, .dead, .dead, .dead, .dead, .dead, .dead, .dead, .dead, .dead, .dead, .dead, .dead, .dead, .dead] [] (0 : Nat) []))) := by kernel_rfl
theorem f9_lpb (b : List UInt8) (L : List Ty) (i : Nat) (k : AX → St → Prop) : evCode C2 (loopB (bodyOf Tryd.f39) (1 : Nat)) (h9b b L i) k = ((6 : Int) ≠ 0 ∧ brn (decide ((↑i : Int) < IntKind.wrap .i64 (Int.tdiv (b.length : Int) (6 : Int)))) ((b.length : Int) ≤ big ∧ (0 : Int) ≤ IntKind.wrap .i64 ((6 : Int) * (↑i : Int)) ∧ IntKind.wrap .i64 ((6 : Int) * (↑i : Int)) ≤ big ∧ (1 : Int) ≤ 4 ∧ (4 : Int) ≤ 8 ∧ (0 : Int) ≤ IntKind.wrap .i64 (IntKind.wrap .i64 ((6 : Int) * (↑i : Int)) + 4) ∧ IntKind.wrap .i64 (IntKind.wrap .i64 ((6 : Int) * (↑i : Int)) + 4) < (b.length : Int) ∧ (0 : Int) ≤ IntKind.wrap .i64 (IntKind.wrap .i64 ((6 : Int) * (↑i : Int)) + 5) ∧ IntKind.wrap .i64 (IntKind.wrap .i64 ((6 : Int) * (↑i : Int)) + 5) < (b.length : Int) ∧ ((List.map cellsT L).length + List.length [[IV.int IntKind.i32 (IntKind.wrap IntKind.i32 (sgnN (4 : Int).toNat (uintP b (IntKind.wrap .i64 ((6 : Int) * (↑i : Int))).toNat (4 : Int).toNat))), IV.bool ((↑(UInt8.toNat (List.getD b (IntKind.wrap .i64 (IntKind.wrap .i64 ((6 : Int) * (↑i : Int)) + 4)).toNat (0 : UInt8))) : Int) == 1), IV.int .u8 (↑(UInt8.toNat (List.getD b (IntKind.wrap .i64 (IntKind.wrap .i64 ((6 : Int) * (↑i : Int)) + 5)).toNat (0 :
 UInt8))) : Int)]]) * 8 ≤ 140737488355328 ∧ (List.map cellsT L).length + List.length [[IV.int IntKind.i32 (IntKind.wrap IntKind.i32 (sgnN (4 : Int).toNat (uintP b (IntKind.wrap .i64 ((6 : Int) * (↑i : Int))).toNat (4 : Int).toNat))), IV.bool ((↑(UInt8.toNat (List.getD b (IntKind.wrap .i64 (IntKind.wrap .i64 ((6 : Int) * (↑i : Int)) + 4)).toNat (0 : UInt8))) : Int) == 1), IV.int .u8 (↑(UInt8.toNat (List.getD b (IntKind.wrap .i64 (IntKind.wrap .i64 ((6 : Int) * (↑i : Int)) + 5)).toNat (0 : UInt8))) : Int)]] ≤ 140737488355328 ∧ k AX.normal (St.mk [.imm (.bytes b), .dead, .dead, .dead, .dead, AV.row (0 : Nat) (1 : Nat), .imm (.int .i64 (IntKind.wrap .i64 ((↑i : Int) + 1))), .imm (.int .i64 (sgnN (4 : Int).toNat (uintP b (IntKind.wrap .i64 ((6 : Int) * (↑i : Int))).toNat (4 : Int).toNat))), .imm (.bool (okR b (IntKind.wrap .i64 ((6 : Int) * (↑i : Int))).toNat (4 : Int).toNat)), .dead, .dead, .dead, .dead, .dead, .dead, .dead, .dead, .dead, .dead, .dead, .dead, .dead, .dead, .imm (.int .i64 (↑i : Int)), .imm (.bytes b), .imm (.int .i64 (b.length : Int)), .imm (.int .i64 (IntKind.wrap .i64 (Int.tdiv (b.length : Int) (6 : Int)))), .imm (.bool (decide ((↑i : Int) < IntKind.wrap .i64 (Int.tdiv
 (b.length : Int) (6 : Int))))), .imm (.int .i64 (↑i : Int)), .imm (.int .i64 (IntKind.wrap .i64 ((↑i : Int) + 1))), .tup [.imm (.int .i64 (sgnN (4 : Int).toNat (uintP b (IntKind.wrap .i64 ((6 : Int) * (↑i : Int))).toNat (4 : Int).toNat))), .imm (.bool (okR b (IntKind.wrap .i64 ((6 : Int) * (↑i : Int))).toNat (4 : Int).toNat))], .imm (.bytes b), .imm (.int .i64 (↑i : Int)), .imm (.int .i64 (IntKind.wrap .i64 ((6 : Int) * (↑i : Int)))), .tup [.imm (.int .i64 (sgnN (4 : Int).toNat (uintP b (IntKind.wrap .i64 ((6 : Int) * (↑i : Int))).toNat (4 : Int).toNat))), .imm (.bool (okR b (IntKind.wrap .i64 ((6 : Int) * (↑i : Int))).toNat (4 : Int).toNat))], .imm (.int .i64 (sgnN (4 : Int).toNat (uintP b (IntKind.wrap .i64 ((6 : Int) * (↑i : Int))).toNat (4 : Int).toNat))), .imm (.bool (okR b (IntKind.wrap .i64 ((6 : Int) * (↑i : Int))).toNat (4 : Int).toNat)), AV.row (0 : Nat) (0 : Nat), .imm (.int .i64 (sgnN (4 : Int).toNat (uintP b (IntKind.wrap .i64 ((6 : Int) * (↑i : Int))).toNat (4 : Int).toNat))), .imm (.int IntKind.i32 (IntKind.wrap IntKind.i32 (sgnN (4 : Int).toNat (uintP b (IntKind.wrap .i64 ((6 : Int) * (↑i : Int))).toNat (4 : Int).toNat)))), .imm (.bytes b), .imm (.int .i64 (↑i :
 Int)), .imm (.int .i64 (IntKind.wrap .i64 ((6 : Int) * (↑i : Int)))), .imm (.int .i64 (IntKind.wrap .i64 (IntKind.wrap .i64 ((6 : Int) * (↑i : Int)) + 4))), AV.elv [IV.int .u8 (↑(UInt8.toNat (List.getD b (IntKind.wrap .i64 (IntKind.wrap .i64 ((6 : Int) * (↑i : Int)) + 4)).toNat (0 : UInt8))) : Int)], .imm (.int .u8 (↑(UInt8.toNat (List.getD b (IntKind.wrap .i64 (IntKind.wrap .i64 ((6 : Int) * (↑i : Int)) + 4)).toNat (0 : UInt8))) : Int)), .imm (.bool ((↑(UInt8.toNat (List.getD b (IntKind.wrap .i64 (IntKind.wrap .i64 ((6 : Int) * (↑i : Int)) + 4)).toNat (0 : UInt8))) : Int) == 1)), .imm (.bytes b), .imm (.int .i64 (↑i : Int)), .imm (.int .i64 (IntKind.wrap .i64 ((6 : Int) * (↑i : Int)))), .imm (.int .i64 (IntKind.wrap .i64 (IntKind.wrap .i64 ((6 : Int) * (↑i : Int)) + 5))), AV.elv [IV.int .u8 (↑(UInt8.toNat (List.getD b (IntKind.wrap .i64 (IntKind.wrap .i64 ((6 : Int) * (↑i : Int)) + 5)).toNat (0 : UInt8))) : Int)], .imm (.int .u8 (↑(UInt8.toNat (List.getD b (IntKind.wrap .i64 (IntKind.wrap .i64 ((6 : Int) * (↑i : Int)) + 5)).toNat (0 : UInt8))) : Int)), .agg [.imm (.int IntKind.i32 (IntKind.wrap IntKind.i32 (sgnN (4 : Int).toNat (uintP b (IntKind.wrap .i64 ((6 : Int) * (↑i :
 Int))).toNat (4 : Int).toNat)))), .imm (.bool ((↑(UInt8.toNat (List.getD b (IntKind.wrap .i64 (IntKind.wrap .i64 ((6 : Int) * (↑i : Int)) + 4)).toNat (0 : UInt8))) : Int) == 1)), .imm (.int .u8 (↑(UInt8.toNat (List.getD b (IntKind.wrap .i64 (IntKind.wrap .i64 ((6 : Int) * (↑i : Int)) + 5)).toNat (0 : UInt8))) : Int))], .full (IV.sl (3 : Nat) [[IV.int IntKind.i32 (IntKind.wrap IntKind.i32 (sgnN (4 : Int).toNat (uintP b (IntKind.wrap .i64 ((6 : Int) * (↑i : Int))).toNat (4 : Int).toNat))), IV.bool ((↑(UInt8.toNat (List.getD b (IntKind.wrap .i64 (IntKind.wrap .i64 ((6 : Int) * (↑i : Int)) + 4)).toNat (0 : UInt8))) : Int) == 1), IV.int .u8 (↑(UInt8.toNat (List.getD b (IntKind.wrap .i64 (IntKind.wrap .i64 ((6 : Int) * (↑i : Int)) + 5)).toNat (0 : UInt8))) : Int)]]), AV.row (0 : Nat) (1 : Nat), .dead] [(0, Ob.mk true 1 (AObj.row (IV.sl (3 : Nat) (List.map cellsT L ++ [[IV.int IntKind.i32 (IntKind.wrap IntKind.i32 (sgnN (4 : Int).toNat (uintP b (IntKind.wrap .i64 ((6 : Int) * (↑i : Int))).toNat (4 : Int).toNat))), IV.bool ((↑(UInt8.toNat (List.getD b (IntKind.wrap .i64 (IntKind.wrap .i64 ((6 : Int) * (↑i : Int)) + 4)).toNat (0 : UInt8))) : Int) == 1), IV.int .u8 (↑(UInt8.toNat (List.getD b
 (IntKind.wrap .i64 (IntKind.wrap .i64 ((6 : Int) * (↑i : Int)) + 5)).toNat (0 : UInt8))) : Int)]]))))] (1 : Nat) [])) (k (AX.exit (2 : Nat)) (St.mk [.imm (.bytes b), .dead, .dead, .dead, .dead, AV.row (0 : Nat) (0 : Nat), .imm (.int .i64 (↑i : Int)), .dead, .dead, .dead, .dead, .dead, .dead, .dead, .dead, .dead, .dead, .dead, .dead, .dead, .dead, .dead, .dead, .imm (.int .i64 (↑i : Int)), .imm (.bytes b), .imm (.int .i64 (b.length : Int)), .imm (.int .i64 (IntKind.wrap .i64 (Int.tdiv (b.length : Int) (6 : Int)))), .imm (.bool (decide ((↑i : Int) < IntKind.wrap .i64 (Int.tdiv (b.length : Int) (6 : Int))))), .dead, .dead, .dead, .dead, .dead, .dead, .dead, .dead, .dead, .dead, .dead, .dead, .dead, .dead, .dead, .dead, .dead, .dead, .dead, .dead, .dead, .dead, .dead, .dead, .dead, .dead, .dead, .dead, .dead] [(0, Ob.mk true 0 (AObj.row (IV.sl (3 : Nat) (List.map cellsT L))))] (1 : Nat) []))) := by kernel_rfl
theorem f8_in (b : List UInt8) (K : List AV → Prop) : evSpec C8 Tryd.f31 [AV.imm (IV.bytes b)] K =
  (LoopI C8 (bodyOf Tryd.f31) (0 : Nat)
  (St.mk
    [AV.imm (IV.bytes b), AV.dead, AV.full (IV.sl (3 : Nat) []), AV.imm (IV.bool false), AV.full (IV.sl (3 : Nat) []),
      AV.imm (IV.int IntKind.i64 (0 : Int)), AV.dead, AV.dead, AV.dead, AV.dead, AV.dead, AV.dead, AV.dead, AV.dead,
      AV.dead, AV.dead, AV.dead, AV.dead, AV.dead, AV.dead, AV.dead, AV.dead, AV.dead, AV.dead, AV.dead, AV.dead,
      AV.dead, AV.dead, AV.dead, AV.dead, AV.dead, AV.dead, AV.dead]
    [] (0 : Nat) [])
  (finK C8 Tryd.f31 K)) := by kernel_rfl
theorem f8_lp (b : List UInt8) (L : List Ty) (i : Nat) (k : AX → St → Prop) : evCode C8 (loopB (bodyOf Tryd.f31) (0 : Nat)) (h8 b L i) k = (brn (decide (IntKind.wrap .i64 ((↑i : Int) + 6) ≤ (b.length : Int))) ((0 : Int) ≤ (↑i : Int) ∧ (↑i : Int) ≤ IntKind.wrap .i64 ((↑i : Int) + 6) ∧ IntKind.wrap .i64 ((↑i : Int) + 6) ≤ (b.length : Int) ∧ (↑(List.take ((IntKind.wrap .i64 ((↑i : Int) + 6)).toNat - (↑i : Int).toNat) (List.drop (↑i : Int).toNat b)).length : Int) ≤ big ∧ (0 : Int) ≤ 0 ∧ (0 : Int) ≤ big ∧ (1 : Int) ≤ 4 ∧ (4 : Int) ≤ 8 ∧ (0 : Int) ≤ 4 ∧ (4 : Int) < (↑(List.take ((IntKind.wrap .i64 ((↑i : Int) + 6)).toNat - (↑i : Int).toNat) (List.drop (↑i : Int).toNat b)).length : Int) ∧ brn (decide ((↑(UInt8.toNat (List.getD (List.take ((IntKind.wrap .i64 ((↑i : Int) + 6)).toNat - (↑i : Int).toNat) (List.drop (↑i : Int).toNat b)) (4 : Int).toNat (0 : UInt8))) : Int) > 1)) ((0 : Int) ≤ 4 ∧ (4 : Int) < (↑(List.take ((IntKind.wrap .i64 ((↑i : Int) + 6)).toNat - (↑i : Int).toNat) (List.drop (↑i : Int).toNat b)).length : Int) ∧ (0 : Int) ≤ 0 ∧ (0 : Int) < (↑(List.length [[IV.iface (97 : Nat) (IV.int .u8 (↑(UInt8.toNat (List.getD (List.take ((IntKind.wrap .i64 ((↑i : Int) + 6)).toNat - (↑i :
 Int).toNat) (List.drop (↑i : Int).toNat b)) (4 : Int).toNat (0 : UInt8))) : Int))]]) : Int) ∧ kcells (List.getD [[IV.iface (97 : Nat) (IV.int .u8 (↑(UInt8.toNat (List.getD (List.take ((IntKind.wrap .i64 ((↑i : Int) + 6)).toNat - (↑i : Int).toNat) (List.drop (↑i : Int).toNat b)) (4 : Int).toNat (0 : UInt8))) : Int))]] (0 : Int).toNat []) (0 : Nat) [CK.any] = List.getD [[IV.iface (97 : Nat) (IV.int .u8 (↑(UInt8.toNat (List.getD (List.take ((IntKind.wrap .i64 ((↑i : Int) + 6)).toNat - (↑i : Int).toNat) (List.drop (↑i : Int).toNat b)) (4 : Int).toNat (0 : UInt8))) : Int))]] (0 : Int).toNat [] ∧ (0 : Int) ≤ 0 ∧ (0 : Int) ≤ IntKind.wrap .i64 ((0 : Int) + 1) ∧ (↑(16 : Nat) : Int) * IntKind.wrap .i64 ((0 : Int) + 1) ≤ 140737488355328 ∧ IntKind.wrap .i64 ((0 : Int) + 1) ≤ 140737488355328 ∧ (0 : Int) ≤ 0 ∧ (0 : Int) < (↑(List.length [[IV.iface (97 : Nat) (IV.int .u8 (↑(UInt8.toNat (List.getD (List.take ((IntKind.wrap .i64 ((↑i : Int) + 6)).toNat - (↑i : Int).toNat) (List.drop (↑i : Int).toNat b)) (4 : Int).toNat (0 : UInt8))) : Int))]]) : Int) ∧ kcells (List.getD [[IV.iface (97 : Nat) (IV.int .u8 (↑(UInt8.toNat (List.getD (List.take ((IntKind.wrap .i64 ((↑i : Int) + 6)).toNat - (↑i :
 Int).toNat) (List.drop (↑i : Int).toNat b)) (4 : Int).toNat (0 : UInt8))) : Int))]] (0 : Int).toNat []) (0 : Nat) [CK.any] = List.getD [[IV.iface (97 : Nat) (IV.int .u8 (↑(UInt8.toNat (List.getD (List.take ((IntKind.wrap .i64 ((↑i : Int) + 6)).toNat - (↑i : Int).toNat) (List.drop (↑i : Int).toNat b)) (4 : Int).toNat (0 : UInt8))) : Int))]] (0 : Int).toNat [] ∧ ((List.replicate (0 : Int).toNat [IV.val Value.nilIface]).length + List.length [[kcell CK.any (ivNth (List.getD [[IV.iface (97 : Nat) (IV.int .u8 (↑(UInt8.toNat (List.getD (List.take ((IntKind.wrap .i64 ((↑i : Int) + 6)).toNat - (↑i : Int).toNat) (List.drop (↑i : Int).toNat b)) (4 : Int).toNat (0 : UInt8))) : Int))]] (0 : Int).toNat []) (0 : Nat))]]) * 16 ≤ 140737488355328 ∧ (List.replicate (0 : Int).toNat [IV.val Value.nilIface]).length + List.length [[kcell CK.any (ivNth (List.getD [[IV.iface (97 : Nat) (IV.int .u8 (↑(UInt8.toNat (List.getD (List.take ((IntKind.wrap .i64 ((↑i : Int) + 6)).toNat - (↑i : Int).toNat) (List.drop (↑i : Int).toNat b)) (4 : Int).toNat (0 : UInt8))) : Int))]] (0 : Int).toNat []) (0 : Nat))]] ≤ 140737488355328 ∧ k AX.ret (St.mk [.imm (.bytes b), .dead, .full (IV.sl (3 : Nat) []), .imm (.bool false),
 AV.row (0 : Nat) (0 : Nat), .imm (.int .i64 (↑i : Int)), .ptr 4 0, AV.ifc (126 : Nat) (.ptr 3 0), .ptr 5 0, .imm (.int .i64 (↑i : Int)), .imm (.int .i64 (IntKind.wrap .i64 ((↑i : Int) + 6))), .imm (.bytes b), .imm (.int .i64 (b.length : Int)), .imm (.bool (decide (IntKind.wrap .i64 ((↑i : Int) + 6) ≤ (b.length : Int)))), .dead, .dead, .tup [.agg [.imm (.int IntKind.i32 (0 : Int)), .imm (.bool false), .imm (.int .u8 0)], AV.ifc (126 : Nat) (.ptr 3 0)], .imm (.bytes b), .imm (.int .i64 (↑i : Int)), .imm (.int .i64 (↑i : Int)), .imm (.int .i64 (IntKind.wrap .i64 ((↑i : Int) + 6))), .imm (.bytes (List.take ((IntKind.wrap .i64 ((↑i : Int) + 6)).toNat - (↑i : Int).toNat) (List.drop (↑i : Int).toNat b))), .tup [.agg [.imm (.int IntKind.i32 (0 : Int)), .imm (.bool false), .imm (.int .u8 0)], AV.ifc (126 : Nat) (.ptr 3 0)], .agg [.imm (.int IntKind.i32 (0 : Int)), .imm (.bool false), .imm (.int .u8 0)], AV.ifc (126 : Nat) (.ptr 3 0), AV.ifc (126 : Nat) (.ptr 3 0), AV.ifc (99 : Nat) (.ptr 5 0), .imm (.bool true), .dead, .dead, .dead, .dead, .dead] [(0, Ob.mk true 0 (AObj.row (IV.sl (3 : Nat) (List.map cellsT L)))), (1, Ob.mk true 0 (AObj.cells [.imm (.int IntKind.i32 (0 : Int)), .imm (.bool
 false), .imm (.int .u8 0)])), (2, Ob.mk true 1 (AObj.row (IV.sl (1 : Nat) [[IV.iface (97 : Nat) (IV.int .u8 (↑(UInt8.toNat (List.getD (List.take ((IntKind.wrap .i64 ((↑i : Int) + 6)).toNat - (↑i : Int).toNat) (List.drop (↑i : Int).toNat b)) (4 : Int).toNat (0 : UInt8))) : Int))]]))), (3, Ob.mk true 0 (AObj.cells [AV.row (2 : Nat) (1 : Nat)])), (4, Ob.mk true 0 (AObj.cells [.imm (.int IntKind.i32 (0 : Int)), .imm (.bool false), .imm (.int .u8 0)])), (5, Ob.mk true 0 (AObj.cells [.imm (.int .u8 (↑(UInt8.toNat (List.getD (List.take ((IntKind.wrap .i64 ((↑i : Int) + 6)).toNat - (↑i : Int).toNat) (List.drop (↑i : Int).toNat b)) (4 : Int).toNat (0 : UInt8))) : Int))]))] (6 : Nat) [])) ((0 : Int) ≤ 4 ∧ (4 : Int) < (↑(List.take ((IntKind.wrap .i64 ((↑i : Int) + 6)).toNat - (↑i : Int).toNat) (List.drop (↑i : Int).toNat b)).length : Int) ∧ (0 : Int) ≤ 5 ∧ (5 : Int) < (↑(List.take ((IntKind.wrap .i64 ((↑i : Int) + 6)).toNat - (↑i : Int).toNat) (List.drop (↑i : Int).toNat b)).length : Int) ∧ ((List.map cellsT L).length + List.length [[IV.int IntKind.i32 (IntKind.wrap IntKind.i32 (sgnN (4 : Int).toNat (uintP (List.take ((IntKind.wrap .i64 ((↑i : Int) + 6)).toNat - (↑i : Int).toNat) (List.drop
 (↑i : Int).toNat b)) (0 : Int).toNat (4 : Int).toNat))), IV.bool ((↑(UInt8.toNat (List.getD (List.take ((IntKind.wrap .i64 ((↑i : Int) + 6)).toNat - (↑i : Int).toNat) (List.drop (↑i : Int).toNat b)) (4 : Int).toNat (0 : UInt8))) : Int) == 1), IV.int .u8 (↑(UInt8.toNat (List.getD (List.take ((IntKind.wrap .i64 ((↑i : Int) + 6)).toNat - (↑i : Int).toNat) (List.drop (↑i : Int).toNat b)) (5 : Int).toNat (0 : UInt8))) : Int)]]) * 8 ≤ 140737488355328 ∧ (List.map cellsT L).length + List.length [[IV.int IntKind.i32 (IntKind.wrap IntKind.i32 (sgnN (4 : Int).toNat (uintP (List.take ((IntKind.wrap .i64 ((↑i : Int) + 6)).toNat - (↑i : Int).toNat) (List.drop (↑i : Int).toNat b)) (0 : Int).toNat (4 : Int).toNat))), IV.bool ((↑(UInt8.toNat (List.getD (List.take ((IntKind.wrap .i64 ((↑i : Int) + 6)).toNat - (↑i : Int).toNat) (List.drop (↑i : Int).toNat b)) (4 : Int).toNat (0 : UInt8))) : Int) == 1), IV.int .u8 (↑(UInt8.toNat (List.getD (List.take ((IntKind.wrap .i64 ((↑i : Int) + 6)).toNat - (↑i : Int).toNat) (List.drop (↑i : Int).toNat b)) (5 : Int).toNat (0 : UInt8))) : Int)]] ≤ 140737488355328 ∧ k AX.normal (St.mk [.imm (.bytes b), .dead, .dead, .dead, AV.row (0 : Nat) (1 : Nat), .imm (.int .i64
 (IntKind.wrap .i64 ((↑i : Int) + 6))), .ptr 2 0, .imm (.val Value.nilIface), .ptr 3 0, .imm (.int .i64 (↑i : Int)), .imm (.int .i64 (IntKind.wrap .i64 ((↑i : Int) + 6))), .imm (.bytes b), .imm (.int .i64 (b.length : Int)), .imm (.bool (decide (IntKind.wrap .i64 ((↑i : Int) + 6) ≤ (b.length : Int)))), .imm (.int .i64 (↑i : Int)), .imm (.int .i64 (IntKind.wrap .i64 ((↑i : Int) + 6))), .tup [.agg [.imm (.int IntKind.i32 (IntKind.wrap IntKind.i32 (sgnN (4 : Int).toNat (uintP (List.take ((IntKind.wrap .i64 ((↑i : Int) + 6)).toNat - (↑i : Int).toNat) (List.drop (↑i : Int).toNat b)) (0 : Int).toNat (4 : Int).toNat)))), .imm (.bool ((↑(UInt8.toNat (List.getD (List.take ((IntKind.wrap .i64 ((↑i : Int) + 6)).toNat - (↑i : Int).toNat) (List.drop (↑i : Int).toNat b)) (4 : Int).toNat (0 : UInt8))) : Int) == 1)), .imm (.int .u8 (↑(UInt8.toNat (List.getD (List.take ((IntKind.wrap .i64 ((↑i : Int) + 6)).toNat - (↑i : Int).toNat) (List.drop (↑i : Int).toNat b)) (5 : Int).toNat (0 : UInt8))) : Int))], .imm (.val Value.nilIface)], .imm (.bytes b), .imm (.int .i64 (↑i : Int)), .imm (.int .i64 (↑i : Int)), .imm (.int .i64 (IntKind.wrap .i64 ((↑i : Int) + 6))), .imm (.bytes (List.take ((IntKind.wrap .i64
 ((↑i : Int) + 6)).toNat - (↑i : Int).toNat) (List.drop (↑i : Int).toNat b))), .tup [.agg [.imm (.int IntKind.i32 (IntKind.wrap IntKind.i32 (sgnN (4 : Int).toNat (uintP (List.take ((IntKind.wrap .i64 ((↑i : Int) + 6)).toNat - (↑i : Int).toNat) (List.drop (↑i : Int).toNat b)) (0 : Int).toNat (4 : Int).toNat)))), .imm (.bool ((↑(UInt8.toNat (List.getD (List.take ((IntKind.wrap .i64 ((↑i : Int) + 6)).toNat - (↑i : Int).toNat) (List.drop (↑i : Int).toNat b)) (4 : Int).toNat (0 : UInt8))) : Int) == 1)), .imm (.int .u8 (↑(UInt8.toNat (List.getD (List.take ((IntKind.wrap .i64 ((↑i : Int) + 6)).toNat - (↑i : Int).toNat) (List.drop (↑i : Int).toNat b)) (5 : Int).toNat (0 : UInt8))) : Int))], .imm (.val Value.nilIface)], .agg [.imm (.int IntKind.i32 (IntKind.wrap IntKind.i32 (sgnN (4 : Int).toNat (uintP (List.take ((IntKind.wrap .i64 ((↑i : Int) + 6)).toNat - (↑i : Int).toNat) (List.drop (↑i : Int).toNat b)) (0 : Int).toNat (4 : Int).toNat)))), .imm (.bool ((↑(UInt8.toNat (List.getD (List.take ((IntKind.wrap .i64 ((↑i : Int) + 6)).toNat - (↑i : Int).toNat) (List.drop (↑i : Int).toNat b)) (4 : Int).toNat (0 : UInt8))) : Int) == 1)), .imm (.int .u8 (↑(UInt8.toNat (List.getD (List.take
 ((IntKind.wrap .i64 ((↑i : Int) + 6)).toNat - (↑i : Int).toNat) (List.drop (↑i : Int).toNat b)) (5 : Int).toNat (0 : UInt8))) : Int))], .imm (.val Value.nilIface), .imm (.val Value.nilIface), AV.ifc (99 : Nat) (.ptr 3 0), .imm (.bool false), AV.row (0 : Nat) (0 : Nat), .agg [.imm (.int IntKind.i32 (IntKind.wrap IntKind.i32 (sgnN (4 : Int).toNat (uintP (List.take ((IntKind.wrap .i64 ((↑i : Int) + 6)).toNat - (↑i : Int).toNat) (List.drop (↑i : Int).toNat b)) (0 : Int).toNat (4 : Int).toNat)))), .imm (.bool ((↑(UInt8.toNat (List.getD (List.take ((IntKind.wrap .i64 ((↑i : Int) + 6)).toNat - (↑i : Int).toNat) (List.drop (↑i : Int).toNat b)) (4 : Int).toNat (0 : UInt8))) : Int) == 1)), .imm (.int .u8 (↑(UInt8.toNat (List.getD (List.take ((IntKind.wrap .i64 ((↑i : Int) + 6)).toNat - (↑i : Int).toNat) (List.drop (↑i : Int).toNat b)) (5 : Int).toNat (0 : UInt8))) : Int))], .full (IV.sl (3 : Nat) [[IV.int IntKind.i32 (IntKind.wrap IntKind.i32 (sgnN (4 : Int).toNat (uintP (List.take ((IntKind.wrap .i64 ((↑i : Int) + 6)).toNat - (↑i : Int).toNat) (List.drop (↑i : Int).toNat b)) (0 : Int).toNat (4 : Int).toNat))), IV.bool ((↑(UInt8.toNat (List.getD (List.take ((IntKind.wrap .i64 ((↑i : Int) +
 6)).toNat - (↑i : Int).toNat) (List.drop (↑i : Int).toNat b)) (4 : Int).toNat (0 : UInt8))) : Int) == 1), IV.int .u8 (↑(UInt8.toNat (List.getD (List.take ((IntKind.wrap .i64 ((↑i : Int) + 6)).toNat - (↑i : Int).toNat) (List.drop (↑i : Int).toNat b)) (5 : Int).toNat (0 : UInt8))) : Int)]]), AV.row (0 : Nat) (1 : Nat), .dead] [(0, Ob.mk true 1 (AObj.row (IV.sl (3 : Nat) (List.map cellsT L ++ [[IV.int IntKind.i32 (IntKind.wrap IntKind.i32 (sgnN (4 : Int).toNat (uintP (List.take ((IntKind.wrap .i64 ((↑i : Int) + 6)).toNat - (↑i : Int).toNat) (List.drop (↑i : Int).toNat b)) (0 : Int).toNat (4 : Int).toNat))), IV.bool ((↑(UInt8.toNat (List.getD (List.take ((IntKind.wrap .i64 ((↑i : Int) + 6)).toNat - (↑i : Int).toNat) (List.drop (↑i : Int).toNat b)) (4 : Int).toNat (0 : UInt8))) : Int) == 1), IV.int .u8 (↑(UInt8.toNat (List.getD (List.take ((IntKind.wrap .i64 ((↑i : Int) + 6)).toNat - (↑i : Int).toNat) (List.drop (↑i : Int).toNat b)) (5 : Int).toNat (0 : UInt8))) : Int)]])))), (1, Ob.mk true 0 (AObj.cells [.imm (.int IntKind.i32 (IntKind.wrap IntKind.i32 (sgnN (4 : Int).toNat (uintP (List.take ((IntKind.wrap .i64 ((↑i : Int) + 6)).toNat - (↑i : Int).toNat) (List.drop (↑i : Int).toNat b))
 (0 : Int).toNat (4 : Int).toNat)))), .imm (.bool ((↑(UInt8.toNat (List.getD (List.take ((IntKind.wrap .i64 ((↑i : Int) + 6)).toNat - (↑i : Int).toNat) (List.drop (↑i : Int).toNat b)) (4 : Int).toNat (0 : UInt8))) : Int) == 1)), .imm (.int .u8 (↑(UInt8.toNat (List.getD (List.take ((IntKind.wrap .i64 ((↑i : Int) + 6)).toNat - (↑i : Int).toNat) (List.drop (↑i : Int).toNat b)) (5 : Int).toNat (0 : UInt8))) : Int))])), (2, Ob.mk true 0 (AObj.cells [.imm (.int IntKind.i32 (IntKind.wrap IntKind.i32 (sgnN (4 : Int).toNat (uintP (List.take ((IntKind.wrap .i64 ((↑i : Int) + 6)).toNat - (↑i : Int).toNat) (List.drop (↑i : Int).toNat b)) (0 : Int).toNat (4 : Int).toNat)))), .imm (.bool ((↑(UInt8.toNat (List.getD (List.take ((IntKind.wrap .i64 ((↑i : Int) + 6)).toNat - (↑i : Int).toNat) (List.drop (↑i : Int).toNat b)) (4 : Int).toNat (0 : UInt8))) : Int) == 1)), .imm (.int .u8 (↑(UInt8.toNat (List.getD (List.take ((IntKind.wrap .i64 ((↑i : Int) + 6)).toNat - (↑i : Int).toNat) (List.drop (↑i : Int).toNat b)) (5 : Int).toNat (0 : UInt8))) : Int))])), (3, Ob.mk true 0 (AObj.cells [.imm (.int .u8 0)]))] (4 : Nat) []))) (k (AX.exit (0 : Nat)) (St.mk [.imm (.bytes b), .dead, .dead, .dead, AV.row (0 :
 Nat) (0 : Nat), .imm (.int .i64 (↑i : Int)), .dead, .dead, .dead, .imm (.int .i64 (↑i : Int)), .imm (.int .i64 (IntKind.wrap .i64 ((↑i : Int) + 6))), .imm (.bytes b), .imm (.int .i64 (b.length : Int)), .imm (.bool (decide (IntKind.wrap .i64 ((↑i : Int) + 6) ≤ (b.length : Int)))), .dead, .dead, .dead, .dead, .dead, .dead, .dead, .dead, .dead, .dead, .dead, .dead, .dead, .dead, .dead, .dead, .dead, .dead, .dead] [(0, Ob.mk true 0 (AObj.row (IV.sl (3 : Nat) (List.map cellsT L))))] (1 : Nat) []))) := by kernel_rfl
end D6
set_option maxRecDepth 100000
namespace D6
open Go Go.AE Go.Proofs
attribute [local irreducible] loopK evCode evSpec loopB norm
theorem wrap64 {n : Int} (h1 : -9223372036854775808 ≤ n) (h2 : n ≤ 9223372036854775807) : IntKind.wrap .i64 n = n := by
  have := IntKind.wrap_i64 n
  rw [show IntKind.wrap .i64 n = IntKind.i64.wrap n from rfl, this]; omega
theorem wrapU {n : Int} (h1 : 0 ≤ n) (h2 : n < 18446744073709551616) : IntKind.wrap .u64 n = n := by
  simp [IntKind.wrap, IntKind.min, IntKind.max, IntKind.signed, IntKind.bits]
  omega
theorem wrapU8 {n : Int} (h1 : 0 ≤ n) (h2 : n < 256) : IntKind.wrap .u8 n = n := by
  simp [IntKind.wrap, IntKind.min, IntKind.max, IntKind.signed, IntKind.bits]
  omega
theorem wrapUm (n : Int) : IntKind.wrap .u64 n = n % 18446744073709551616 := by
  simp [IntKind.wrap, IntKind.min, IntKind.max, IntKind.signed, IntKind.bits]
theorem wrapU8m (n : Int) : IntKind.wrap .u8 n = n % 256 := by
  simp [IntKind.wrap, IntKind.min, IntKind.max, IntKind.signed, IntKind.bits]
theorem or8 {m y : Nat} (hm : m * 256 + y < 18446744073709551616) (hy : y < 256) : bitsV .or .u64 (shlV .u64 (m : Int) 8) (y : Int) = ((m * 256 + y : Nat) : Int) := by
  have e1 : shlV .u64 (m : Int) 8 = ((m * 256 : Nat) : Int) := by
    unfold shlV
    have : min (Int.toNat 8) IntKind.u64.bits = 8 := rfl
    rw [this, show ((m : Int) * 2 ^ 8) = ((m * 256 : Nat) : Int) by omega, wrapU (by omega) (by omega)]
  rw [e1]
  unfold bitsV
  simp only
  have h1 : (BitVec.ofInt IntKind.u64.bits ((m * 256 : Nat) : Int) ||| BitVec.ofInt IntKind.u64.bits (y : Int)).toNat = m * 256 + y := by
    rw [BitVec.toNat_or, BitVec.ofInt_natCast, BitVec.ofInt_natCast, BitVec.toNat_ofNat, BitVec.toNat_ofNat]
    have hb : 2 ^ IntKind.u64.bits = 18446744073709551616 := rfl
    rw [hb, Nat.mod_eq_of_lt (by omega), Nat.mod_eq_of_lt (by omega)]
    have := Nat.shiftLeft_add_eq_or_of_lt (i := 8) (b := y) (by omega) m
    rw [Nat.shiftLeft_eq] at this
    exact this.symm
  rw [h1, wrapU (by omega) (by omega)]
theorem beN_app (l : List UInt8) (b : UInt8) : beN (l ++ [b]) = beN l * 256 + b.toNat := by simp [beN]
theorem beN_fold : ∀ (l : List UInt8) (v : Nat), l.foldl (fun v b => v * 256 + b.toNat) v + 1 ≤ (v + 1) * 256 ^ l.length
  | [], v => by simp
  | b :: l, v => by
    have h1 := beN_fold l (v * 256 + b.toNat)
    have h2 := b.toNat_lt
    rw [List.foldl_cons, List.length_cons, Nat.pow_succ]
    have h3 : (v * 256 + b.toNat + 1) * 256 ^ l.length ≤ ((v + 1) * 256) * 256 ^ l.length := Nat.mul_le_mul_right _ (by omega)
    have h4 : ((v + 1) * 256) * 256 ^ l.length = (v + 1) * (256 ^ l.length * 256) := by rw [Nat.mul_assoc, Nat.mul_comm 256]
    omega
theorem beN_lt (l : List UInt8) : beN l < 256 ^ l.length := by
  have := beN_fold l 0
  unfold beN
  omega
theorem beN_lt8 {l : List UInt8} (h : l.length ≤ 8) : beN l < 18446744073709551616 := by
  have h1 := beN_lt l
  have h2 : 256 ^ l.length ≤ 256 ^ 8 := Nat.pow_le_pow_right (by decide) h
  have : (256 : Nat) ^ 8 = 18446744073709551616 := rfl
  omega
theorem take_succ' {b : List UInt8} {i : Nat} (h : i < b.length) : b.take (i + 1) = b.take i ++ [b.getD i 0] := by
  rw [List.take_add_one, List.getElem?_eq_getElem h, List.getD_eq_getElem?_getD, List.getElem?_eq_getElem h]
  rfl
theorem getD_drop' (b : List UInt8) (o i : Nat) : (b.drop o).getD i 0 = b.getD (o + i) 0 := by
  simp only [List.getD_eq_getElem?_getD, List.getElem?_drop]
theorem mk {E : FuncId → List AV → Option (List Prop × List AV)} (hE : EOK Tryd.prog E G16) {f : FuncId} {fn : Func} {args res : List AV} {pres : List Prop} (hf : Tryd.prog.funcs[f]? = some fn) (hn : (fn.name == "runtime.NumGoroutine") = false) (hb : fn.body.isNone = false)
    (h : (∀ p, p ∈ pres → p) → ∀ K : List AV → Prop, K res → evSpec (cx E) fn args K) : SpecOK Tryd.prog G16 f args pres res :=
  spec_ok (C := cx E) hE noCall_ok hf hn hb (fun hp => h hp _ rfl)
theorem ok0 : EOK Tryd.prog noE G16 := noE_ok
theorem f31_ev (b : List UInt8) (off n : Int) (hb : (b.length : Int) ≤ big) (h0 : 0 ≤ off) (h1 : off ≤ big) (n0 : 0 ≤ n) (n8 : n ≤ 8) (K : List AV → Prop) (hK : K [.imm (.int .u64 (uintP b off.toNat n.toNat : Int)), bo (okR b off.toNat n.toNat)]) :
    evSpec C0 Tryd.f81 [.imm (.bytes b), i64 off, i64 n] K := by
  have hbig : big = 4611686018427387904 := rfl
  rw [f31_in]
  refine brn_intro (fun h => ?_) (fun h => ?_)
  · have hr : okR b off.toNat n.toNat = false := by
      rw [wrap64 (by omega) (by omega)] at h
      simp only [Bool.or_eq_true, decide_eq_true_eq] at h
      unfold okR
      simp only [decide_eq_false_iff_not]
      omega
    unfold uintP at hK
    rw [hr] at hK
    exact hK
  · rw [wrap64 (by omega) (by omega)] at h
    simp only [Bool.or_eq_false_iff, decide_eq_false_iff_not] at h
    have hr : okR b off.toNat n.toNat = true := by
      unfold okR
      simp only [decide_eq_true_eq]
      omega
    unfold uintP at hK
    rw [hr, if_pos rfl] at hK
    unfold LoopI
    refine loop_rule (fun i : Nat => h31 b off n (beN ((b.drop off.toNat).take i) : Int) i) (fun i => (i : Int) ≤ n) (fun i => n.toNat - i) (fun i hP K' hnorm hexit => ?_) rfl 0 p31 _ n0 (by kernel_rfl)
    rw [f31_lp]
    refine brn_intro (fun hi => ?_) (fun hi => ?_)
    · simp only [decide_eq_true_eq] at hi
      have e1 : IntKind.wrap .i64 (off + (i : Int)) = ((off.toNat + i : Nat) : Int) := by rw [wrap64 (by omega) (by omega)]; omega
      have e2 : IntKind.wrap .i64 ((i : Int) + 1) = ((i + 1 : Nat) : Int) := by rw [wrap64 (by omega) (by omega)]; rfl
      have hl : ((b.drop off.toNat).take (i + 1)) = (b.drop off.toNat).take i ++ [b.getD (off.toNat + i) 0] := by
        rw [take_succ' (by rw [List.length_drop]; omega), getD_drop']
      have hlt : beN ((b.drop off.toNat).take (i + 1)) < 18446744073709551616 := beN_lt8 (by rw [List.length_take]; omega)
      have hby := (b.getD (off.toNat + i) 0).toNat_lt
      rw [hl, beN_app] at hlt
      have e3 : IntKind.wrap .u64 (((b.getD (off.toNat + i) 0).toNat : Nat) : Int) = ((b.getD (off.toNat + i) 0).toNat : Int) := wrapU (by omega) (by omega)
      have e4 := or8 (m := beN ((b.drop off.toNat).take i)) (y := (b.getD (off.toNat + i) 0).toNat) hlt (by omega)
      rw [← beN_app, ← hl] at e4
      simp only [e1, e2, Int.toNat_natCast, e3, e4]
      refine ⟨by decide, by omega, by omega, hnorm (i + 1) p31 _ (by omega) (by omega) (by kernel_rfl)⟩
    · simp only [decide_eq_false_iff_not] at hi
      have hin : i = n.toNat := by omega
      subst hin
      exact hexit _ _ (by simp) (Eq.mp (by kernel_rfl) hK)
theorem f29_ev (b : List UInt8) (off n : Int) (hb : (b.length : Int) ≤ big) (h0 : 0 ≤ off) (h1 : off ≤ big) (n0 : 0 ≤ n) (n8 : n ≤ 8) (K : List AV → Prop) (hK : K [.imm (.int .u64 (uintP b off.toNat n.toNat : Int)), bo (okR b off.toNat n.toNat)]) :
    evSpec C0 Tryd.f82 [.imm (.bytes b), i64 off, i64 n] K := by
  have hbig : big = 4611686018427387904 := rfl
  rw [f29_in]
  refine brn_intro (fun h => ?_) (fun h => ?_)
  · have hr : okR b off.toNat n.toNat = false := by
      rw [wrap64 (by omega) (by omega)] at h
      simp only [Bool.or_eq_true, decide_eq_true_eq] at h
      unfold okR
      simp only [decide_eq_false_iff_not]
      omega
    unfold uintP at hK
    rw [hr] at hK
    exact hK
  · rw [wrap64 (by omega) (by omega)] at h
    simp only [Bool.or_eq_false_iff, decide_eq_false_iff_not] at h
    have hr : okR b off.toNat n.toNat = true := by
      unfold okR
      simp only [decide_eq_true_eq]
      omega
    unfold uintP at hK
    rw [hr, if_pos rfl] at hK
    unfold LoopI
    refine loop_rule (fun i : Nat => h29 b off n (beN ((b.drop off.toNat).take i) : Int) i) (fun i => (i : Int) ≤ n) (fun i => n.toNat - i) (fun i hP K' hnorm hexit => ?_) rfl 0 p29 _ n0 (by kernel_rfl)
    rw [f29_lp]
    refine brn_intro (fun hi => ?_) (fun hi => ?_)
    · simp only [decide_eq_true_eq] at hi
      have e1 : IntKind.wrap .i64 (off + (i : Int)) = ((off.toNat + i : Nat) : Int) := by rw [wrap64 (by omega) (by omega)]; omega
      have e2 : IntKind.wrap .i64 ((i : Int) + 1) = ((i + 1 : Nat) : Int) := by rw [wrap64 (by omega) (by omega)]; rfl
      have hl : ((b.drop off.toNat).take (i + 1)) = (b.drop off.toNat).take i ++ [b.getD (off.toNat + i) 0] := by
        rw [take_succ' (by rw [List.length_drop]; omega), getD_drop']
      have hlt : beN ((b.drop off.toNat).take (i + 1)) < 18446744073709551616 := beN_lt8 (by rw [List.length_take]; omega)
      have hby := (b.getD (off.toNat + i) 0).toNat_lt
      rw [hl, beN_app] at hlt
      have e3 : IntKind.wrap .u64 (((b.getD (off.toNat + i) 0).toNat : Nat) : Int) = ((b.getD (off.toNat + i) 0).toNat : Int) := wrapU (by omega) (by omega)
      have e5 : IntKind.wrap .u64 ((beN ((b.drop off.toNat).take i) : Int) * 256) = (beN ((b.drop off.toNat).take i) : Int) * 256 := wrapU (by omega) (by omega)
      have e4 : IntKind.wrap .u64 ((beN ((b.drop off.toNat).take i) : Int) * 256 + ((b.getD (off.toNat + i) 0).toNat : Int)) = (beN ((b.drop off.toNat).take (i + 1)) : Int) := by
        rw [hl, beN_app, wrapU (by omega) (by omega)]; omega
      simp only [e1, e2, Int.toNat_natCast, e3, e5, e4]
      refine ⟨by omega, by omega, hnorm (i + 1) p29 _ (by omega) (by omega) (by kernel_rfl)⟩
    · simp only [decide_eq_false_iff_not] at hi
      have hin : i = n.toNat := by omega
      subst hin
      exact hexit _ _ (by simp) (Eq.mp (by kernel_rfl) hK)
theorem f30_ev (n : Int) (n1 : 1 ≤ n) (n8 : n ≤ 8) (K : List AV → Prop) (hK : K [.imm (.int .u64 (2 ^ (8 * n.toNat - 1)))]) : evSpec C0 Tryd.f70 [i64 n] K := by
  rw [f30_in]
  unfold LoopI
  refine loop_rule (fun i : Nat => h30 n (2 ^ (8 * i - 1)) i) (fun i => 1 ≤ i ∧ (i : Int) ≤ n) (fun i => n.toNat - i) (fun i hP K' hnorm hexit => ?_) rfl 1 p30 _ ⟨Nat.le_refl _, n1⟩ (by kernel_rfl)
  rw [f30_lp]
  obtain ⟨hi1, hin⟩ := hP
  refine brn_intro (fun hi => ?_) (fun hi => ?_)
  · simp only [decide_eq_true_eq] at hi
    have e2 : IntKind.wrap .i64 ((i : Int) + 1) = ((i + 1 : Nat) : Int) := by rw [wrap64 (by omega) (by omega)]; rfl
    have ep : (2 : Int) ^ (8 * i - 1) * 256 = 2 ^ (8 * (i + 1) - 1) := by
      rw [show 8 * (i + 1) - 1 = (8 * i - 1) + 8 by omega, Int.pow_add]; rfl
    have hle : (2 : Int) ^ (8 * (i + 1) - 1) ≤ 2 ^ 63 := by
      have : (2 : Nat) ^ (8 * (i + 1) - 1) ≤ 2 ^ 63 := Nat.pow_le_pow_right (by decide) (by omega)
      exact_mod_cast this
    have h0 : (0 : Int) ≤ 2 ^ (8 * (i + 1) - 1) := Int.le_of_lt (Int.pow_pos (by decide))
    have e3 : IntKind.wrap .u64 ((2 : Int) ^ (8 * i - 1) * 256) = 2 ^ (8 * (i + 1) - 1) := by
      rw [ep, wrapU h0 (by have : (2 : Int) ^ 63 = 9223372036854775808 := rfl; omega)]
    simp only [e2, e3]
    exact hnorm (i + 1) p30 _ ⟨by omega, by omega⟩ (by omega) (by kernel_rfl)
  · simp only [decide_eq_false_iff_not] at hi
    have hin : i = n.toNat := by omega
    subst hin
    exact hexit _ _ (by simp) (Eq.mp (by kernel_rfl) hK)
end D6
set_option maxRecDepth 100000
namespace D6
open Go Go.AE Go.Proofs
attribute [local irreducible] loopK evCode evSpec loopB norm
theorem f22_out (b : List
  UInt8) (n : Int) (v : Int) (own : Bool) (l : List
  UInt8) (i : Nat) (K : List AV →
  Prop) : loopK C0 (bodyOf Tryd.f73) (0 : Nat) (finK C0 Tryd.f73 K) (AX.exit (0 : Nat))
  (St.mk
    [AV.imm (IV.bytes b), AV.imm (IV.int IntKind.i64 n), AV.imm (IV.int IntKind.u64 v), AV.dead, AV.dead, AV.dead,
      AV.dead, AV.row (0 : Nat) (0 : Nat), AV.imm (IV.int IntKind.i64 (↑i : Int)), AV.dead,
      AV.imm (IV.int IntKind.i64 (↑i : Int)), AV.imm (IV.int IntKind.i64 n), AV.imm (IV.bool (decide ((↑i : Int) < n))),
      AV.dead, AV.dead, AV.dead, AV.dead, AV.dead, AV.dead, AV.dead, AV.dead, AV.dead, AV.dead, AV.dead, AV.dead,
      AV.dead, AV.dead, AV.dead]
    [((0 : Nat), Ob.mk own (0 : Nat) (AObj.row (IV.bytes l)))] (1 : Nat) []) =
  ((List.length (List.map u8 []) + List.length b) * (1 : Nat) ≤ (140737488355328 : Nat) ∧
  List.length (List.map u8 []) + List.length b ≤ (140737488355328 : Nat) ∧
    (List.length (List.map u8 [] ++ b) + List.length l) * (1 : Nat) ≤ (140737488355328 : Nat) ∧
      List.length (List.map u8 [] ++ b) + List.length l ≤ (140737488355328 : Nat) ∧
        K [AV.new (IV.bytes (List.map u8 [] ++ b ++ l))]) := by kernel_rfl
theorem f9_out (b : List UInt8) (i : Nat) (K : List AV → Prop) : loopK C2 (bodyOf Tryd.f39) (0 : Nat) (finK C2 Tryd.f39 K) (AX.exit (0 : Nat)) (St.mk (let y := let y := let y := let y := [.dead, .dead, .dead, .dead]; AV.dead :: AV.dead :: AV.dead :: AV.dead :: y; AV.dead :: AV.dead :: AV.dead :: AV.dead :: AV.dead :: AV.dead :: AV.dead :: y; let y := AV.dead :: AV.dead :: AV.dead :: AV.dead :: AV.dead :: AV.dead :: AV.dead :: y; AV.dead :: AV.dead :: AV.dead :: AV.dead :: AV.dead :: AV.dead :: AV.dead :: y; let y := let y := AV.dead :: AV.dead :: AV.dead :: AV.dead :: AV.dead :: AV.dead :: AV.dead :: y; AV.dead :: AV.dead :: AV.dead :: AV.dead :: AV.dead :: AV.dead :: AV.dead :: y; let y := AV.dead :: AV.dead :: AV.imm (.int .i64 (↑i : Int)) :: AV.imm (.bytes b) :: AV.imm (.int .i64 (b.length : Int)) :: AV.imm (.int .i64 (IntKind.wrap .i64 (Int.tdiv (b.length : Int) (6 : Int)))) :: AV.imm (.bool (decide ((↑i : Int) < IntKind.wrap .i64 (Int.tdiv (b.length : Int) (6 : Int))))) :: y; AV.imm (.bytes b) :: AV.dead :: AV.dead :: AV.dead :: AV.imm (.int .i64 (↑i : Int)) :: AV.dead :: AV.dead :: y) [] (0 : Nat) []) = (LoopI C2 (bodyOf Tryd.f39) (1 : Nat) (St.mk [.imm (.bytes b), .dead,
 .dead, .dead, .imm (.int .i64 (↑i : Int)), .full (IV.sl (3 : Nat) []), .imm (.int .i64 0), .dead, .dead, .imm (.int .i64 (↑i : Int)), .imm (.bytes b), .imm (.int .i64 (b.length : Int)), .imm (.int .i64 (IntKind.wrap .i64 (Int.tdiv (b.length : Int) (6 : Int)))), .imm (.bool (decide ((↑i : Int) < IntKind.wrap .i64 (Int.tdiv (b.length : Int) (6 : Int))))), .dead, .dead, .dead, .dead, .dead, .dead, .dead, .dead, .dead, .dead, .dead, .dead, .dead, .dead, .dead, .dead, .dead, .dead, .dead, .dead, .dead, .dead, .dead, .dead, .dead, .dead, .dead, .dead, .dead, .dead, .dead, .dead, .dead, .dead, .dead, .dead, .dead, .dead, .dead, .dead, .dead, .dead, .dead] [] (0 : Nat) []) (finK C2 Tryd.f39 K)) := by kernel_rfl
end D6
set_option maxRecDepth 100000
namespace D6
open Go Go.AE Go.Proofs
attribute [local irreducible] loopK evCode evSpec loopB norm
def t0 : Ty := ⟨0, false, 0⟩
theorem getT {L : List Ty} {i : Nat} (h : i < L.length) : (L.map cellsT).getD i [] = cellsT (L.getD i t0) := by
  simp only [List.getD_eq_getElem?_getD, List.getElem?_map, List.getElem?_eq_getElem h]
  rfl
theorem kT (t : Ty) : kcells (cellsT t) 0 (lapp [CK.int .i32] (lapp [CK.bool] (lapp [CK.int .u8] []))) = cellsT t := rfl
theorem oT (t : Ty) : ivInt (ivNth (cellsT t) 0) = t.o := rfl
theorem dT (t : Ty) : ivBool (ivNth (cellsT t) (0 + 1)) = t.d := rfl
theorem gT (t : Ty) : ivInt (ivNth (cellsT t) (0 + 1 + 1)) = t.g := rfl
theorem okT_elim {xs : List (List IV)} (h : okT xs) : ∃ L : List Ty, xs = L.map cellsT ∧ tys xs = L ∧ ∀ t ∈ L, okTy t := ⟨tys xs, h.1, rfl, h.2⟩
theorem takeS {α : Type} {l : List α} {i : Nat} (d : α) (h : i < l.length) : l.take (i + 1) = l.take i ++ [l.getD i d] := by
  rw [List.take_add_one, List.getElem?_eq_getElem h, List.getD_eq_getElem?_getD, List.getElem?_eq_getElem h]
  rfl
theorem ne_of_at {α : Type} {a b : List α} {i : Nat} (d : α) (h : a.getD i d ≠ b.getD i d) : a ≠ b := fun e => h (by rw [e])
theorem memD {α : Type} {l : List α} {i : Nat} (d : α) (h : i < l.length) : l.getD i d ∈ l := by
  rw [List.getD_eq_getElem?_getD, List.getElem?_eq_getElem h]
  exact List.getElem_mem h
theorem f11_ev (a b : List UInt8) (ha : (a.length : Int) ≤ big) (hb : (b.length : Int) ≤ big) (K : List AV → Prop) (hK : K [bo (decide (a = b))]) : evSpec C0 Tryd.f20 [.imm (.bytes a), .imm (.bytes b)] K := by
  have hbig : big = 4611686018427387904 := rfl
  have no : a ≠ b → K [.imm (.bool false)] := fun h => by rw [decide_eq_false h] at hK; exact hK
  rw [f11_in]
  refine brn_intro (fun h => ?_) (fun h => ?_)
  · refine no (fun e => ?_)
    subst e
    simp at h
  · have hl : a.length = b.length := by simp at h; omega
    unfold LoopI
    refine loop_rule (fun i : Nat => h11 a b i) (fun i => i ≤ a.length ∧ a.take i = b.take i) (fun i => a.length - i) (fun i hP K' hnorm hexit => ?_) rfl 0 p11 _ ⟨Nat.zero_le _, by simp⟩ (by kernel_rfl)
    obtain ⟨hi, ht⟩ := hP
    rw [f11_lp]
    refine brn_intro (fun h1 => ?_) (fun h1 => ?_)
    · simp only [decide_eq_true_eq] at h1
      simp only [Int.toNat_natCast]
      refine ⟨by omega, by omega, by omega, by omega, brn_intro (fun h2 => ?_) (fun h2 => ?_)⟩
      · refine hexit _ _ (by simp) (Eq.mp (by kernel_rfl) (no (ne_of_at 0 (i := i) fun e => ?_)))
        rw [e] at h2
        simp at h2
      · have e2 : IntKind.wrap .i64 ((i : Int) + 1) = ((i + 1 : Nat) : Int) := by rw [wrap64 (by omega) (by omega)]; rfl
        have e3 : a.getD i 0 = b.getD i 0 := by
          simp only [bne_eq_false_iff_eq] at h2
          exact UInt8.toNat_inj.1 (by omega)
        simp only [e2]
        refine hnorm (i + 1) p11 _ ⟨by omega, ?_⟩ (by omega) (by kernel_rfl)
        rw [takeS 0 (by omega), takeS 0 (by omega), ht, e3]
    · simp only [decide_eq_false_iff_not] at h1
      have hil : i = a.length := by omega
      have e : a = b := by
        rw [hil, List.take_length, hl, List.take_length] at ht
        exact ht
      rw [decide_eq_true e] at hK
      exact hexit _ _ (by simp) (Eq.mp (by kernel_rfl) hK)
theorem f10_ev (L M : List Ty) (ha : (L.length : Int) ≤ big) (hb : (M.length : Int) ≤ big) (K : List AV → Prop) (hK : K [bo (decide (L = M))]) : evSpec C0 Tryd.f43 [.imm (slT L), .imm (slT M)] K := by
  have hbig : big = 4611686018427387904 := rfl
  have no : L ≠ M → K [.imm (.bool false)] := fun h => by rw [decide_eq_false h] at hK; exact hK
  unfold slT
  rw [f10_in]
  simp only [List.length_map]
  refine brn_intro (fun h => ?_) (fun h => ?_)
  · refine no (fun e => ?_)
    subst e
    simp at h
  · have hl : L.length = M.length := by simp at h; omega
    unfold LoopI
    refine loop_rule (fun i : Nat => h10 (L.map cellsT) (M.map cellsT) i) (fun i => i ≤ L.length ∧ L.take i = M.take i) (fun i => L.length - i) (fun i hP K' hnorm hexit => ?_) rfl 0 p11 _ ⟨Nat.zero_le _, by simp⟩ (by kernel_rfl)
    obtain ⟨hi, ht⟩ := hP
    rw [f10_lp]
    simp only [List.length_map]
    refine brn_intro (fun h1 => ?_) (fun h1 => ?_)
    · simp only [decide_eq_true_eq] at h1
      have hlt : i < L.length := by omega
      simp only [Int.toNat_natCast, getT hlt, getT (hl ▸ hlt : i < M.length), kT, oT, dT, gT]
      refine ⟨by omega, by omega, True.intro, by omega, by omega, True.intro, brn_intro (fun h2 => ?_) (fun h2 => ?_)⟩
      · refine hexit _ _ (by simp) (Eq.mp (by kernel_rfl) (no (ne_of_at t0 (i := i) fun e => ?_)))
        rw [e] at h2
        simp at h2
      · have e2 : IntKind.wrap .i64 ((i : Int) + 1) = ((i + 1 : Nat) : Int) := by rw [wrap64 (by omega) (by omega)]; rfl
        have e3 : L.getD i t0 = M.getD i t0 := by
          simp only [Bool.not_eq_false', Bool.and_eq_true, beq_iff_eq, and_true] at h2
          obtain ⟨q1, q2, q3⟩ := h2
          generalize L.getD i t0 = x at *
          generalize M.getD i t0 = y at *
          cases x; cases y
          simp only at q1 q2 q3
          rw [q1, q2, q3]
        simp only [e2]
        refine hnorm (i + 1) p11 _ ⟨by omega, ?_⟩ (by omega) (by kernel_rfl)
        rw [takeS t0 (by omega), takeS t0 (by omega), ht, e3]
    · simp only [decide_eq_false_iff_not] at h1
      have hil : i = L.length := by omega
      have e : L = M := by
        rw [hil, List.take_length, hl, List.take_length] at ht
        exact ht
      rw [decide_eq_true e] at hK
      exact hexit _ _ (by simp) (Eq.mp (by kernel_rfl) hK)
theorem be_len : ∀ (n v : Nat), (be n v).length = n
  | 0, _ => rfl
  | n + 1, v => by rw [be, List.length_append, be_len n]; rfl
theorem be_front : ∀ (n v : Nat), be (n + 1) v = UInt8.ofNat (v / 256 ^ n % 256) :: be n v
  | 0, v => by simp [be]
  | n + 1, v => by
    rw [be, be_front n (v / 256), be, Nat.pow_succ, Nat.mul_comm, ← Nat.div_div_eq_div_mul, List.cons_append]
theorem be_take : ∀ (n v i : Nat), i < n → (be n v).take (i + 1) = (be n v).take i ++ [UInt8.ofNat (v / 256 ^ (n - 1 - i) % 256)]
  | 0, _, _, h => by omega
  | n + 1, v, i, h => by
    rw [be_front]
    cases i with
    | zero => simp
    | succ i =>
      rw [List.take_succ_cons, List.take_succ_cons, be_take n v i (by omega), List.cons_append, show n + 1 - 1 - (i + 1) = n - 1 - i by omega]
theorem shr8 {v k : Nat} (hk : k ≤ 7) : shrV .u64 (v : Int) ((8 * k : Nat) : Int) = ((v / 256 ^ k : Nat) : Int) := by
  unfold shrV
  have e : min (Int.toNat ((8 * k : Nat) : Int)) IntKind.u64.bits = 8 * k := by
    rw [Int.toNat_natCast]
    exact Nat.min_eq_left (by have : IntKind.u64.bits = 64 := rfl; omega)
  rw [e]
  have : ((2 : Int) ^ (8 * k)) = ((256 ^ k : Nat) : Int) := by
    rw [show (256 : Nat) = 2 ^ 8 from rfl, ← Nat.pow_mul]
    push_cast
    rfl
  rw [this, Int.fdiv_eq_ediv_of_nonneg _ (Int.natCast_nonneg _)]
  rfl
end D6
set_option maxRecDepth 100000
namespace D6
open Go Go.AE Go.Proofs
attribute [local irreducible] loopK evCode evSpec loopB norm
theorem f21_ev (b : List UInt8) (n v : Int) (hb : (b.length : Int) ≤ 1000000000000) (n0 : 0 ≤ n) (n8 : n ≤ 8) (v0 : 0 ≤ v) (v1 : v < 18446744073709551616) (K : List AV → Prop) (hK : K [.new (.bytes (b ++ be n.toNat v.toNat))]) :
    evSpec C0 Tryd.f72 [.imm (.bytes b), i64 n, .imm (.int .u64 v)] K := by
  rw [f21_in]
  have ew : IntKind.wrap .i64 ((b.length : Int) + n) = (b.length : Int) + n := wrap64 (by omega) (by omega)
  rw [ew]
  refine ⟨by omega, by omega, by omega, by omega, by simp; omega, by simp; omega, ?_⟩
  unfold LoopI
  refine loop_rule (fun s : Nat × List UInt8 => h21 n v s.2 s.1) (fun s => (s.1 : Int) ≤ n ∧ s.2 = b ++ (be n.toNat v.toNat).take s.1) (fun s => n.toNat - s.1) (fun s hP K' hnorm hexit => ?_) rfl (0, b) p21 _ ⟨n0, by simp⟩ (by kernel_rfl)
  obtain ⟨i, l⟩ := s
  obtain ⟨hi, hl⟩ := hP
  simp only at hi hl
  rw [f21_lp]
  have hlen : l.length ≤ 1000000000010 := by rw [hl, List.length_append, List.length_take, be_len]; omega
  refine brn_intro (fun h1 => ?_) (fun h1 => ?_)
  · simp only [decide_eq_true_eq] at h1
    have e1 : IntKind.wrap .u64 (IntKind.wrap .i64 ((8 : Int) * IntKind.wrap .i64 (IntKind.wrap .i64 (n - 1) - (i : Int)))) = ((8 * (n.toNat - 1 - i) : Nat) : Int) := by
      rw [wrap64 (n := n - 1) (by omega) (by omega), wrap64 (n := n - 1 - (i : Int)) (by omega) (by omega), wrap64 (by omega) (by omega), wrapU (by omega) (by omega)]; omega
    have e2 : IntKind.wrap .i64 ((i : Int) + 1) = ((i + 1 : Nat) : Int) := by rw [wrap64 (by omega) (by omega)]; rfl
    have hv : v = ((v.toNat : Nat) : Int) := by omega
    have e3 : IntKind.wrap .u8 (shrV .u64 v ((8 * (n.toNat - 1 - i) : Nat) : Int)) = ((v.toNat / 256 ^ (n.toNat - 1 - i) % 256 : Nat) : Int) := by
      rw [hv, shr8 (by omega), wrapU8m]; rfl
    simp only [e1, e2, e3, List.map_cons, List.map_nil, List.length_cons, List.length_nil]
    refine ⟨by omega, by omega, by omega, hnorm (i + 1, l ++ [u8 ((v.toNat / 256 ^ (n.toNat - 1 - i) % 256 : Nat) : Int)]) p21 _ ⟨by simp only; omega, ?_⟩ (by simp only; omega) (by kernel_rfl)⟩
    simp only
    rw [hl, be_take _ _ _ (by omega), List.append_assoc]
    rfl
  · simp only [decide_eq_false_iff_not] at h1
    have hin : i = n.toNat := by omega
    rw [hin, List.take_of_length_le (by rw [be_len]; exact Nat.le_refl _)] at hl
    rw [← hl] at hK
    exact hexit _ _ (by simp) (Eq.mp (by kernel_rfl) hK)
theorem tmodN (n : Nat) : Int.tmod (n : Int) 256 = ((n % 256 : Nat) : Int) := by simp [Int.tmod]
theorem tdivN (n : Nat) : Int.tdiv (n : Int) 256 = ((n / 256 : Nat) : Int) := by simp [Int.tdiv]
theorem f22_ev (b : List UInt8) (n v : Int) (hb : (b.length : Int) ≤ 1000000000000) (n0 : 0 ≤ n) (n8 : n ≤ 8) (v0 : 0 ≤ v) (v1 : v < 18446744073709551616) (K : List AV → Prop) (hK : K [.new (.bytes (b ++ be n.toNat v.toNat))]) :
    evSpec C0 Tryd.f73 [.imm (.bytes b), i64 n, .imm (.int .u64 v)] K := by
  rw [f22_in]
  unfold LoopI
  refine loop_rule (fun s : Nat × Int × Bool × List UInt8 => h22 b n s.2.1 s.2.2.1 s.2.2.2 s.1) (fun s => (s.1 : Int) ≤ n ∧ s.2.1 = ((v.toNat / 256 ^ s.1 : Nat) : Int) ∧ s.2.2.2 = be s.1 v.toNat) (fun s => n.toNat - s.1) (fun s hP K' hnorm hexit => ?_) rfl (0, v, true, []) p22i _ ⟨n0, by simp; omega, rfl⟩ (by kernel_rfl)
  obtain ⟨i, v', own, l⟩ := s
  obtain ⟨hi, hv, hl⟩ := hP
  simp only at hi hl hv
  have hlen : l.length ≤ 8 := by rw [hl, be_len]; omega
  rw [f22_lp]
  refine brn_intro (fun h1 => ?_) (fun h1 => ?_)
  · simp only [decide_eq_true_eq] at h1
    have e2 : IntKind.wrap .i64 ((i : Int) + 1) = ((i + 1 : Nat) : Int) := by rw [wrap64 (by omega) (by omega)]; rfl
    have e3 : IntKind.wrap .u8 (Int.tmod v' 256) = ((v.toNat / 256 ^ i % 256 : Nat) : Int) := by
      rw [hv, tmodN, wrapU8 (by omega) (by omega)]
    have e4 : IntKind.wrap .u64 (Int.tdiv v' 256) = ((v.toNat / 256 ^ (i + 1) : Nat) : Int) := by
      have hd : v.toNat / 256 ^ (i + 1) ≤ v.toNat := Nat.div_le_self _ _
      rw [hv, tdivN, Nat.div_div_eq_div_mul, ← Nat.pow_succ, Nat.succ_eq_add_one]
      generalize v.toNat / 256 ^ (i + 1) = q at hd ⊢
      rw [wrapU (by omega) (by omega)]
    simp only [e2, e3, e4, List.map_cons, List.map_nil, List.length_cons, List.length_nil]
    refine ⟨by decide, by omega, by omega, by decide, hnorm (i + 1, ((v.toNat / 256 ^ (i + 1) : Nat) : Int), someIV (.bytes l), [u8 ((v.toNat / 256 ^ i % 256 : Nat) : Int)] ++ l) p22 _ ⟨by simp only; omega, rfl, ?_⟩ (by simp only; omega) (by kernel_rfl)⟩
    simp only
    rw [be_front, hl]
    rfl
  · simp only [decide_eq_false_iff_not] at h1
    have hin : i = n.toNat := by omega
    rw [← hin, ← hl] at hK
    refine hexit _ _ (by simp) ?_
    rw [f22_out]
    refine ⟨by simp; omega, by simp; omega, by simp; omega, by simp; omega, ?_⟩
    simpa using hK
theorem uintP_lt (b : List UInt8) (off n : Nat) : uintP b off n < 256 ^ n := by
  unfold uintP okR
  split
  · rename_i h
    simp only [decide_eq_true_eq] at h
    have := beN_lt ((b.drop off).take n)
    rw [List.length_take, List.length_drop, Nat.min_eq_left (by omega)] at this
    exact this
  · exact Nat.pow_pos (by decide)
theorem wrap64m (n : Int) : IntKind.wrap .i64 n = (n + 9223372036854775808) % 18446744073709551616 - 9223372036854775808 := by
  have := IntKind.wrap_i64 n
  rw [show IntKind.wrap .i64 n = IntKind.i64.wrap n from rfl, this]
theorem eight {n : Int} (n1 : 1 ≤ n) (n8 : n ≤ 8) : n = 1 ∨ n = 2 ∨ n = 3 ∨ n = 4 ∨ n = 5 ∨ n = 6 ∨ n = 7 ∨ n = 8 := by omega
theorem shl_eq {u s : Nat} (hs : s ≤ 64) : shlV .u64 (u : Int) (s : Int) = ((u : Int) * 2 ^ s) % 18446744073709551616 := by
  unfold shlV
  rw [Int.toNat_natCast, Nat.min_eq_left (by have : IntKind.u64.bits = 64 := rfl; omega), wrapUm]
theorem shr_eq {x : Int} {s : Nat} (hs : s ≤ 64) : shrV .i64 x (s : Int) = x / 2 ^ s := by
  unfold shrV
  rw [Int.toNat_natCast, Nat.min_eq_left (by have : IntKind.i64.bits = 64 := rfl; omega), Int.fdiv_eq_ediv_of_nonneg _ (Int.le_of_lt (Int.pow_pos (by decide)))]
theorem sgn_eq {u n : Nat} (hu : u < 256 ^ n) (n1 : 1 ≤ n) (n8 : n ≤ 8) : shrV .i64 (IntKind.wrap .i64 (shlV .u64 (u : Int) ((64 - 8 * n : Nat) : Int))) ((64 - 8 * n : Nat) : Int) = sgnN n u := by
  rw [shl_eq (by omega), shr_eq (by omega), wrap64m]
  unfold sgnN
  have : n = 1 ∨ n = 2 ∨ n = 3 ∨ n = 4 ∨ n = 5 ∨ n = 6 ∨ n = 7 ∨ n = 8 := by omega
  rcases this with rfl | rfl | rfl | rfl | rfl | rfl | rfl | rfl <;> simp at hu ⊢ <;> split <;> omega
theorem f23_ev (b : List UInt8) (off n : Int) (hb : (b.length : Int) ≤ big) (h0 : 0 ≤ off) (h1 : off ≤ big) (n1 : 1 ≤ n) (n8 : n ≤ 8) (K : List AV → Prop) (hK : K [.imm (.int .i64 (sgnN n.toNat (uintP b off.toNat n.toNat))), bo (okR b off.toNat n.toNat)]) :
    evSpec C1 Tryd.f68 [.imm (.bytes b), i64 off, i64 n] K := by
  rw [f23_in]
  have e1 : IntKind.wrap .u64 (IntKind.wrap .i64 ((64 : Int) - IntKind.wrap .i64 ((8 : Int) * n))) = ((64 - 8 * n.toNat : Nat) : Int) := by
    rw [wrap64 (n := 8 * n) (by omega) (by omega), wrap64 (by omega) (by omega), wrapU (by omega) (by omega)]; omega
  rw [e1, sgn_eq (uintP_lt _ _ _) (by omega) (by omega)]
  exact ⟨hb, h0, h1, by omega, n8, by omega, by omega, hK⟩
theorem f20_ev (b : List UInt8) (off n : Int) (hb : (b.length : Int) ≤ big) (h0 : 0 ≤ off) (h1 : off ≤ big) (n1 : 1 ≤ n) (n8 : n ≤ 8) (K : List AV → Prop) (hK : K [.imm (.int .i64 (sgnN n.toNat (uintP b off.toNat n.toNat))), bo (okR b off.toNat n.toNat)]) :
    evSpec C1 Tryd.f69 [.imm (.bytes b), i64 off, i64 n] K := by
  rw [f20_in]
  have hu := uintP_lt b off.toNat n.toNat
  generalize uintP b off.toNat n.toNat = u at hu hK
  generalize okR b off.toNat n.toNat = r at hK
  refine ⟨hb, h0, h1, by omega, n8, n1, n8, brn_intro (fun h => ⟨n1, n8, n1, n8, ?_⟩) (fun h => ?_)⟩
  · have e : IntKind.wrap .i64 (IntKind.wrap .i64 (IntKind.wrap .i64 (IntKind.wrap .u64 ((u : Int) - 2 ^ (8 * n.toNat - 1))) - IntKind.wrap .i64 (IntKind.wrap .u64 ((2 : Int) ^ (8 * n.toNat - 1) - 1))) - 1) = sgnN n.toNat u := by
      unfold sgnN
      simp only [wrap64m, wrapUm]
      simp only [decide_eq_true_eq] at h
      rcases eight n1 n8 with rfl | rfl | rfl | rfl | rfl | rfl | rfl | rfl <;> simp at hu h ⊢ <;> split <;> omega
    rw [e]
    exact hK
  · have e : IntKind.wrap .i64 (u : Int) = sgnN n.toNat u := by
      unfold sgnN
      simp only [wrap64m]
      simp only [decide_eq_false_iff_not] at h
      rcases eight n1 n8 with rfl | rfl | rfl | rfl | rfl | rfl | rfl | rfl <;> simp at hu h ⊢ <;> split <;> omega
    rw [e]
    exact hK
end D6
set_option maxRecDepth 100000
namespace D6
open Go Go.AE Go.Proofs
attribute [local irreducible] loopK evCode evSpec loopB norm
theorem any_take {α : Type} {l : List α} {i : Nat} (d : α) (p : α → Bool) (h : i < l.length) : (l.take (i + 1)).any p = ((l.take i).any p || p (l.getD i d)) := by
  rw [takeS d h, List.any_append]
  simp
end D6
set_option maxRecDepth 100000
namespace D6
open Go Go.AE Go.Proofs
attribute [local irreducible] loopK evCode evSpec loopB norm
theorem enc_app : ∀ (L M : List Ty), enc (L ++ M) = enc L ++ enc M
  | [], M => rfl
  | t :: L, M => by rw [List.cons_append, enc, enc, enc_app L M, List.append_assoc]
theorem enc1_len (t : Ty) : (enc1 t).length = 6 := by
  unfold enc1
  rw [List.length_append, be_len]
  rfl
theorem enc_len : ∀ L : List Ty, (enc L).length = 6 * L.length
  | [] => rfl
  | t :: L => by rw [enc, List.length_append, enc1_len, enc_len L, List.length_cons]; omega
theorem enc_take {L : List Ty} {i : Nat} (h : i < L.length) : enc (L.take (i + 1)) = enc (L.take i) ++ enc1 (L.getD i t0) := by
  rw [takeS t0 h, enc_app]
  congr 1
theorem u64_ok {o : Int} (h0 : -2147483648 ≤ o) (h1 : o ≤ 2147483647) : IntKind.wrap .u64 (IntKind.wrap .i64 o) = ((u64 o : Nat) : Int) := by
  rw [wrap64 (by omega) (by omega), wrapUm]
  unfold u64
  have := Int.emod_nonneg o (by decide : (18446744073709551616 : Int) ≠ 0)
  exact (Int.toNat_of_nonneg this).symm
theorem u64_lt (o : Int) : u64 o < 18446744073709551616 := by
  unfold u64
  have := Int.emod_lt_of_pos o (by decide : (0 : Int) < 18446744073709551616)
  have := Int.emod_nonneg o (by decide : (18446744073709551616 : Int) ≠ 0)
  omega
theorem f12_ev (L : List Ty) (hL : ∀ t ∈ L, okTy t) (hl : (L.length : Int) ≤ 100000000000) (K : List AV → Prop) (hK : K [.new (.bytes (enc L))]) : evSpec C3 Tryd.f55 [.imm (slT L)] K := by
  unfold slT
  rw [f12_in]
  simp only [List.length_map]
  have ew : IntKind.wrap .i64 ((6 : Int) * (L.length : Int)) = 6 * (L.length : Int) := wrap64 (by omega) (by omega)
  rw [ew]
  refine ⟨by omega, by omega, by omega, by omega, ?_⟩
  unfold LoopI
  refine loop_rule (fun s : Nat × List UInt8 => h12 (L.map cellsT) s.2 s.1) (fun s => s.1 ≤ L.length ∧ s.2 = enc (L.take s.1)) (fun s => L.length - s.1) (fun s hP K' hnorm hexit => ?_) rfl (0, []) p12i _ ⟨Nat.zero_le _, rfl⟩ (by unfold h12; rw [List.length_map]; kernel_rfl)
  obtain ⟨i, l⟩ := s
  obtain ⟨hi, hll⟩ := hP
  simp only at hi hll
  rw [f12_lp]
  simp only [List.length_map]
  have e2 : IntKind.wrap .i64 ((i : Int) + 1) = ((i + 1 : Nat) : Int) := by rw [wrap64 (by omega) (by omega)]; rfl
  have hlen : l.length = 6 * i := by rw [hll, enc_len, List.length_take, Nat.min_eq_left hi]
  refine brn_intro (fun h1 => ?_) (fun h1 => ?_)
  · simp only [decide_eq_true_eq] at h1
    have hlt : i < L.length := by omega
    have hok := hL _ (memD t0 hlt)
    have het := enc_take hlt
    simp only [Int.toNat_natCast, getT hlt, kT, oT, dT, gT]
    generalize L.getD i t0 = t at hok het
    obtain ⟨q1, q2, q3, q4⟩ := hok
    have hu := u64_lt t.o
    simp only [e2, u64_ok q1 q2, Int.toNat_natCast, List.length_append, be_len, List.map_cons, List.map_nil, List.length_cons, List.length_nil]
    rw [← hll] at het
    refine ⟨by omega, by omega, True.intro, by omega, by omega, by omega, by omega, by omega, brn_intro (fun h2 => ?_) (fun h2 => ?_)⟩
    · refine ⟨by simp; omega, by simp; omega, hnorm (i + 1, l ++ be 4 (u64 t.o) ++ [u8 1, u8 t.g]) ⟨[], msk [3, 11, 12, 13] 0 33, [2]⟩ _ ⟨hlt, ?_⟩ (by simp only; omega) (by unfold h12; rw [List.length_map]; kernel_rfl)⟩
      simp only
      rw [het]
      unfold enc1
      rw [h2, if_pos rfl, List.append_assoc]
      rfl
    · refine ⟨by simp; omega, by simp; omega, hnorm (i + 1, l ++ be 4 (u64 t.o) ++ [u8 0, u8 t.g]) ⟨[], msk [3, 11, 12, 13] 0 33, [2]⟩ _ ⟨hlt, ?_⟩ (by simp only; omega) (by unfold h12; rw [List.length_map]; kernel_rfl)⟩
      simp only
      rw [het]
      unfold enc1
      rw [h2, if_neg (by decide), List.append_assoc]
      rfl
  · simp only [decide_eq_false_iff_not] at h1
    have hil : i = L.length := by omega
    rw [hil, List.take_length] at hll
    rw [← hll] at hK
    exact hexit _ _ (by simp) (Eq.mp (by kernel_rfl) hK)
theorem f13_ev (L : List Ty) (hL : ∀ t ∈ L, okTy t) (hl : (L.length : Int) ≤ 100000000000) (K : List AV → Prop) (hK : K [.new (.bytes (enc L))]) : evSpec C3 Tryd.f59 [.imm (slT L)] K := by
  unfold slT
  rw [f13_in]
  unfold LoopI
  refine loop_rule (fun s : Nat × List UInt8 => h13 (L.map cellsT) s.2 s.1) (fun s => s.1 ≤ L.length ∧ s.2 = enc (L.take s.1)) (fun s => L.length - s.1) (fun s hP K' hnorm hexit => ?_) rfl (0, []) p13i _ ⟨Nat.zero_le _, rfl⟩ (by kernel_rfl)
  obtain ⟨i, l⟩ := s
  obtain ⟨hi, hll⟩ := hP
  simp only at hi hll
  rw [f13_lp]
  simp only [List.length_map]
  have e2 : IntKind.wrap .i64 ((i : Int) + 1) = ((i + 1 : Nat) : Int) := by rw [wrap64 (by omega) (by omega)]; rfl
  have hlen : l.length = 6 * i := by rw [hll, enc_len, List.length_take, Nat.min_eq_left hi]
  refine brn_intro (fun h1 => ?_) (fun h1 => ?_)
  · simp only [decide_eq_true_eq] at h1
    have hlt : i < L.length := by omega
    have hok := hL _ (memD t0 hlt)
    have het := enc_take hlt
    simp only [Int.toNat_natCast, getT hlt, kT, oT, dT, gT]
    generalize L.getD i t0 = t at hok het
    obtain ⟨q1, q2, q3, q4⟩ := hok
    have hu := u64_lt t.o
    simp only [e2, u64_ok q1 q2, Int.toNat_natCast, List.length_append, be_len, List.map_cons, List.map_nil, List.length_cons, List.length_nil]
    rw [← hll] at het
    refine ⟨by omega, by omega, True.intro, by omega, by omega, by omega, by omega, by omega, by omega, by omega, True.intro, brn_intro (fun h2 => ?_) (fun h2 => ?_)⟩
    · refine ⟨by omega, by omega, True.intro, by simp; omega, by simp; omega, hnorm (i + 1, l ++ be 4 (u64 t.o) ++ [u8 1, u8 t.g]) ⟨[], msk [0, 3, 4] 0 36, [1]⟩ _ ⟨hlt, ?_⟩ (by simp only; omega) (by kernel_rfl)⟩
      simp only
      rw [het]
      unfold enc1
      rw [h2, if_pos rfl, List.append_assoc]
      rfl
    · refine ⟨by omega, by omega, True.intro, by simp; omega, by simp; omega, hnorm (i + 1, l ++ be 4 (u64 t.o) ++ [u8 0, u8 t.g]) ⟨[], msk [0, 3, 4] 0 36, [1]⟩ _ ⟨hlt, ?_⟩ (by simp only; omega) (by kernel_rfl)⟩
      simp only
      rw [het]
      unfold enc1
      rw [h2, if_neg (by decide), List.append_assoc]
      rfl
  · simp only [decide_eq_false_iff_not] at h1
    have hil : i = L.length := by omega
    rw [hil, List.take_length] at hll
    rw [← hll] at hK
    exact hexit _ _ (by simp) (Eq.mp (by kernel_rfl) hK)
end D6
set_option maxRecDepth 100000
namespace D6
open Go Go.AE Go.Proofs
attribute [local irreducible] loopK evCode evSpec loopB norm
theorem flags_false {b : List UInt8} {i : Nat} (h : flags b i = false) : ∀ k, i ≤ k → flags b k = false
  | 0, hk => by have : i = 0 := by omega
                subst this; exact h
  | k + 1, hk => by
    by_cases he : i = k + 1
    · rw [← he]; exact h
    · rw [flags, flags_false h k (by omega)]; rfl
theorem recs_len (b : List UInt8) : ∀ k, (recs b k).length = k
  | 0 => rfl
  | k + 1 => by rw [recs, List.length_append, recs_len b k]; rfl
theorem tdiv6 (n : Nat) : IntKind.wrap .i64 (Int.tdiv (n : Int) 6) = ((n / 6 : Nat) : Int) ∨ ¬ n ≤ 1000000000000 := by
  by_cases h : n ≤ 1000000000000
  · left
    have : Int.tdiv (n : Int) 6 = ((n / 6 : Nat) : Int) := by simp [Int.tdiv]
    rw [this, wrap64 (by omega) (by omega)]
  · exact .inr h
theorem sgn4 {u : Nat} (h : u < 256 ^ 4) : -2147483648 ≤ sgnN 4 u ∧ sgnN 4 u ≤ 2147483647 := by
  unfold sgnN
  simp at h ⊢
  split <;> omega
theorem wrap32 {n : Int} (h1 : -2147483648 ≤ n) (h2 : n ≤ 2147483647) : IntKind.wrap .i32 n = n := by
  simp [IntKind.wrap, IntKind.min, IntKind.max, IntKind.signed, IntKind.bits]
  omega
theorem beq1 (x : UInt8) : (((x.toNat : Nat) : Int) == 1) = (x == 1) := by
  cases h : x == 1 with
  | true =>
    have : x = 1 := by simpa using h
    subst this; rfl
  | false =>
    have h1 : x ≠ 1 := by simpa using h
    simp only [beq_eq_false_iff_ne]
    intro e
    exact h1 (UInt8.toNat_inj.1 (by have : (1 : UInt8).toNat = 1 := rfl; omega))
theorem recB_eq {b : List UInt8} {o : Nat} (h : o + 6 ≤ b.length) : cellsT (recB (b.drop o)) = [.int .i32 (sgnN 4 (uintP b o 4)), .bool (b.getD (o + 4) 0 == 1), .int .u8 ((b.getD (o + 5) 0).toNat : Int)] := by
  have hr : okR b o 4 = true := by unfold okR; simp only [decide_eq_true_eq]; omega
  unfold recB cellsT uintP
  rw [hr, if_pos rfl, getD_drop', getD_drop']
theorem recB_ok {b : List UInt8} : okTy (recB b) := by
  have h := sgn4 (u := beN (b.take 4)) (by
    have := beN_lt (b.take 4)
    have h2 : 256 ^ (b.take 4).length ≤ 256 ^ 4 := Nat.pow_le_pow_right (by decide) (by rw [List.length_take]; omega)
    omega)
  have := (b.getD 5 0).toNat_lt
  exact ⟨h.1, h.2, by unfold recB; simp only; omega, by unfold recB; simp only; omega⟩
theorem recs_ok {b : List UInt8} : ∀ k, ∀ t ∈ recs b k, okTy t
  | 0, t, h => by cases h
  | k + 1, t, h => by
    rw [recs, List.mem_append] at h
    rcases h with h | h
    · exact recs_ok k t h
    · rw [List.mem_singleton.1 h]; exact recB_ok
theorem dec_ok {b : List UInt8} : ∀ t ∈ dec b, okTy t := by
  unfold dec
  split
  · exact recs_ok _
  · intro t h; cases h
theorem gt1 (x : UInt8) : decide (((x.toNat : Nat) : Int) > 1) = !decide (x.toNat ≤ 1) := by
  by_cases h : x.toNat ≤ 1
  · rw [decide_eq_true h, decide_eq_false (by omega)]; rfl
  · rw [decide_eq_false h, decide_eq_true (by omega)]; rfl
theorem f9_ev (b : List UInt8) (hb : (b.length : Int) ≤ 1000000000000) (K : List AV → Prop) (hK : K [.new (slT (dec b)), bo (decOk b)]) : evSpec C2 Tryd.f39 [.imm (.bytes b)] K := by
  have hbig : big = 4611686018427387904 := rfl
  have e6 : IntKind.wrap .i64 (Int.tdiv (b.length : Int) 6) = ((b.length / 6 : Nat) : Int) := by
    rcases tdiv6 b.length with h | h
    · exact h
    · omega
  rw [f9_in]
  unfold LoopI
  refine loop_rule (fun i : Nat => h9a b i) (fun i => i ≤ b.length / 6 ∧ flags b i = true) (fun i => b.length / 6 - i) (fun i hP K' hnorm hexit => ?_) rfl 0 p9a _ ⟨Nat.zero_le _, rfl⟩ (by kernel_rfl)
  obtain ⟨hi, hf⟩ := hP
  rw [f9_lpa, e6]
  have e2 : IntKind.wrap .i64 ((i : Int) + 1) = ((i + 1 : Nat) : Int) := by rw [wrap64 (by omega) (by omega)]; rfl
  have e3 : IntKind.wrap .i64 (IntKind.wrap .i64 ((6 : Int) * (i : Int)) + 4) = ((6 * i + 4 : Nat) : Int) := by rw [wrap64 (n := 6 * (i : Int)) (by omega) (by omega), wrap64 (by omega) (by omega)]; omega
  refine ⟨by decide, brn_intro (fun h1 => ?_) (fun h1 => ?_)⟩
  · simp only [decide_eq_true_eq] at h1
    simp only [e2, e3, Int.toNat_natCast, gt1]
    refine ⟨by omega, by omega, brn_intro (fun h2 => ?_) (fun h2 => ?_)⟩
    · have hff : flags b (i + 1) = false := by
        rw [flags, hf]
        simpa using h2
      have h0 := flags_false hff (b.length / 6) (by omega)
      unfold dec decOk at hK
      rw [h0] at hK
      exact hexit _ _ (by simp) (Eq.mp (by kernel_rfl) hK)
    · refine hnorm (i + 1) p9a _ ⟨by omega, ?_⟩ (by omega) (by kernel_rfl)
      rw [flags, hf]
      simpa using h2
  · simp only [decide_eq_false_iff_not] at h1
    have hil : i = b.length / 6 := by omega
    rw [hil] at hf
    unfold dec decOk at hK
    rw [hf, if_pos rfl] at hK
    refine hexit _ _ (by simp) ?_
    have eo := f9_out b i K
    rw [e6] at eo
    rw [eo]
    clear hexit hnorm eo h1 e2 e3 hil hi hf
    unfold LoopI
    refine loop_rule (fun s : Nat => h9b b (recs b s) s) (fun i => i ≤ b.length / 6) (fun i => b.length / 6 - i) (fun i hi K' hnorm hexit => ?_) rfl 0 p9bi _ (Nat.zero_le _) (by kernel_rfl)
    rw [f9_lpb, e6]
    have e2 : IntKind.wrap .i64 ((i : Int) + 1) = ((i + 1 : Nat) : Int) := by rw [wrap64 (by omega) (by omega)]; rfl
    have e3 : IntKind.wrap .i64 (((6 * i : Nat) : Int) + 4) = ((6 * i + 4 : Nat) : Int) := by rw [wrap64 (by omega) (by omega)]; omega
    have e4 : IntKind.wrap .i64 (((6 * i : Nat) : Int) + 5) = ((6 * i + 5 : Nat) : Int) := by rw [wrap64 (by omega) (by omega)]; omega
    have e5 : IntKind.wrap .i64 ((6 : Int) * (i : Int)) = ((6 * i : Nat) : Int) := by rw [wrap64 (by omega) (by omega)]; omega
    have el := recs_len b i
    refine ⟨by decide, brn_intro (fun h1 => ?_) (fun h1 => ?_)⟩
    · simp only [decide_eq_true_eq] at h1
      have hu := sgn4 (uintP_lt b (6 * i) 4)
      have e7 := wrap32 hu.1 hu.2
      have e8 : Int.toNat (4 : Int) = 4 := rfl
      have hc := recB_eq (b := b) (o := 6 * i) (by omega)
      have hm : (recs b (i + 1)).map cellsT = (recs b i).map cellsT ++ [cellsT (recB (b.drop (6 * i)))] := by rw [recs, List.map_append]; rfl
      rw [hc] at hm
      simp only [e2, e3, e4, e5, Int.toNat_natCast, e8, e7, beq1, ← hm]
      refine ⟨by omega, by omega, by omega, by decide, by decide, by omega, by omega, by omega, by omega, by simp [el]; omega, by simp [el]; omega, hnorm (i + 1) ⟨[], msk [0, 5, 6] 0 57, [0]⟩ _ (by omega) (by omega) (by kernel_rfl)⟩
    · simp only [decide_eq_false_iff_not] at h1
      have hil : i = b.length / 6 := by omega
      rw [← hil] at hK
      exact hexit _ _ (by simp) (Eq.mp (by kernel_rfl) hK)
end D6
set_option maxRecDepth 100000
namespace D6
open Go Go.AE Go.Proofs
attribute [local irreducible] loopK evCode evSpec loopB norm
theorem getD_take {b : List UInt8} {n i : Nat} (h : i < n) : (b.take n).getD i 0 = b.getD i 0 := by
  simp only [List.getD_eq_getElem?_getD, List.getElem?_take, if_pos h]
theorem uintP_at {b : List UInt8} {o : Nat} (h : o + 6 ≤ b.length) : uintP ((b.drop o).take 6) 0 4 = uintP b o 4 := by
  have h1 : okR ((b.drop o).take 6) 0 4 = true := by
    unfold okR
    simp only [decide_eq_true_eq, List.length_take, List.length_drop]
    omega
  have h2 : okR b o 4 = true := by
    unfold okR
    simp only [decide_eq_true_eq]
    omega
  unfold uintP
  rw [h1, h2, if_pos rfl, if_pos rfl, List.drop_zero, List.take_take]
  rfl
theorem f8_ev (b : List UInt8) (hb : (b.length : Int) ≤ 1000000000000) (K : List AV → Prop) (hK : K [.new (slT (dec b)), bo (decOk b)]) : evSpec C8 Tryd.f31 [.imm (.bytes b)] K := by
  have hbig : big = 4611686018427387904 := rfl
  rw [f8_in]
  unfold LoopI
  refine loop_rule (fun i : Nat => h8 b (recs b i) (6 * i)) (fun i => i ≤ b.length / 6 ∧ flags b i = true) (fun i => b.length / 6 - i) (fun i hP K' hnorm hexit => ?_) rfl 0 p8i _ ⟨Nat.zero_le _, rfl⟩ (by kernel_rfl)
  obtain ⟨hi, hf⟩ := hP
  rw [f8_lp]
  have e1 : IntKind.wrap .i64 (((6 * i : Nat) : Int) + 6) = ((6 * (i + 1) : Nat) : Int) := by rw [wrap64 (by omega) (by omega)]; omega
  have el := recs_len b i
  rw [e1]
  refine brn_intro (fun h1 => ?_) (fun h1 => ?_)
  · simp only [decide_eq_true_eq] at h1
    have hi1 : i + 1 ≤ b.length / 6 := by omega
    have e2 : 6 * (i + 1) - 6 * i = 6 := by omega
    have hs : ((b.drop (6 * i)).take 6).length = 6 := by rw [List.length_take, List.length_drop]; omega
    have g4 : ((b.drop (6 * i)).take 6).getD 4 0 = b.getD (6 * i + 4) 0 := by rw [getD_take (by decide), getD_drop']
    have g5 : ((b.drop (6 * i)).take 6).getD 5 0 = b.getD (6 * i + 5) 0 := by rw [getD_take (by decide), getD_drop']
    have hu := sgn4 (uintP_lt b (6 * i) 4)
    have e7 := wrap32 hu.1 hu.2
    have t0 : Int.toNat (0 : Int) = 0 := rfl
    have t4 : Int.toNat (4 : Int) = 4 := rfl
    have t5 : Int.toNat (5 : Int) = 5 := rfl
    have hua := uintP_at (b := b) (o := 6 * i) (by omega)
    have hc := recB_eq (b := b) (o := 6 * i) (by omega)
    have hm : (recs b (i + 1)).map cellsT = (recs b i).map cellsT ++ [cellsT (recB (b.drop (6 * i)))] := by rw [recs, List.map_append]; rfl
    rw [hc] at hm
    have ea : IntKind.wrap .i64 ((0 : Int) + 1) = 1 := rfl
    simp only [Int.toNat_natCast, e2, hs, t4, t5, t0, g4, g5, hua, e7, beq1, gt1, ← hm, ea]
    refine ⟨by omega, by omega, by omega, by omega, by omega, by omega, by omega, by omega, by omega, by omega, brn_intro (fun h2 => ?_) (fun h2 => ?_)⟩
    · have hff : flags b (i + 1) = false := by
        rw [flags, hf]
        simpa using h2
      have h0 := flags_false hff (b.length / 6) (by omega)
      unfold dec decOk at hK
      rw [h0] at hK
      refine ⟨by omega, by omega, by omega, by simp, rfl, by omega, by omega, by omega, by omega, by omega, by simp, rfl, by simp, by simp, hexit _ _ (by simp) (Eq.mp (by kernel_rfl) hK)⟩
    · refine ⟨by omega, by omega, by omega, by omega, by simp [el]; omega, by simp [el]; omega, hnorm (i + 1) ⟨[], msk [0, 4, 5] 0 33, [0]⟩ _ ⟨hi1, ?_⟩ (by omega) (by kernel_rfl)⟩
      rw [flags, hf]
      simpa using h2
  · simp only [decide_eq_false_iff_not] at h1
    have hil : i = b.length / 6 := by omega
    unfold dec decOk at hK
    rw [← hil, hf, if_pos rfl] at hK
    exact hexit _ _ (by simp) (Eq.mp (by kernel_rfl) hK)
end D6
set_option maxRecDepth 100000
namespace D6
open Go Go.AE Go.Proofs
attribute [local irreducible] loopK evCode evSpec loopB norm
theorem ok31 : ∀ args pres res, sUint args = some (pres, res) → SpecOK Tryd.prog G16 81 args pres res := by
  intro args pres res h
  unfold sUint at h
  split at h
  case h_2 => cases h
  cases h
  exact mk ok0 Tryd.func81 (by kernel_rfl) (by kernel_rfl) (fun hp K hK => f31_ev _ _ _ (hp _ (by simp)) (hp _ (by simp)) (hp _ (by simp)) (hp _ (by simp)) (hp _ (by simp)) K hK)
theorem ok29 : ∀ args pres res, sUint args = some (pres, res) → SpecOK Tryd.prog G16 82 args pres res := by
  intro args pres res h
  unfold sUint at h
  split at h
  case h_2 => cases h
  cases h
  exact mk ok0 Tryd.func82 (by kernel_rfl) (by kernel_rfl) (fun hp K hK => f29_ev _ _ _ (hp _ (by simp)) (hp _ (by simp)) (hp _ (by simp)) (hp _ (by simp)) (hp _ (by simp)) K hK)
theorem ok30 : ∀ args pres res, sHalf args = some (pres, res) → SpecOK Tryd.prog G16 70 args pres res := by
  intro args pres res h
  unfold sHalf at h
  split at h
  case h_2 => cases h
  cases h
  exact mk ok0 Tryd.func70 (by kernel_rfl) (by kernel_rfl) (fun hp K hK => f30_ev _ (hp _ (by simp)) (hp _ (by simp)) K hK)
theorem ok11 : ∀ args pres res, sSameB args = some (pres, res) → SpecOK Tryd.prog G16 20 args pres res := by
  intro args pres res h
  unfold sSameB at h
  split at h
  case h_2 => cases h
  cases h
  exact mk ok0 Tryd.func20 (by kernel_rfl) (by kernel_rfl) (fun hp K hK => f11_ev _ _ (hp _ (by simp)) (hp _ (by simp)) K hK)
theorem okE1 : EOK Tryd.prog E1 G16 := addE_ok (addE_ok (addE_ok (addE_ok ok0 ok31) ok29) ok30) ok11
theorem ok23 : ∀ args pres res, sInt args = some (pres, res) → SpecOK Tryd.prog G16 68 args pres res := by
  intro args pres res h
  unfold sInt at h
  split at h
  case h_2 => cases h
  cases h
  exact mk okE1 Tryd.func68 (by kernel_rfl) (by kernel_rfl) (fun hp K hK => f23_ev _ _ _ (hp _ (by simp)) (hp _ (by simp)) (hp _ (by simp)) (hp _ (by simp)) (hp _ (by simp)) K hK)
theorem ok20 : ∀ args pres res, sInt args = some (pres, res) → SpecOK Tryd.prog G16 69 args pres res := by
  intro args pres res h
  unfold sInt at h
  split at h
  case h_2 => cases h
  cases h
  exact mk okE1 Tryd.func69 (by kernel_rfl) (by kernel_rfl) (fun hp K hK => f20_ev _ _ _ (hp _ (by simp)) (hp _ (by simp)) (hp _ (by simp)) (hp _ (by simp)) (hp _ (by simp)) K hK)
theorem okE2 : EOK Tryd.prog E2 G16 := addE_ok (addE_ok okE1 ok23) ok20
theorem ok21 : ∀ args pres res, sAppend args = some (pres, res) → SpecOK Tryd.prog G16 72 args pres res := by
  intro args pres res h
  unfold sAppend at h
  split at h
  case h_2 => cases h
  cases h
  exact mk ok0 Tryd.func72 (by kernel_rfl) (by kernel_rfl) (fun hp K hK => f21_ev _ _ _ (hp _ (by simp)) (hp _ (by simp)) (hp _ (by simp)) (hp _ (by simp)) (hp _ (by simp)) K hK)
theorem ok22 : ∀ args pres res, sAppend args = some (pres, res) → SpecOK Tryd.prog G16 73 args pres res := by
  intro args pres res h
  unfold sAppend at h
  split at h
  case h_2 => cases h
  cases h
  exact mk ok0 Tryd.func73 (by kernel_rfl) (by kernel_rfl) (fun hp K hK => f22_ev _ _ _ (hp _ (by simp)) (hp _ (by simp)) (hp _ (by simp)) (hp _ (by simp)) (hp _ (by simp)) K hK)
theorem ok10 : ∀ args pres res, sSameT args = some (pres, res) → SpecOK Tryd.prog G16 43 args pres res := by
  intro args pres res h
  unfold sSameT at h
  split at h
  case h_2 => cases h
  cases h
  rename_i xs ys
  exact mk ok0 Tryd.func43 (by kernel_rfl) (by kernel_rfl) (fun hp K hK => by
    obtain ⟨L, rfl, e, hL⟩ := okT_elim (hp (okT xs) (by simp))
    obtain ⟨M, rfl, e', hM⟩ := okT_elim (hp (okT ys) (by simp))
    rw [e, e'] at hK
    have h1 := hp (((L.map cellsT).length : Int) ≤ big) (by simp)
    have h2 := hp (((M.map cellsT).length : Int) ≤ big) (by simp)
    rw [List.length_map] at h1 h2
    exact f10_ev L M h1 h2 K hK)
theorem okE3 : EOK Tryd.prog E3 G16 := addE_ok (addE_ok (addE_ok okE2 ok21) ok22) ok10
theorem ok12 : ∀ args pres res, sEnc args = some (pres, res) → SpecOK Tryd.prog G16 55 args pres res := by
  intro args pres res h
  unfold sEnc at h
  split at h
  case h_2 => cases h
  cases h
  rename_i xs
  exact mk okE3 Tryd.func55 (by kernel_rfl) (by kernel_rfl) (fun hp K hK => by
    obtain ⟨L, rfl, e, hL⟩ := okT_elim (hp (okT xs) (by simp))
    rw [e] at hK
    have h1 := hp (((L.map cellsT).length : Int) ≤ 100000000000) (by simp)
    rw [List.length_map] at h1
    exact f12_ev L hL h1 K hK)
theorem ok13 : ∀ args pres res, sEnc args = some (pres, res) → SpecOK Tryd.prog G16 59 args pres res := by
  intro args pres res h
  unfold sEnc at h
  split at h
  case h_2 => cases h
  cases h
  rename_i xs
  exact mk okE3 Tryd.func59 (by kernel_rfl) (by kernel_rfl) (fun hp K hK => by
    obtain ⟨L, rfl, e, hL⟩ := okT_elim (hp (okT xs) (by simp))
    rw [e] at hK
    have h1 := hp (((L.map cellsT).length : Int) ≤ 100000000000) (by simp)
    rw [List.length_map] at h1
    exact f13_ev L hL h1 K hK)
theorem I16_ok : ∀ f fn, I16 f = some fn → Tryd.prog.funcs[f]? = some fn ∧ (fn.name == "runtime.NumGoroutine") = false := by
  intro f fn h
  unfold I16 at h
  cases h1 : Nat.beq f 66 with
  | true => rw [h1, cond_true] at h; cases h; obtain rfl := nbeq h1; exact ⟨Tryd.func66, by kernel_rfl⟩
  | false =>
    rw [h1, cond_false] at h
    cases h2 : Nat.beq f 76 with
    | true => rw [h2, cond_true] at h; cases h; obtain rfl := nbeq h2; exact ⟨Tryd.func76, by kernel_rfl⟩
    | false => rw [h2, cond_false] at h; cases h
theorem ok8 : ∀ args pres res, sDec args = some (pres, res) → SpecOK Tryd.prog G16 31 args pres res := by
  intro args pres res h
  unfold sDec at h
  split at h
  case h_2 => cases h
  cases h
  exact spec_ok (C := C8) okE3 (call16_ok okE3 I16_ok 3) Tryd.func31 (by kernel_rfl) (by kernel_rfl) (fun hp => f8_ev _ (hp _ (by simp)) _ rfl)
theorem ok9 : ∀ args pres res, sDec args = some (pres, res) → SpecOK Tryd.prog G16 39 args pres res := by
  intro args pres res h
  unfold sDec at h
  split at h
  case h_2 => cases h
  cases h
  exact mk okE2 Tryd.func39 (by kernel_rfl) (by kernel_rfl) (fun hp K hK => f9_ev _ (hp _ (by simp)) K hK)
theorem okE4 : EOK Tryd.prog E4 G16 := addE_ok (addE_ok (addE_ok (addE_ok okE3 ok12) ok13) ok8) ok9
end D6
set_option maxRecDepth 100000
namespace Z19
open Go Go.AE Go.Proofs D6
attribute [local irreducible] loopK evCode evSpec loopB norm
theorem f23_in (d : List UInt8) (K : List AV → Prop) : evSpec K0 Tryd.f23 [by' d] K =
  (K
  [AV.agg
      [AV.imm (IV.bytes d), AV.imm (IV.int IntKind.i64 (0 : Int)), AV.imm (IV.int IntKind.i64 (0 : Int)),
        AV.imm (IV.int IntKind.i64 (0 : Int))]]) := by kernel_rfl
theorem f26_in (d : List
  UInt8) (p : Int) (e : Int) (a : Int) (K : List AV → Prop) : evSpec K0 Tryd.f26 [curAV d p e a] K =
  (brn (e != (0 : Int)) (K [AV.imm (IV.int IntKind.i64 (0 : Int))])
  (K [AV.imm (IV.int IntKind.i64 (IntKind.wrap IntKind.i64 ((↑(List.length d) : Int) - p)))])) := by kernel_rfl
theorem f27_in (d : List
  UInt8) (p : Int) (e : Int) (a : Int) (w : Int) (t : Int) (K : List AV →
  Prop) : evSpec K0 Tryd.f27 [curAV d p e a, i64 w, i64 t] K =
  (brn (e == (0 : Int) && w != (0 : Int))
  (K
    [AV.agg
        [AV.imm (IV.bytes d), AV.imm (IV.int IntKind.i64 p), AV.imm (IV.int IntKind.i64 w),
          AV.imm (IV.int IntKind.i64 t)]])
  (K
    [AV.agg
        [AV.imm (IV.bytes d), AV.imm (IV.int IntKind.i64 p), AV.imm (IV.int IntKind.i64 e),
          AV.imm (IV.int IntKind.i64 a)]])) := by kernel_rfl
theorem f35_in (d : List
  UInt8) (p : Int) (e : Int) (a : Int) (w : Int) (t : Int) (K : List AV →
  Prop) : evSpec K0 Tryd.f35 [curAV d p e a, i64 w, i64 t] K =
  (brn (e != (0 : Int) || w == (0 : Int))
  (K
    [AV.agg
        [AV.imm (IV.bytes d), AV.imm (IV.int IntKind.i64 p), AV.imm (IV.int IntKind.i64 e),
          AV.imm (IV.int IntKind.i64 a)]])
  (K
    [AV.agg
        [AV.imm (IV.bytes d), AV.imm (IV.int IntKind.i64 p), AV.imm (IV.int IntKind.i64 w),
          AV.imm (IV.int IntKind.i64 t)]])) := by kernel_rfl
theorem f11_in (w : Bool) (K : List AV → Prop) : evSpec K0 Tryd.f11 [bo w] K =
  (brn w (K [AV.imm (IV.int IntKind.i64 (8 : Int))]) (K [AV.imm (IV.int IntKind.i64 (4 : Int))])) := by kernel_rfl
theorem f9_in (d : List
  UInt8) (p : Int) (e : Int) (a : Int) (K : List AV → Prop) : evSpec K0 Tryd.f9 [curAV d p e a] K =
  (K
  [AV.imm
      (IV.bool
        (decide (p ≥ (0 : Int)) && decide (p ≤ (↑(List.length d) : Int)) && (e != (0 : Int) || a == (0 : Int)) &&
          decide ((↑(List.length d) : Int) ≤ (2000 : Int))))]) := by kernel_rfl
theorem f10_in (T : List
  Int) (I : List
  UInt8) (X : List
  (List
    IV)) (C : List
  UInt8) (L : List
  (List IV)) (S : List Bool) (U : List Bool) (K : List AV → Prop) : evSpec K0 Tryd.f10 [blkAV T I X C L S U] K =
  (K
  [AV.imm
      (IV.bool
        (decide ((↑(List.length T) : Int) ≤ (200 : Int)) && decide ((↑(List.length I) : Int) ≤ (200 : Int)) &&
                  decide ((↑(List.length X) : Int) ≤ (200 : Int)) &&
                decide ((↑(List.length C) : Int) ≤ (600 : Int)) &&
              decide ((↑(List.length L) : Int) ≤ (200 : Int)) &&
            decide ((↑(List.length S) : Int) ≤ (200 : Int)) &&
          decide ((↑(List.length U) : Int) ≤ (200 : Int))))]) := by kernel_rfl
theorem f16_in (T : List
  Int) (I : List
  UInt8) (X : List
  (List
    IV)) (C : List
  UInt8) (L : List
  (List
    IV)) (S : List
  Bool) (U : List Bool) (v : Int) (K : List AV → Prop) : evSpec K0 Tryd.f16 [blkAV T I X C L S U, i64 v] K =
  (K
  [AV.agg
      [AV.imm (IV.int IntKind.i64 v), AV.imm (IV.int IntKind.u32 (IntKind.wrap IntKind.u32 (↑(List.length U) : Int))),
        AV.imm (IV.int IntKind.u32 (IntKind.wrap IntKind.u32 (↑(List.length S) : Int))),
        AV.imm (IV.int IntKind.u32 (IntKind.wrap IntKind.u32 (↑(List.length L) : Int))),
        AV.imm (IV.int IntKind.u32 (IntKind.wrap IntKind.u32 (↑(List.length T) : Int))),
        AV.imm (IV.int IntKind.u32 (IntKind.wrap IntKind.u32 (↑(List.length X) : Int))),
        AV.imm (IV.int IntKind.u32 (IntKind.wrap IntKind.u32 (↑(List.length C) : Int)))]]) := by kernel_rfl
theorem f17_in (T : List
  Int) (I : List
  UInt8) (X : List
  (List
    IV)) (C : List
  UInt8) (L : List
  (List
    IV)) (S : List
  Bool) (U : List Bool) (v : Int) (K : List AV → Prop) : evSpec K0 Tryd.f17 [blkAV T I X C L S U, i64 v] K =
  (K
  [AV.agg
      [AV.imm (IV.int IntKind.i64 v), AV.imm (IV.int IntKind.u32 (IntKind.wrap IntKind.u32 (↑(List.length U) : Int))),
        AV.imm (IV.int IntKind.u32 (IntKind.wrap IntKind.u32 (↑(List.length S) : Int))),
        AV.imm (IV.int IntKind.u32 (IntKind.wrap IntKind.u32 (↑(List.length L) : Int))),
        AV.imm (IV.int IntKind.u32 (IntKind.wrap IntKind.u32 (↑(List.length T) : Int))),
        AV.imm (IV.int IntKind.u32 (IntKind.wrap IntKind.u32 (↑(List.length X) : Int))),
        AV.imm (IV.int IntKind.u32 (IntKind.wrap IntKind.u32 (↑(List.length C) : Int)))]]) := by kernel_rfl
theorem f83_in (a : Int) (b : Int) (K : List AV → Prop) : evSpec K0 Tryd.f83 [u6 a, u6 b] K = ((0 : Int) ≤ 32 ∧ (0 : Int) ≤ 32 ∧ (0 : Int) ≤ 32 ∧ (0 : Int) ≤ 32 ∧ (0 : Int) ≤ 32 ∧ K [.imm (.int IntKind.u64 (IntKind.wrap IntKind.u64 (IntKind.wrap IntKind.u64 (IntKind.wrap IntKind.u64 (shrV IntKind.u64 a (32 : Int) * shrV IntKind.u64 b (32 : Int)) + shrV IntKind.u64 (IntKind.wrap IntKind.u64 (IntKind.wrap IntKind.u64 (shrV IntKind.u64 a (32 : Int) * bitsV BinOp.and IntKind.u64 b (4294967295 : Int)) + shrV IntKind.u64 (IntKind.wrap IntKind.u64 (bitsV BinOp.and IntKind.u64 a (4294967295 : Int) * bitsV BinOp.and IntKind.u64 b (4294967295 : Int))) (32 : Int))) (32 : Int)) + shrV IntKind.u64 (IntKind.wrap IntKind.u64 (bitsV BinOp.and IntKind.u64 (IntKind.wrap IntKind.u64 (IntKind.wrap IntKind.u64 (shrV IntKind.u64 a (32 : Int) * bitsV BinOp.and IntKind.u64 b (4294967295 : Int)) + shrV IntKind.u64 (IntKind.wrap IntKind.u64 (bitsV BinOp.and IntKind.u64 a (4294967295 : Int) * bitsV BinOp.and IntKind.u64 b (4294967295 : Int))) (32 : Int))) (4294967295 : Int) + IntKind.wrap IntKind.u64 (bitsV BinOp.and IntKind.u64 a (4294967295 : Int) * shrV IntKind.u64 b (32 : Int)))) (32 : Int)))), .imm (.int
 IntKind.u64 (IntKind.wrap IntKind.u64 (a * b)))]) := by kernel_rfl
theorem f36_in (v : Int) (iu : Int) (is : Int) (l : Int) (t : Int) (ty : Int) (c : Int) (s : Int) (K : List AV →
  Prop) : evSpec K0 Tryd.f36 [hdAV v iu is l t ty c, i64 s] K =
  (K
  [AV.agg
      [AV.imm (IV.int IntKind.u64 (IntKind.wrap IntKind.u64 (IntKind.wrap IntKind.u64 t * IntKind.wrap IntKind.u64 s))),
        AV.imm (IV.int IntKind.u64 (IntKind.wrap IntKind.u64 t)),
        AV.imm (IV.int IntKind.u64 (IntKind.wrap IntKind.u64 ((6 : Int) * IntKind.wrap IntKind.u64 ty))),
        AV.imm (IV.int IntKind.u64 (IntKind.wrap IntKind.u64 c)),
        AV.imm
          (IV.int IntKind.u64
            (IntKind.wrap IntKind.u64
              (IntKind.wrap IntKind.u64 l * IntKind.wrap IntKind.u64 (IntKind.wrap IntKind.u64 s + (4 : Int))))),
        AV.imm (IV.int IntKind.u64 (IntKind.wrap IntKind.u64 is)),
        AV.imm (IV.int IntKind.u64 (IntKind.wrap IntKind.u64 iu))]]) := by kernel_rfl
theorem f74_in (a : Int) (b : Int) (m : Int) (K : List AV → Prop) : evSpec K1 Tryd.f74 [u6 a, u6 b, u6 m] K =
  ((0 : Int) ≤ a ∧
  a ≤ (4294967295 : Int) ∧
    (0 : Int) ≤ b ∧
      b ≤ (4294967295 : Int) ∧
        brn ((0 : Int) != (0 : Int) || decide (a * b > m))
          (K [AV.imm (IV.int IntKind.u64 (0 : Int)), AV.imm (IV.bool false)])
          (K [AV.imm (IV.int IntKind.u64 (a * b)), AV.imm (IV.bool true)])) := by kernel_rfl
theorem f64_in (d : List UInt8) (p : Int) (e : Int) (a : Int) (n : Int) (K : List AV → Prop) : evSpec K1 Tryd.f64 [curAV d p e a, i64 n] K = (brn (e != 0) (K [.agg [.imm (.bytes d), .imm (.int .i64 p), .imm (.int .i64 e), .imm (.int .i64 a)], .imm (.bool false)]) ((decide (n < 0) = false → okU (Cu.mk d p e a)) ∧ brn (decide (n < 0) || decide (n > restU (Cu.mk d p e a))) (K [.agg [.imm (.bytes (Cu.d (failU (Cu.mk d p e a) (1 : Int) (d.length : Int)))), .imm (.int .i64 (Cu.p (failU (Cu.mk d p e a) (1 : Int) (d.length : Int)))), .imm (.int .i64 (Cu.e (failU (Cu.mk d p e a) (1 : Int) (d.length : Int)))), .imm (.int .i64 (Cu.a (failU (Cu.mk d p e a) (1 : Int) (d.length : Int))))], .imm (.bool false)]) (K [.agg [.imm (.bytes d), .imm (.int .i64 (IntKind.wrap .i64 (p + n))), .imm (.int .i64 e), .imm (.int .i64 a)], .imm (.bool true)]))) := by kernel_rfl
theorem f14_in (T : List Int) (I : List UInt8) (X : List (List IV)) (C : List UInt8) (L : List (List IV)) (S : List Bool) (U : List Bool) (T' : List Int) (I' : List UInt8) (X' : List (List IV)) (C' : List UInt8) (L' : List (List IV)) (S' : List Bool) (U' : List Bool) (K : List AV → Prop) : evSpec K1 Tryd.f14 [blkAV T I X C L S U, blkAV T' I' X' C' L' S' U'] K = ((↑(List.length T) : Int) ≤ big' ∧ (↑(List.length T') : Int) ≤ big' ∧ (decide (T = T') = true → (↑(List.length I) : Int) ≤ big) ∧ (decide (T = T') = true → (↑(List.length I') : Int) ≤ big) ∧ ((decide (T = T') && decide (I = I')) = true → okT X) ∧ ((decide (T = T') && decide (I = I')) = true → okT X') ∧ ((decide (T = T') && decide (I = I')) = true → (↑(List.length X) : Int) ≤ big) ∧ ((decide (T = T') && decide (I = I')) = true → (↑(List.length X') : Int) ≤ big) ∧ ((decide (T = T') && decide (I = I') && decide (tys X = tys X')) = true → (↑(List.length C) : Int) ≤ big) ∧ ((decide (T = T') && decide (I = I') && decide (tys X = tys X')) = true → (↑(List.length C') : Int) ≤ big) ∧ ((decide (T = T') && decide (I = I') && decide (tys X = tys X') && decide (C = C')) = true → okL L) ∧ ((decide (T = T') && decide (I = I') && decide (tys
 X = tys X') && decide (C = C')) = true → okL L') ∧ ((decide (T = T') && decide (I = I') && decide (tys X = tys X') && decide (C = C')) = true → (↑(List.length L) : Int) ≤ big') ∧ ((decide (T = T') && decide (I = I') && decide (tys X = tys X') && decide (C = C')) = true → (↑(List.length L') : Int) ≤ big') ∧ ((decide (T = T') && decide (I = I') && decide (tys X = tys X') && decide (C = C') && decide (lps L = lps L')) = true → (↑(List.length S) : Int) ≤ big') ∧ ((decide (T = T') && decide (I = I') && decide (tys X = tys X') && decide (C = C') && decide (lps L = lps L')) = true → (↑(List.length S') : Int) ≤ big') ∧ ((decide (T = T') && decide (I = I') && decide (tys X = tys X') && decide (C = C') && decide (lps L = lps L') && decide (S = S')) = true → (↑(List.length U) : Int) ≤ big') ∧ ((decide (T = T') && decide (I = I') && decide (tys X = tys X') && decide (C = C') && decide (lps L = lps L') && decide (S = S')) = true → (↑(List.length U') : Int) ≤ big') ∧ K [.imm (.bool (decide (T = T') && decide (I = I') && decide (tys X = tys X') && decide (C = C') && decide (lps L = lps L') && decide (S = S') && decide (U = U')))]) := by kernel_rfl
theorem f18_in (T : List Int) (I : List UInt8) (X : List (List IV)) (C : List UInt8) (L : List (List IV)) (S : List Bool) (U : List Bool) (T' : List Int) (I' : List UInt8) (X' : List (List IV)) (C' : List UInt8) (L' : List (List IV)) (S' : List Bool) (U' : List Bool) (K : List AV → Prop) : evSpec K1 Tryd.f18 [blkAV T I X C L S U, blkAV T' I' X' C' L' S' U'] K = ((↑(List.length T) : Int) ≤ big' ∧ (↑(List.length T') : Int) ≤ big' ∧ (decide (T = T') = true → (↑(List.length I) : Int) ≤ big) ∧ (decide (T = T') = true → (↑(List.length I') : Int) ≤ big) ∧ ((decide (T = T') && decide (I = I')) = true → okT X) ∧ ((decide (T = T') && decide (I = I')) = true → okT X') ∧ ((decide (T = T') && decide (I = I')) = true → (↑(List.length X) : Int) ≤ big) ∧ ((decide (T = T') && decide (I = I')) = true → (↑(List.length X') : Int) ≤ big) ∧ ((decide (T = T') && decide (I = I') && decide (tys X = tys X')) = true → (↑(List.length C) : Int) ≤ big) ∧ ((decide (T = T') && decide (I = I') && decide (tys X = tys X')) = true → (↑(List.length C') : Int) ≤ big) ∧ ((decide (T = T') && decide (I = I') && decide (tys X = tys X') && decide (C = C')) = true → okL L) ∧ ((decide (T = T') && decide (I = I') && decide (tys
 X = tys X') && decide (C = C')) = true → okL L') ∧ ((decide (T = T') && decide (I = I') && decide (tys X = tys X') && decide (C = C')) = true → (↑(List.length L) : Int) ≤ big') ∧ ((decide (T = T') && decide (I = I') && decide (tys X = tys X') && decide (C = C')) = true → (↑(List.length L') : Int) ≤ big') ∧ ((decide (T = T') && decide (I = I') && decide (tys X = tys X') && decide (C = C') && decide (lps L = lps L')) = true → (↑(List.length S) : Int) ≤ big') ∧ ((decide (T = T') && decide (I = I') && decide (tys X = tys X') && decide (C = C') && decide (lps L = lps L')) = true → (↑(List.length S') : Int) ≤ big') ∧ ((decide (T = T') && decide (I = I') && decide (tys X = tys X') && decide (C = C') && decide (lps L = lps L') && decide (S = S')) = true → (↑(List.length U) : Int) ≤ big') ∧ ((decide (T = T') && decide (I = I') && decide (tys X = tys X') && decide (C = C') && decide (lps L = lps L') && decide (S = S')) = true → (↑(List.length U') : Int) ≤ big') ∧ K [.imm (.bool (decide (T = T') && decide (I = I') && decide (tys X = tys X') && decide (C = C') && decide (lps L = lps L') && decide (S = S') && decide (U = U')))]) := by kernel_rfl
theorem f42_in (a : List
  Int) (b : List
  Int) (K : List AV → Prop) : evSpec K0 Tryd.f42 [AV.imm (IV.ints IntKind.i64 a), AV.imm (IV.ints IntKind.i64 b)] K =
  (brn ((↑(List.length a) : Int) != (↑(List.length b) : Int)) (K [AV.imm (IV.bool false)])
  (LoopI K0 (bodyOf Tryd.f42) (0 : Nat)
    (St.mk
      [AV.imm (IV.ints IntKind.i64 a), AV.imm (IV.ints IntKind.i64 b), AV.dead, AV.dead, AV.imm (IV.bool false),
        AV.imm (IV.int IntKind.i64 (0 : Int)), AV.imm (IV.ints IntKind.i64 a),
        AV.imm (IV.int IntKind.i64 (↑(List.length a) : Int)), AV.imm (IV.ints IntKind.i64 b),
        AV.imm (IV.int IntKind.i64 (↑(List.length b) : Int)),
        AV.imm (IV.bool ((↑(List.length a) : Int) != (↑(List.length b) : Int))), AV.dead, AV.dead, AV.dead, AV.dead,
        AV.dead, AV.dead, AV.dead, AV.dead, AV.dead, AV.dead, AV.dead, AV.dead, AV.dead, AV.dead, AV.dead]
      [] (0 : Nat) [])
    (finK K0 Tryd.f42 K))) := by kernel_rfl
theorem f46_in (a : List
  Int) (b : List
  Int) (K : List AV → Prop) : evSpec K0 Tryd.f46 [AV.imm (IV.ints IntKind.i64 a), AV.imm (IV.ints IntKind.i64 b)] K =
  (brn ((↑(List.length a) : Int) != (↑(List.length b) : Int)) (K [AV.imm (IV.bool false)])
  (LoopI K0 (bodyOf Tryd.f46) (0 : Nat)
    (St.mk
      [AV.imm (IV.ints IntKind.i64 a), AV.imm (IV.ints IntKind.i64 b), AV.dead, AV.dead, AV.imm (IV.bool false),
        AV.dead, AV.imm (IV.ints IntKind.i64 a), AV.imm (IV.int IntKind.i64 (↑(List.length a) : Int)),
        AV.imm (IV.ints IntKind.i64 b), AV.imm (IV.int IntKind.i64 (↑(List.length b) : Int)),
        AV.imm (IV.bool ((↑(List.length a) : Int) != (↑(List.length b) : Int))), AV.imm (IV.ints IntKind.i64 a),
        AV.imm (IV.int IntKind.i64 (↑(List.length a) : Int)), AV.imm (IV.int IntKind.i64 (0 : Int)), AV.dead, AV.dead,
        AV.dead, AV.dead, AV.dead, AV.dead, AV.dead, AV.dead, AV.dead, AV.dead, AV.dead, AV.dead]
      [] (0 : Nat) [])
    (finK K0 Tryd.f46 K))) := by kernel_rfl
theorem f47_in (a : List UInt8) (b : List UInt8) (K : List AV → Prop) : evSpec K0 Tryd.f47 [by' a, by' b] K =
  (brn ((↑(List.length a) : Int) != (↑(List.length b) : Int)) (K [AV.imm (IV.bool false)])
  (LoopI K0 (bodyOf Tryd.f47) (0 : Nat)
    (St.mk
      [AV.imm (IV.bytes a), AV.imm (IV.bytes b), AV.dead, AV.dead, AV.imm (IV.bool false), AV.dead, AV.imm (IV.bytes a),
        AV.imm (IV.int IntKind.i64 (↑(List.length a) : Int)), AV.imm (IV.bytes b),
        AV.imm (IV.int IntKind.i64 (↑(List.length b) : Int)),
        AV.imm (IV.bool ((↑(List.length a) : Int) != (↑(List.length b) : Int))), AV.imm (IV.bytes a),
        AV.imm (IV.int IntKind.i64 (↑(List.length a) : Int)), AV.imm (IV.int IntKind.i64 (0 : Int)), AV.dead, AV.dead,
        AV.dead, AV.dead, AV.dead, AV.dead, AV.dead, AV.dead, AV.dead, AV.dead, AV.dead, AV.dead]
      [] (0 : Nat) [])
    (finK K0 Tryd.f47 K))) := by kernel_rfl
theorem f48_in (a : List (List IV)) (b : List (List IV)) (K : List AV → Prop) : evSpec K0 Tryd.f48 [tl' a, tl' b] K =
  (brn ((↑(List.length a) : Int) != (↑(List.length b) : Int)) (K [AV.imm (IV.bool false)])
  (LoopI K0 (bodyOf Tryd.f48) (0 : Nat)
    (St.mk
      [AV.imm (IV.sl (3 : Nat) a), AV.imm (IV.sl (3 : Nat) b), AV.dead, AV.dead, AV.imm (IV.bool false), AV.dead,
        AV.imm (IV.sl (3 : Nat) a), AV.imm (IV.int IntKind.i64 (↑(List.length a) : Int)), AV.imm (IV.sl (3 : Nat) b),
        AV.imm (IV.int IntKind.i64 (↑(List.length b) : Int)),
        AV.imm (IV.bool ((↑(List.length a) : Int) != (↑(List.length b) : Int))), AV.imm (IV.sl (3 : Nat) a),
        AV.imm (IV.int IntKind.i64 (↑(List.length a) : Int)), AV.imm (IV.int IntKind.i64 (0 : Int)), AV.dead, AV.dead,
        AV.dead, AV.dead, AV.dead, AV.dead, AV.dead, AV.dead, AV.dead, AV.dead, AV.dead, AV.dead]
      [] (0 : Nat) [])
    (finK K0 Tryd.f48 K))) := by kernel_rfl
theorem f44_in (a : List
  (List
    IV)) (b : List
  (List IV)) (K : List AV → Prop) : evSpec K0 Tryd.f44 [AV.imm (IV.sl (2 : Nat) a), AV.imm (IV.sl (2 : Nat) b)] K =
  (brn ((↑(List.length a) : Int) != (↑(List.length b) : Int)) (K [AV.imm (IV.bool false)])
  (LoopI K0 (bodyOf Tryd.f44) (0 : Nat)
    (St.mk
      [AV.imm (IV.sl (2 : Nat) a), AV.imm (IV.sl (2 : Nat) b), AV.dead, AV.dead, AV.imm (IV.bool false),
        AV.imm (IV.int IntKind.i64 (0 : Int)), AV.imm (IV.sl (2 : Nat) a),
        AV.imm (IV.int IntKind.i64 (↑(List.length a) : Int)), AV.imm (IV.sl (2 : Nat) b),
        AV.imm (IV.int IntKind.i64 (↑(List.length b) : Int)),
        AV.imm (IV.bool ((↑(List.length a) : Int) != (↑(List.length b) : Int))), AV.dead, AV.dead, AV.dead, AV.dead,
        AV.dead, AV.dead, AV.dead, AV.dead, AV.dead, AV.dead, AV.dead, AV.dead, AV.dead, AV.dead, AV.dead]
      [] (0 : Nat) [])
    (finK K0 Tryd.f44 K))) := by kernel_rfl
theorem f49_in (a : List
  (List
    IV)) (b : List
  (List IV)) (K : List AV → Prop) : evSpec K0 Tryd.f49 [AV.imm (IV.sl (2 : Nat) a), AV.imm (IV.sl (2 : Nat) b)] K =
  (brn ((↑(List.length a) : Int) != (↑(List.length b) : Int)) (K [AV.imm (IV.bool false)])
  (LoopI K0 (bodyOf Tryd.f49) (0 : Nat)
    (St.mk
      [AV.imm (IV.sl (2 : Nat) a), AV.imm (IV.sl (2 : Nat) b), AV.dead, AV.dead, AV.imm (IV.bool false), AV.dead,
        AV.imm (IV.sl (2 : Nat) a), AV.imm (IV.int IntKind.i64 (↑(List.length a) : Int)), AV.imm (IV.sl (2 : Nat) b),
        AV.imm (IV.int IntKind.i64 (↑(List.length b) : Int)),
        AV.imm (IV.bool ((↑(List.length a) : Int) != (↑(List.length b) : Int))), AV.imm (IV.sl (2 : Nat) a),
        AV.imm (IV.int IntKind.i64 (↑(List.length a) : Int)), AV.imm (IV.int IntKind.i64 (0 : Int)), AV.dead, AV.dead,
        AV.dead, AV.dead, AV.dead, AV.dead, AV.dead, AV.dead, AV.dead, AV.dead, AV.dead, AV.dead]
      [] (0 : Nat) [])
    (finK K0 Tryd.f49 K))) := by kernel_rfl
theorem f45_in (a : List
  Bool) (b : List Bool) (K : List AV → Prop) : evSpec K0 Tryd.f45 [AV.imm (IV.bools a), AV.imm (IV.bools b)] K =
  (brn ((↑(List.length a) : Int) != (↑(List.length b) : Int)) (K [AV.imm (IV.bool false)])
  (LoopI K0 (bodyOf Tryd.f45) (0 : Nat)
    (St.mk
      [AV.imm (IV.bools a), AV.imm (IV.bools b), AV.dead, AV.dead, AV.imm (IV.bool false),
        AV.imm (IV.int IntKind.i64 (0 : Int)), AV.imm (IV.bools a),
        AV.imm (IV.int IntKind.i64 (↑(List.length a) : Int)), AV.imm (IV.bools b),
        AV.imm (IV.int IntKind.i64 (↑(List.length b) : Int)),
        AV.imm (IV.bool ((↑(List.length a) : Int) != (↑(List.length b) : Int))), AV.dead, AV.dead, AV.dead, AV.dead,
        AV.dead, AV.dead, AV.dead, AV.dead, AV.dead, AV.dead, AV.dead, AV.dead, AV.dead, AV.dead, AV.dead]
      [] (0 : Nat) [])
    (finK K0 Tryd.f45 K))) := by kernel_rfl
theorem f50_in (a : List
  Bool) (b : List Bool) (K : List AV → Prop) : evSpec K0 Tryd.f50 [AV.imm (IV.bools a), AV.imm (IV.bools b)] K =
  (brn ((↑(List.length a) : Int) != (↑(List.length b) : Int)) (K [AV.imm (IV.bool false)])
  (LoopI K0 (bodyOf Tryd.f50) (0 : Nat)
    (St.mk
      [AV.imm (IV.bools a), AV.imm (IV.bools b), AV.dead, AV.dead, AV.imm (IV.bool false), AV.dead, AV.imm (IV.bools a),
        AV.imm (IV.int IntKind.i64 (↑(List.length a) : Int)), AV.imm (IV.bools b),
        AV.imm (IV.int IntKind.i64 (↑(List.length b) : Int)),
        AV.imm (IV.bool ((↑(List.length a) : Int) != (↑(List.length b) : Int))), AV.imm (IV.bools a),
        AV.imm (IV.int IntKind.i64 (↑(List.length a) : Int)), AV.imm (IV.int IntKind.i64 (0 : Int)), AV.dead, AV.dead,
        AV.dead, AV.dead, AV.dead, AV.dead, AV.dead, AV.dead, AV.dead, AV.dead, AV.dead, AV.dead]
      [] (0 : Nat) [])
    (finK K0 Tryd.f50 K))) := by kernel_rfl
theorem f33_in (b : List UInt8) (s : Int) (K : List AV → Prop) : evSpec K0 Tryd.f33 [by' b, i64 s] K =
  (LoopI K0 (bodyOf Tryd.f33) (0 : Nat)
  (St.mk
    [AV.imm (IV.bytes b), AV.imm (IV.int IntKind.i64 s), AV.dead, AV.dead, AV.full (IV.ints IntKind.i64 []),
      AV.full (IV.ints IntKind.i64 []), AV.imm (IV.int IntKind.i64 (0 : Int)), AV.dead, AV.dead, AV.dead, AV.dead,
      AV.dead, AV.dead, AV.dead, AV.dead, AV.dead, AV.dead, AV.dead, AV.dead, AV.dead, AV.dead, AV.dead, AV.dead,
      AV.dead, AV.dead, AV.dead, AV.dead, AV.dead, AV.dead, AV.dead]
    [] (0 : Nat) [])
  (finK K0 Tryd.f33 K)) := by kernel_rfl
theorem f38_in (b : List UInt8) (s : Int) (K : List AV → Prop) : evSpec K0 Tryd.f38 [by' b, i64 s] K =
  (LoopI K0 (bodyOf Tryd.f38) (0 : Nat)
  (St.mk
    [AV.imm (IV.bytes b), AV.imm (IV.int IntKind.i64 s), AV.dead, AV.dead, AV.full (IV.ints IntKind.i64 []),
      AV.full (IV.ints IntKind.i64 []), AV.imm (IV.int IntKind.i64 (0 : Int)), AV.dead, AV.dead, AV.dead, AV.dead,
      AV.dead, AV.dead, AV.dead, AV.dead, AV.dead, AV.dead, AV.dead, AV.dead, AV.dead, AV.dead, AV.dead, AV.dead,
      AV.dead, AV.dead, AV.dead, AV.dead, AV.dead, AV.dead, AV.dead, AV.dead, AV.dead, AV.dead, AV.dead, AV.dead,
      AV.dead]
    [] (0 : Nat) [])
  (finK K0 Tryd.f38 K)) := by kernel_rfl
theorem f34_in (b : List UInt8) (s : Int) (K : List AV → Prop) : evSpec K0 Tryd.f34 [by' b, i64 s] K =
  (LoopI K0 (bodyOf Tryd.f34) (0 : Nat)
  (St.mk
    [AV.imm (IV.bytes b), AV.imm (IV.int IntKind.i64 s), AV.dead, AV.dead, AV.full (IV.sl (2 : Nat) []),
      AV.full (IV.sl (2 : Nat) []), AV.imm (IV.int IntKind.i64 (0 : Int)), AV.dead, AV.dead, AV.dead, AV.dead, AV.dead,
      AV.dead, AV.dead, AV.dead, AV.dead, AV.dead, AV.dead, AV.dead, AV.dead, AV.dead, AV.dead, AV.dead, AV.dead,
      AV.dead, AV.dead, AV.dead, AV.dead, AV.dead, AV.dead, AV.dead, AV.dead, AV.dead, AV.dead, AV.dead, AV.dead,
      AV.dead, AV.dead, AV.dead, AV.dead, AV.dead, AV.dead, AV.dead, AV.dead, AV.dead]
    [] (0 : Nat) [])
  (finK K0 Tryd.f34 K)) := by kernel_rfl
theorem f40_in (b : List UInt8) (s : Int) (K : List AV → Prop) : evSpec K0 Tryd.f40 [by' b, i64 s] K =
  (LoopI K0 (bodyOf Tryd.f40) (0 : Nat)
  (St.mk
    [AV.imm (IV.bytes b), AV.imm (IV.int IntKind.i64 s), AV.dead, AV.dead, AV.full (IV.sl (2 : Nat) []),
      AV.full (IV.sl (2 : Nat) []), AV.imm (IV.int IntKind.i64 (IntKind.wrap IntKind.i64 (s + (4 : Int)))),
      AV.imm (IV.int IntKind.i64 (0 : Int)), AV.dead, AV.dead, AV.dead, AV.dead, AV.imm (IV.int IntKind.i64 s),
      AV.imm (IV.int IntKind.i64 (IntKind.wrap IntKind.i64 (s + (4 : Int)))), AV.dead, AV.dead, AV.dead, AV.dead,
      AV.dead, AV.dead, AV.dead, AV.dead, AV.dead, AV.dead, AV.dead, AV.dead, AV.dead, AV.dead, AV.dead, AV.dead,
      AV.dead, AV.dead, AV.dead, AV.dead, AV.dead, AV.dead, AV.dead, AV.dead, AV.dead, AV.dead, AV.dead, AV.dead,
      AV.dead, AV.dead, AV.dead, AV.dead, AV.dead, AV.dead, AV.dead]
    [] (0 : Nat) [])
  (finK K0 Tryd.f40 K)) := by kernel_rfl
theorem f32_in (b : List UInt8) (K : List AV → Prop) : evSpec K0 Tryd.f32 [by' b] K =
  (LoopI K0 (bodyOf Tryd.f32) (0 : Nat)
  (St.mk
    [AV.imm (IV.bytes b), AV.dead, AV.full (IV.bools []), AV.imm (IV.bool false), AV.full (IV.bools []), AV.dead,
      AV.dead, AV.imm (IV.bytes b), AV.imm (IV.int IntKind.i64 (↑(List.length b) : Int)),
      AV.imm (IV.int IntKind.i64 (0 : Int)), AV.dead, AV.dead, AV.dead, AV.dead, AV.dead, AV.dead, AV.dead, AV.dead,
      AV.dead, AV.dead, AV.dead, AV.dead, AV.dead, AV.dead]
    [] (0 : Nat) [])
  (finK K0 Tryd.f32 K)) := by kernel_rfl
theorem f41_in (b : List UInt8) (K : List AV → Prop) : evSpec K0 Tryd.f41 [by' b] K =
  (LoopI K0 (bodyOf Tryd.f41) (0 : Nat)
  (St.mk
    [AV.imm (IV.bytes b), AV.dead, AV.full (IV.bools []), AV.imm (IV.bool false), AV.full (IV.bools []),
      AV.imm (IV.int IntKind.i64 (0 : Int)), AV.dead, AV.dead, AV.dead, AV.dead, AV.dead, AV.dead, AV.dead, AV.dead,
      AV.dead, AV.dead, AV.dead, AV.dead, AV.dead, AV.dead, AV.dead, AV.dead, AV.dead, AV.dead, AV.dead, AV.dead]
    [] (0 : Nat) [])
  (finK K0 Tryd.f41 K)) := by kernel_rfl
theorem f54_in (T : List
  Int) (s : Int) (K : List AV → Prop) : evSpec K0 Tryd.f54 [AV.imm (IV.ints IntKind.i64 T), i64 s] K =
  ((0 : Int) ≤ (0 : Int) ∧
  (0 : Int) ≤ IntKind.wrap IntKind.i64 ((↑(List.length T) : Int) * s) ∧
    (↑(1 : Nat) : Int) * IntKind.wrap IntKind.i64 ((↑(List.length T) : Int) * s) ≤ (140737488355328 : Int) ∧
      IntKind.wrap IntKind.i64 ((↑(List.length T) : Int) * s) ≤ (140737488355328 : Int) ∧
        LoopI K0 (bodyOf Tryd.f54) (0 : Nat)
          (St.mk
            [AV.imm (IV.ints IntKind.i64 T), AV.imm (IV.int IntKind.i64 s), AV.dead, AV.dead, AV.full (IV.bytes []),
              AV.row (0 : Nat) (0 : Nat), AV.dead, AV.dead, AV.imm (IV.ints IntKind.i64 T),
              AV.imm (IV.int IntKind.i64 (↑(List.length T) : Int)), AV.imm (IV.int IntKind.i64 s),
              AV.imm (IV.int IntKind.i64 (IntKind.wrap IntKind.i64 ((↑(List.length T) : Int) * s))),
              AV.row (0 : Nat) (0 : Nat), AV.imm (IV.ints IntKind.i64 T),
              AV.imm (IV.int IntKind.i64 (↑(List.length T) : Int)), AV.imm (IV.int IntKind.i64 (0 : Int)), AV.dead,
              AV.dead, AV.dead, AV.dead, AV.dead, AV.dead, AV.dead, AV.dead, AV.dead, AV.dead, AV.dead]
            [((0 : Nat), Ob.mk true (0 : Nat) (AObj.row (IV.bytes (List.replicate (Int.toNat (0 : Int)) (0 : UInt8)))))]
            (1 : Nat) [])
          (finK K0 Tryd.f54 K)) := by kernel_rfl
theorem f58_in (T : List
  Int) (s : Int) (K : List AV → Prop) : evSpec K0 Tryd.f58 [AV.imm (IV.ints IntKind.i64 T), i64 s] K =
  (LoopI K0 (bodyOf Tryd.f58) (0 : Nat)
  (St.mk
    [AV.imm (IV.ints IntKind.i64 T), AV.imm (IV.int IntKind.i64 s), AV.dead, AV.dead, AV.full (IV.bytes []),
      AV.full (IV.bytes []), AV.imm (IV.int IntKind.i64 (0 : Int)), AV.dead, AV.dead, AV.dead, AV.dead, AV.dead,
      AV.dead, AV.dead, AV.dead, AV.dead, AV.dead, AV.dead, AV.dead, AV.dead, AV.dead, AV.dead]
    [] (0 : Nat) [])
  (finK K0 Tryd.f58 K)) := by kernel_rfl
theorem f56_in (xs : List
  (List IV)) (s : Int) (K : List AV → Prop) : evSpec K0 Tryd.f56 [AV.imm (IV.sl (2 : Nat) xs), i64 s] K =
  (LoopI K0 (bodyOf Tryd.f56) (0 : Nat)
  (St.mk
    [AV.imm (IV.sl (2 : Nat) xs), AV.imm (IV.int IntKind.i64 s), AV.dead, AV.dead, AV.full (IV.bytes []),
      AV.full (IV.bytes []), AV.dead, AV.dead, AV.imm (IV.sl (2 : Nat) xs),
      AV.imm (IV.int IntKind.i64 (↑(List.length xs) : Int)), AV.imm (IV.int IntKind.i64 (0 : Int)), AV.dead, AV.dead,
      AV.dead, AV.dead, AV.dead, AV.dead, AV.dead, AV.dead, AV.dead, AV.dead, AV.dead, AV.dead, AV.dead, AV.dead,
      AV.dead, AV.dead, AV.dead]
    [] (0 : Nat) [])
  (finK K0 Tryd.f56 K)) := by kernel_rfl
theorem f60_in (xs : List
  (List IV)) (s : Int) (K : List AV → Prop) : evSpec K0 Tryd.f60 [AV.imm (IV.sl (2 : Nat) xs), i64 s] K =
  (LoopI K0 (bodyOf Tryd.f60) (0 : Nat)
  (St.mk
    [AV.imm (IV.sl (2 : Nat) xs), AV.imm (IV.int IntKind.i64 s), AV.dead, AV.dead, AV.full (IV.bytes []),
      AV.full (IV.bytes []), AV.imm (IV.int IntKind.i64 (0 : Int)), AV.dead, AV.dead, AV.dead, AV.dead, AV.dead,
      AV.dead, AV.dead, AV.dead, AV.dead, AV.dead, AV.dead, AV.dead, AV.dead, AV.dead, AV.dead, AV.dead, AV.dead,
      AV.dead, AV.dead, AV.dead, AV.dead, AV.dead, AV.dead, AV.dead, AV.dead]
    [] (0 : Nat) [])
  (finK K0 Tryd.f60 K)) := by kernel_rfl
theorem f57_in (l : List Bool) (K : List AV → Prop) : evSpec K0 Tryd.f57 [AV.imm (IV.bools l)] K =
  ((0 : Int) ≤ (↑(List.length l) : Int) ∧
  (↑(List.length l) : Int) ≤ (↑(List.length l) : Int) ∧
    (↑(1 : Nat) : Int) * (↑(List.length l) : Int) ≤ (140737488355328 : Int) ∧
      (↑(List.length l) : Int) ≤ (140737488355328 : Int) ∧
        LoopI K0 (bodyOf Tryd.f57) (0 : Nat)
          (St.mk
            [AV.imm (IV.bools l), AV.dead, AV.full (IV.bytes []), AV.row (0 : Nat) (0 : Nat), AV.dead, AV.dead,
              AV.imm (IV.bools l), AV.imm (IV.int IntKind.i64 (↑(List.length l) : Int)), AV.row (0 : Nat) (0 : Nat),
              AV.imm (IV.bools l), AV.imm (IV.int IntKind.i64 (↑(List.length l) : Int)),
              AV.imm (IV.int IntKind.i64 (0 : Int)), AV.dead, AV.dead, AV.dead, AV.dead, AV.dead, AV.dead, AV.dead,
              AV.dead, AV.dead, AV.dead]
            [((0 : Nat),
                Ob.mk true (0 : Nat)
                  (AObj.row (IV.bytes (List.replicate (Int.toNat (↑(List.length l) : Int)) (0 : UInt8)))))]
            (1 : Nat) [])
          (finK K0 Tryd.f57 K)) := by kernel_rfl
theorem f61_in (l : List Bool) (K : List AV → Prop) : evSpec K0 Tryd.f61 [AV.imm (IV.bools l)] K =
  (LoopI K0 (bodyOf Tryd.f61) (0 : Nat)
  (St.mk
    [AV.imm (IV.bools l), AV.dead, AV.full (IV.bytes []), AV.full (IV.bytes []), AV.imm (IV.int IntKind.i64 (0 : Int)),
      AV.dead, AV.dead, AV.dead, AV.dead, AV.dead, AV.dead, AV.dead, AV.dead, AV.dead, AV.dead, AV.dead, AV.dead,
      AV.dead, AV.dead, AV.dead, AV.dead, AV.dead]
    [] (0 : Nat) [])
  (finK K0 Tryd.f61 K)) := by kernel_rfl
theorem f52_in (T : List
  Int) (n : Int) (K : List AV → Prop) : evSpec K1 Tryd.f52 [AV.imm (IV.ints IntKind.i64 T), i64 n] K =
  (LoopI K1 (bodyOf Tryd.f52) (0 : Nat)
  (St.mk
    [AV.imm (IV.ints IntKind.i64 T), AV.imm (IV.int IntKind.i64 n), AV.dead, AV.dead, AV.imm (IV.bool false),
      AV.imm (IV.int IntKind.i64 (0 : Int)), AV.dead, AV.dead, AV.dead, AV.dead, AV.dead, AV.dead, AV.dead, AV.dead,
      AV.dead, AV.dead, AV.dead, AV.dead, AV.dead]
    [] (0 : Nat) [])
  (finK K1 Tryd.f52 K)) := by kernel_rfl
theorem f37_in (d : List UInt8) (p : Int) (e : Int) (a : Int) (n : Int) (K : List AV → Prop) : evSpec K1 Tryd.f37 [curAV d p e a, i64 n] K = (brn (e != 0) (K [AV.new (IV.bytes []), .agg [.imm (.bytes d), .imm (.int .i64 p), .imm (.int .i64 e), .imm (.int .i64 a)]]) (brn (decide (n < 0) || decide (n > IntKind.wrap .i64 ((d.length : Int) - p))) (K [AV.new (IV.bytes []), .agg [.imm (.bytes (Cu.d (failU (Cu.mk d p e a) (1 : Int) (d.length : Int)))), .imm (.int .i64 (Cu.p (failU (Cu.mk d p e a) (1 : Int) (d.length : Int)))), .imm (.int .i64 (Cu.e (failU (Cu.mk d p e a) (1 : Int) (d.length : Int)))), .imm (.int .i64 (Cu.a (failU (Cu.mk d p e a) (1 : Int) (d.length : Int))))]]) (LoopI K1 (bodyOf Tryd.f37) (0 : Nat) (St.mk [.agg [.imm (.bytes d), .imm (.int .i64 p), .imm (.int .i64 e), .imm (.int .i64 a)], .imm (.int .i64 n), .ptr 0 0, .dead, .full (IV.bytes []), .ptr 1 0, .full (IV.bytes []), .imm (.int .i64 0), .ptr 0 2, .imm (.int .i64 e), .imm (.bool (e != 0)), .dead, .imm (.int .i64 n), .imm (.bool (decide (n < 0))), .imm (.bool (decide (n < 0))), .opt [((14 : Nat), false)] (.imm (.int .i64 n)), .opt [((14 : Nat), false)] (.ptr 0 0), .opt [((14 : Nat), false)] (.imm (.bytes d)), .opt
 [((14 : Nat), false)] (.imm (.int .i64 (d.length : Int))), .opt [((14 : Nat), false)] (.ptr 0 1), .opt [((14 : Nat), false)] (.imm (.int .i64 p)), .opt [((14 : Nat), false)] (.imm (.int .i64 (IntKind.wrap .i64 ((d.length : Int) - p)))), .opt [((14 : Nat), false)] (.imm (.bool (decide (n > IntKind.wrap .i64 ((d.length : Int) - p))))), .imm (.bool (decide (n < 0) || decide (n > IntKind.wrap .i64 ((d.length : Int) - p)))), .dead, .dead, .dead, .dead, .dead, .dead, .dead, .dead, .dead, .dead, .dead, .dead, .dead, .dead, .dead, .dead, .dead, .dead, .dead, .dead, .dead, .dead, .dead, .dead, .dead, .dead, .dead, .dead] [(0, Ob.mk true 0 (AObj.cells [.imm (.bytes d), .imm (.int .i64 p), .imm (.int .i64 e), .imm (.int .i64 a)])), (1, Ob.mk true 0 (AObj.cells [.imm (.val (Value.slice none (0 : Nat) (0 : Nat))), .imm (.int .i64 0), .imm (.int .i64 0), .imm (.int .i64 0)]))] (2 : Nat) []) (finK K1 Tryd.f37 K)))) := by kernel_rfl
theorem f24_in (v : Int) (iu : Int) (is : Int) (l : Int) (t : Int) (ty : Int) (c : Int) (s : Int) (K : List AV →
  Prop) : evSpec K1u Tryd.f24 [hdAV v iu is l t ty c, i64 s] K =
  (okH (Hd.mk v iu is l t ty c) ∧
  sz48 s ∧
    K
      [AV.imm
          (IV.int IntKind.u64
            (IntKind.wrap IntKind.u64
              (IntKind.wrap IntKind.u64
                  (IntKind.wrap IntKind.u64
                      (IntKind.wrap IntKind.u64
                          (IntKind.wrap IntKind.u64
                              (IntKind.wrap IntKind.u64
                                  (IntKind.wrap IntKind.u64 ((0 : Int) + l0 (Hd.mk v iu is l t ty c) s) +
                                    l1 (Hd.mk v iu is l t ty c)) +
                                l2 (Hd.mk v iu is l t ty c)) +
                            l3 (Hd.mk v iu is l t ty c)) +
                        l4 (Hd.mk v iu is l t ty c) s) +
                    l5 (Hd.mk v iu is l t ty c)) +
                l6 (Hd.mk v iu is l t ty c))))]) := by kernel_rfl
theorem f65_in (v : Int) (iu : Int) (is : Int) (l : Int) (t : Int) (ty : Int) (c : Int) (s : Int) (K : List AV →
  Prop) : evSpec K1u Tryd.f65 [hdAV v iu is l t ty c, i64 s] K =
  (K
  [AV.agg
      [AV.imm (IV.int IntKind.u64 (IntKind.wrap IntKind.u64 (IntKind.wrap IntKind.u64 t * IntKind.wrap IntKind.u64 s))),
        AV.imm (IV.int IntKind.u64 (IntKind.wrap IntKind.u64 (IntKind.wrap IntKind.u64 t * (1 : Int)))),
        AV.imm (IV.int IntKind.u64 (IntKind.wrap IntKind.u64 (IntKind.wrap IntKind.u64 ty * (6 : Int)))),
        AV.imm (IV.int IntKind.u64 (IntKind.wrap IntKind.u64 (IntKind.wrap IntKind.u64 c * (1 : Int)))),
        AV.imm
          (IV.int IntKind.u64
            (IntKind.wrap IntKind.u64
              (IntKind.wrap IntKind.u64 l * IntKind.wrap IntKind.u64 (IntKind.wrap IntKind.u64 s + (4 : Int))))),
        AV.imm (IV.int IntKind.u64 (IntKind.wrap IntKind.u64 (IntKind.wrap IntKind.u64 is * (1 : Int)))),
        AV.imm
          (IV.int IntKind.u64 (IntKind.wrap IntKind.u64 (IntKind.wrap IntKind.u64 iu * (1 : Int))))]]) := by kernel_rfl
theorem f25_in (v : Int) (iu : Int) (is : Int) (l : Int) (t : Int) (ty : Int) (c : Int) (s : Int) (m : Int) (K : List
    AV →
  Prop) : evSpec K2u Tryd.f25 [hdAV v iu is l t ty c, i64 s, u6 m] K =
  (let R1 : Prop := ((0 : Int) ≤ IntKind.wrap IntKind.u64 t ∧ IntKind.wrap IntKind.u64 t ≤ (4294967295 : Int) ∧ (0 : Int) ≤ (1 : Int) ∧ (1 : Int) ≤ (4294967295 : Int) ∧ (0 : Int) ≤ m ∧ m ≤ (18446744073709551615 : Int) ∧ (0 : Int) ≤ addU (0 : Int) (mulU (IntKind.wrap IntKind.u64 t) (IntKind.wrap IntKind.u64 s) m) m ∧ addU (0 : Int) (mulU (IntKind.wrap IntKind.u64 t) (IntKind.wrap IntKind.u64 s) m) m ≤ (18446744073709551615 : Int) ∧ (0 : Int) ≤ mulU (IntKind.wrap IntKind.u64 t) (1 : Int) m ∧ mulU (IntKind.wrap IntKind.u64 t) (1 : Int) m ≤ (18446744073709551615 : Int) ∧ (0 : Int) ≤ m ∧ m ≤ (18446744073709551615 : Int) ∧ brn (!decide (addU (0 : Int) (mulU (IntKind.wrap IntKind.u64 t) (IntKind.wrap IntKind.u64 s) m) m + mulU (IntKind.wrap IntKind.u64 t) (1 : Int) m ≤ m) || !decide (IntKind.wrap IntKind.u64 t * (1 : Int) ≤ m)) (K [AV.imm (IV.int IntKind.u64 (0 : Int)), AV.imm (IV.bool false)]) ((0 : Int) ≤ IntKind.wrap IntKind.u64 ty ∧ IntKind.wrap IntKind.u64 ty ≤ (4294967295 : Int) ∧ (0 :
 Int) ≤ (6 : Int) ∧ (6 : Int) ≤ (4294967295 : Int) ∧ (0 : Int) ≤ m ∧ m ≤ (18446744073709551615 : Int) ∧ (0 : Int) ≤ addU (addU (0 : Int) (mulU (IntKind.wrap IntKind.u64 t) (IntKind.wrap IntKind.u64 s) m) m) (mulU (IntKind.wrap IntKind.u64 t) (1 : Int) m) m ∧ addU (addU (0 : Int) (mulU (IntKind.wrap IntKind.u64 t) (IntKind.wrap IntKind.u64 s) m) m) (mulU (IntKind.wrap IntKind.u64 t) (1 : Int) m) m ≤ (18446744073709551615 : Int) ∧ (0 : Int) ≤ mulU (IntKind.wrap IntKind.u64 ty) (6 : Int) m ∧ mulU (IntKind.wrap IntKind.u64 ty) (6 : Int) m ≤ (18446744073709551615 : Int) ∧ (0 : Int) ≤ m ∧ m ≤ (18446744073709551615 : Int) ∧ brn (!decide (addU (addU (0 : Int) (mulU (IntKind.wrap IntKind.u64 t) (IntKind.wrap IntKind.u64 s) m) m) (mulU (IntKind.wrap IntKind.u64 t) (1 : Int) m) m + mulU (IntKind.wrap IntKind.u64 ty) (6 : Int) m ≤ m) || !decide (IntKind.wrap IntKind.u64 ty * (6 : Int) ≤ m)) (K [AV.imm (IV.int IntKind.u64 (0 : Int)), AV.imm (IV.bool false)]) ((0 : Int) ≤ IntKind.wrap IntKind.u64 c ∧
 IntKind.wrap IntKind.u64 c ≤ (4294967295 : Int) ∧ (0 : Int) ≤ (1 : Int) ∧ (1 : Int) ≤ (4294967295 : Int) ∧ (0 : Int) ≤ m ∧ m ≤ (18446744073709551615 : Int) ∧ (0 : Int) ≤ addU (addU (addU (0 : Int) (mulU (IntKind.wrap IntKind.u64 t) (IntKind.wrap IntKind.u64 s) m) m) (mulU (IntKind.wrap IntKind.u64 t) (1 : Int) m) m) (mulU (IntKind.wrap IntKind.u64 ty) (6 : Int) m) m ∧ addU (addU (addU (0 : Int) (mulU (IntKind.wrap IntKind.u64 t) (IntKind.wrap IntKind.u64 s) m) m) (mulU (IntKind.wrap IntKind.u64 t) (1 : Int) m) m) (mulU (IntKind.wrap IntKind.u64 ty) (6 : Int) m) m ≤ (18446744073709551615 : Int) ∧ (0 : Int) ≤ mulU (IntKind.wrap IntKind.u64 c) (1 : Int) m ∧ mulU (IntKind.wrap IntKind.u64 c) (1 : Int) m ≤ (18446744073709551615 : Int) ∧ (0 : Int) ≤ m ∧ m ≤ (18446744073709551615 : Int) ∧ brn (!decide (addU (addU (addU (0 : Int) (mulU (IntKind.wrap IntKind.u64 t) (IntKind.wrap IntKind.u64 s) m) m) (mulU (IntKind.wrap IntKind.u64 t) (1 : Int) m) m) (mulU (IntKind.wrap IntKind.u64 ty) (6 : Int)
 m) m + mulU (IntKind.wrap IntKind.u64 c) (1 : Int) m ≤ m) || !decide (IntKind.wrap IntKind.u64 c * (1 : Int) ≤ m)) (K [AV.imm (IV.int IntKind.u64 (0 : Int)), AV.imm (IV.bool false)]) ((0 : Int) ≤ IntKind.wrap IntKind.u64 l ∧ IntKind.wrap IntKind.u64 l ≤ (4294967295 : Int) ∧ (0 : Int) ≤ IntKind.wrap IntKind.u64 (IntKind.wrap IntKind.u64 s + (4 : Int)) ∧ IntKind.wrap IntKind.u64 (IntKind.wrap IntKind.u64 s + (4 : Int)) ≤ (4294967295 : Int) ∧ (0 : Int) ≤ m ∧ m ≤ (18446744073709551615 : Int) ∧ (0 : Int) ≤ addU (addU (addU (addU (0 : Int) (mulU (IntKind.wrap IntKind.u64 t) (IntKind.wrap IntKind.u64 s) m) m) (mulU (IntKind.wrap IntKind.u64 t) (1 : Int) m) m) (mulU (IntKind.wrap IntKind.u64 ty) (6 : Int) m) m) (mulU (IntKind.wrap IntKind.u64 c) (1 : Int) m) m ∧ addU (addU (addU (addU (0 : Int) (mulU (IntKind.wrap IntKind.u64 t) (IntKind.wrap IntKind.u64 s) m) m) (mulU (IntKind.wrap IntKind.u64 t) (1 : Int) m) m) (mulU (IntKind.wrap IntKind.u64 ty) (6 : Int) m) m) (mulU (IntKind.wrap
 IntKind.u64 c) (1 : Int) m) m ≤ (18446744073709551615 : Int) ∧ (0 : Int) ≤ mulU (IntKind.wrap IntKind.u64 l) (IntKind.wrap IntKind.u64 (IntKind.wrap IntKind.u64 s + (4 : Int))) m ∧ mulU (IntKind.wrap IntKind.u64 l) (IntKind.wrap IntKind.u64 (IntKind.wrap IntKind.u64 s + (4 : Int))) m ≤ (18446744073709551615 : Int) ∧ (0 : Int) ≤ m ∧ m ≤ (18446744073709551615 : Int) ∧ brn (!decide (addU (addU (addU (addU (0 : Int) (mulU (IntKind.wrap IntKind.u64 t) (IntKind.wrap IntKind.u64 s) m) m) (mulU (IntKind.wrap IntKind.u64 t) (1 : Int) m) m) (mulU (IntKind.wrap IntKind.u64 ty) (6 : Int) m) m) (mulU (IntKind.wrap IntKind.u64 c) (1 : Int) m) m + mulU (IntKind.wrap IntKind.u64 l) (IntKind.wrap IntKind.u64 (IntKind.wrap IntKind.u64 s + (4 : Int))) m ≤ m) || !decide (IntKind.wrap IntKind.u64 l * IntKind.wrap IntKind.u64 (IntKind.wrap IntKind.u64 s + (4 : Int)) ≤ m)) (K [AV.imm (IV.int IntKind.u64 (0 : Int)), AV.imm (IV.bool false)]) ((0 : Int) ≤ IntKind.wrap IntKind.u64 is ∧ IntKind.wrap IntKind.u64 is
 ≤ (4294967295 : Int) ∧ (0 : Int) ≤ (1 : Int) ∧ (1 : Int) ≤ (4294967295 : Int) ∧ (0 : Int) ≤ m ∧ m ≤ (18446744073709551615 : Int) ∧ (0 : Int) ≤ addU (addU (addU (addU (addU (0 : Int) (mulU (IntKind.wrap IntKind.u64 t) (IntKind.wrap IntKind.u64 s) m) m) (mulU (IntKind.wrap IntKind.u64 t) (1 : Int) m) m) (mulU (IntKind.wrap IntKind.u64 ty) (6 : Int) m) m) (mulU (IntKind.wrap IntKind.u64 c) (1 : Int) m) m) (mulU (IntKind.wrap IntKind.u64 l) (IntKind.wrap IntKind.u64 (IntKind.wrap IntKind.u64 s + (4 : Int))) m) m ∧ addU (addU (addU (addU (addU (0 : Int) (mulU (IntKind.wrap IntKind.u64 t) (IntKind.wrap IntKind.u64 s) m) m) (mulU (IntKind.wrap IntKind.u64 t) (1 : Int) m) m) (mulU (IntKind.wrap IntKind.u64 ty) (6 : Int) m) m) (mulU (IntKind.wrap IntKind.u64 c) (1 : Int) m) m) (mulU (IntKind.wrap IntKind.u64 l) (IntKind.wrap IntKind.u64 (IntKind.wrap IntKind.u64 s + (4 : Int))) m) m ≤ (18446744073709551615 : Int) ∧ (0 : Int) ≤ mulU (IntKind.wrap IntKind.u64 is) (1 : Int) m ∧ mulU (IntKind.wrap
 IntKind.u64 is) (1 : Int) m ≤ (18446744073709551615 : Int) ∧ (0 : Int) ≤ m ∧ m ≤ (18446744073709551615 : Int) ∧ brn (!decide (addU (addU (addU (addU (addU (0 : Int) (mulU (IntKind.wrap IntKind.u64 t) (IntKind.wrap IntKind.u64 s) m) m) (mulU (IntKind.wrap IntKind.u64 t) (1 : Int) m) m) (mulU (IntKind.wrap IntKind.u64 ty) (6 : Int) m) m) (mulU (IntKind.wrap IntKind.u64 c) (1 : Int) m) m) (mulU (IntKind.wrap IntKind.u64 l) (IntKind.wrap IntKind.u64 (IntKind.wrap IntKind.u64 s + (4 : Int))) m) m + mulU (IntKind.wrap IntKind.u64 is) (1 : Int) m ≤ m) || !decide (IntKind.wrap IntKind.u64 is * (1 : Int) ≤ m)) (K [AV.imm (IV.int IntKind.u64 (0 : Int)), AV.imm (IV.bool false)]) ((0 : Int) ≤ IntKind.wrap IntKind.u64 iu ∧ IntKind.wrap IntKind.u64 iu ≤ (4294967295 : Int) ∧ (0 : Int) ≤ (1 : Int) ∧ (1 : Int) ≤ (4294967295 : Int) ∧ (0 : Int) ≤ m ∧ m ≤ (18446744073709551615 : Int) ∧ (0 : Int) ≤ addU (addU (addU (addU (addU (addU (0 : Int) (mulU (IntKind.wrap IntKind.u64 t) (IntKind.wrap IntKind.u64 s)
 m) m) (mulU (IntKind.wrap IntKind.u64 t) (1 : Int) m) m) (mulU (IntKind.wrap IntKind.u64 ty) (6 : Int) m) m) (mulU (IntKind.wrap IntKind.u64 c) (1 : Int) m) m) (mulU (IntKind.wrap IntKind.u64 l) (IntKind.wrap IntKind.u64 (IntKind.wrap IntKind.u64 s + (4 : Int))) m) m) (mulU (IntKind.wrap IntKind.u64 is) (1 : Int) m) m ∧ addU (addU (addU (addU (addU (addU (0 : Int) (mulU (IntKind.wrap IntKind.u64 t) (IntKind.wrap IntKind.u64 s) m) m) (mulU (IntKind.wrap IntKind.u64 t) (1 : Int) m) m) (mulU (IntKind.wrap IntKind.u64 ty) (6 : Int) m) m) (mulU (IntKind.wrap IntKind.u64 c) (1 : Int) m) m) (mulU (IntKind.wrap IntKind.u64 l) (IntKind.wrap IntKind.u64 (IntKind.wrap IntKind.u64 s + (4 : Int))) m) m) (mulU (IntKind.wrap IntKind.u64 is) (1 : Int) m) m ≤ (18446744073709551615 : Int) ∧ (0 : Int) ≤ mulU (IntKind.wrap IntKind.u64 iu) (1 : Int) m ∧ mulU (IntKind.wrap IntKind.u64 iu) (1 : Int) m ≤ (18446744073709551615 : Int) ∧ (0 : Int) ≤ m ∧ m ≤ (18446744073709551615 : Int) ∧ brn (!decide (addU (addU
 (addU (addU (addU (addU (0 : Int) (mulU (IntKind.wrap IntKind.u64 t) (IntKind.wrap IntKind.u64 s) m) m) (mulU (IntKind.wrap IntKind.u64 t) (1 : Int) m) m) (mulU (IntKind.wrap IntKind.u64 ty) (6 : Int) m) m) (mulU (IntKind.wrap IntKind.u64 c) (1 : Int) m) m) (mulU (IntKind.wrap IntKind.u64 l) (IntKind.wrap IntKind.u64 (IntKind.wrap IntKind.u64 s + (4 : Int))) m) m) (mulU (IntKind.wrap IntKind.u64 is) (1 : Int) m) m + mulU (IntKind.wrap IntKind.u64 iu) (1 : Int) m ≤ m) || !decide (IntKind.wrap IntKind.u64 iu * (1 : Int) ≤ m)) (K [AV.imm (IV.int IntKind.u64 (0 : Int)), AV.imm (IV.bool false)]) (brn (!decide (addU (addU (addU (addU (addU (addU (0 : Int) (mulU (IntKind.wrap IntKind.u64 t) (IntKind.wrap IntKind.u64 s) m) m) (mulU (IntKind.wrap IntKind.u64 t) (1 : Int) m) m) (mulU (IntKind.wrap IntKind.u64 ty) (6 : Int) m) m) (mulU (IntKind.wrap IntKind.u64 c) (1 : Int) m) m) (mulU (IntKind.wrap IntKind.u64 l) (IntKind.wrap IntKind.u64 (IntKind.wrap IntKind.u64 s + (4 : Int))) m) m) (mulU
 (IntKind.wrap IntKind.u64 is) (1 : Int) m) m + mulU (IntKind.wrap IntKind.u64 iu) (1 : Int) m ≤ m)) (K [AV.imm (IV.int IntKind.u64 (0 : Int)), AV.imm (IV.bool false)]) (K [AV.imm (IV.int IntKind.u64 (addU (addU (addU (addU (addU (addU (addU (0 : Int) (mulU (IntKind.wrap IntKind.u64 t) (IntKind.wrap IntKind.u64 s) m) m) (mulU (IntKind.wrap IntKind.u64 t) (1 : Int) m) m) (mulU (IntKind.wrap IntKind.u64 ty) (6 : Int) m) m) (mulU (IntKind.wrap IntKind.u64 c) (1 : Int) m) m) (mulU (IntKind.wrap IntKind.u64 l) (IntKind.wrap IntKind.u64 (IntKind.wrap IntKind.u64 s + (4 : Int))) m) m) (mulU (IntKind.wrap IntKind.u64 is) (1 : Int) m) m) (mulU (IntKind.wrap IntKind.u64 iu) (1 : Int) m) m)), AV.imm (IV.bool true)])))))))); ((0 : Int) ≤ IntKind.wrap IntKind.u64 t ∧ IntKind.wrap IntKind.u64 t ≤ (4294967295 : Int) ∧ (0 : Int) ≤ IntKind.wrap IntKind.u64 s ∧ IntKind.wrap IntKind.u64 s ≤ (4294967295 : Int) ∧ (0 : Int) ≤ m ∧ m ≤ (18446744073709551615 : Int) ∧ (0 : Int) ≤ (0 : Int) ∧ (0 : Int) ≤
 (18446744073709551615 : Int) ∧ (0 : Int) ≤ mulU (IntKind.wrap IntKind.u64 t) (IntKind.wrap IntKind.u64 s) m ∧ mulU (IntKind.wrap IntKind.u64 t) (IntKind.wrap IntKind.u64 s) m ≤ (18446744073709551615 : Int) ∧ (0 : Int) ≤ m ∧ m ≤ (18446744073709551615 : Int) ∧ brn (!decide ((0 : Int) + mulU (IntKind.wrap IntKind.u64 t) (IntKind.wrap IntKind.u64 s) m ≤ m) || !decide (IntKind.wrap IntKind.u64 t * IntKind.wrap IntKind.u64 s ≤ m)) (K [AV.imm (IV.int IntKind.u64 (0 : Int)), AV.imm (IV.bool false)]) R1) ∧ (0 : Int) ≤ IntKind.wrap IntKind.u64 t ∧ IntKind.wrap IntKind.u64 t ≤ (4294967295 : Int) ∧ (0 : Int) ≤ IntKind.wrap IntKind.u64 s ∧ IntKind.wrap IntKind.u64 s ≤ (4294967295 : Int) ∧ (0 : Int) ≤ m ∧ m ≤ (18446744073709551615 : Int) ∧ (0 : Int) ≤ (0 : Int) ∧ (0 : Int) ≤ (18446744073709551615 : Int) ∧ (0 : Int) ≤ mulU (IntKind.wrap IntKind.u64 t) (IntKind.wrap IntKind.u64 s) m ∧ mulU (IntKind.wrap IntKind.u64 t) (IntKind.wrap IntKind.u64 s) m ≤ (18446744073709551615 : Int) ∧ (0 : Int) ≤ m ∧ m ≤
 (18446744073709551615 : Int) ∧ brn (!decide ((0 : Int) + mulU (IntKind.wrap IntKind.u64 t) (IntKind.wrap IntKind.u64 s) m ≤ m) || !decide (IntKind.wrap IntKind.u64 t * IntKind.wrap IntKind.u64 s ≤ m)) (K [AV.imm (IV.int IntKind.u64 (0 : Int)), AV.imm (IV.bool false)]) R1) := by kernel_rfl
theorem f29_in (v : Int) (iu : Int) (is : Int) (l : Int) (t : Int) (ty : Int) (c : Int) (s : Int) (K : List AV → Prop) : evSpec K2u Tryd.f29 [hdAV v iu is l t ty c, i64 s] K = (okH (Hd.mk v iu is l t ty c) ∧ sz48 s ∧ K [.agg [.imm (.int IntKind.u64 (0 : Int)), .imm (.int IntKind.u64 (IntKind.wrap IntKind.u64 ((0 : Int) + l0 (Hd.mk v iu is l t ty c) s))), .imm (.int IntKind.u64 (IntKind.wrap IntKind.u64 (IntKind.wrap IntKind.u64 ((0 : Int) + l0 (Hd.mk v iu is l t ty c) s) + l1 (Hd.mk v iu is l t ty c)))), .imm (.int IntKind.u64 (IntKind.wrap IntKind.u64 (IntKind.wrap IntKind.u64 (IntKind.wrap IntKind.u64 ((0 : Int) + l0 (Hd.mk v iu is l t ty c) s) + l1 (Hd.mk v iu is l t ty c)) + l2 (Hd.mk v iu is l t ty c)))), .imm (.int IntKind.u64 (IntKind.wrap IntKind.u64 (IntKind.wrap IntKind.u64 (IntKind.wrap IntKind.u64 (IntKind.wrap IntKind.u64 ((0 : Int) + l0 (Hd.mk v iu is l t ty c) s) + l1 (Hd.mk v iu is l t ty c)) + l2 (Hd.mk v iu is l t ty c)) + l3 (Hd.mk v iu is l t ty c)))), .imm (.int IntKind.u64 (IntKind.wrap IntKind.u64 (IntKind.wrap IntKind.u64 (IntKind.wrap IntKind.u64 (IntKind.wrap IntKind.u64 (IntKind.wrap IntKind.u64 ((0 : Int) + l0 (Hd.mk v iu is l t ty c) s) + l1 (Hd.mk v iu
 is l t ty c)) + l2 (Hd.mk v iu is l t ty c)) + l3 (Hd.mk v iu is l t ty c)) + l4 (Hd.mk v iu is l t ty c) s))), .imm (.int IntKind.u64 (IntKind.wrap IntKind.u64 (IntKind.wrap IntKind.u64 (IntKind.wrap IntKind.u64 (IntKind.wrap IntKind.u64 (IntKind.wrap IntKind.u64 (IntKind.wrap IntKind.u64 ((0 : Int) + l0 (Hd.mk v iu is l t ty c) s) + l1 (Hd.mk v iu is l t ty c)) + l2 (Hd.mk v iu is l t ty c)) + l3 (Hd.mk v iu is l t ty c)) + l4 (Hd.mk v iu is l t ty c) s) + l5 (Hd.mk v iu is l t ty c)))), .imm (.int IntKind.u64 (IntKind.wrap IntKind.u64 (IntKind.wrap IntKind.u64 (IntKind.wrap IntKind.u64 (IntKind.wrap IntKind.u64 (IntKind.wrap IntKind.u64 (IntKind.wrap IntKind.u64 (IntKind.wrap IntKind.u64 ((0 : Int) + l0 (Hd.mk v iu is l t ty c) s) + l1 (Hd.mk v iu is l t ty c)) + l2 (Hd.mk v iu is l t ty c)) + l3 (Hd.mk v iu is l t ty c)) + l4 (Hd.mk v iu is l t ty c) s) + l5 (Hd.mk v iu is l t ty c)) + l6 (Hd.mk v iu is l t ty c))))]]) := by kernel_rfl
theorem f28_in (d : List
  UInt8) (p : Int) (e : Int) (a : Int) (n : Int) (K : List AV → Prop) : evSpec K2 Tryd.f28 [curAV d p e a, i64 n] K =
  (let R1 : Prop := K [AV.new (IV.bytes (List.map u8 [] ++ List.take (Int.toNat (Cu.p (advU (Cu.mk d p e a) n)) - Int.toNat p) (List.drop (Int.toNat p) d))), AV.agg [AV.imm (IV.bytes (Cu.d (advU (Cu.mk d p e a) n))), AV.imm (IV.int IntKind.i64 (Cu.p (advU (Cu.mk d p e a) n))), AV.imm (IV.int IntKind.i64 (Cu.e (advU (Cu.mk d p e a) n))), AV.imm (IV.int IntKind.i64 (Cu.a (advU (Cu.mk d p e a) n)))]]; let R2 : Prop := ((0 : Int) ≤ p ∧ p ≤ Cu.p (advU (Cu.mk d p e a) n) ∧ Cu.p (advU (Cu.mk d p e a) n) ≤ (↑(List.length d) : Int) ∧ (List.length (List.map u8 []) + List.length (List.take (Int.toNat (Cu.p (advU (Cu.mk d p e a) n)) - Int.toNat p) (List.drop (Int.toNat p) d))) * (1 : Nat) ≤ (140737488355328 : Nat) ∧ List.length (List.map u8 []) + List.length (List.take (Int.toNat (Cu.p (advU (Cu.mk d p e a) n)) - Int.toNat p) (List.drop (Int.toNat p) d)) ≤ (140737488355328 : Nat) ∧ R1); let R3 : Prop := (((0 : Int) ≤ p ∧ p ≤ Cu.p (advU (Cu.mk d p e a) n) ∧ Cu.p (advU (Cu.mk d p e a) n) ≤
 (↑(List.length d) : Int) ∧ ((List.length (List.map u8 []) + List.length (List.take (Int.toNat (Cu.p (advU (Cu.mk d p e a) n)) - Int.toNat p) (List.drop (Int.toNat p) d))) * (1 : Nat) ≤ (140737488355328 : Nat) ∧ List.length (List.map u8 []) + List.length (List.take (Int.toNat (Cu.p (advU (Cu.mk d p e a) n)) - Int.toNat p) (List.drop (Int.toNat p) d)) ≤ (140737488355328 : Nat) ∧ R1) ∧ (List.length (List.map u8 []) + List.length (List.take (Int.toNat (Cu.p (advU (Cu.mk d p e a) n)) - Int.toNat p) (List.drop (Int.toNat p) d))) * (1 : Nat) ≤ (140737488355328 : Nat) ∧ List.length (List.map u8 []) + List.length (List.take (Int.toNat (Cu.p (advU (Cu.mk d p e a) n)) - Int.toNat p) (List.drop (Int.toNat p) d)) ≤ (140737488355328 : Nat) ∧ R1) ∧ (0 : Int) ≤ p ∧ p ≤ Cu.p (advU (Cu.mk d p e a) n) ∧ Cu.p (advU (Cu.mk d p e a) n) ≤ (↑(List.length d) : Int) ∧ (List.length (List.map u8 []) + List.length (List.take (Int.toNat (Cu.p (advU (Cu.mk d p e a) n)) - Int.toNat p) (List.drop (Int.toNat p) d))) *
 (1 : Nat) ≤ (140737488355328 : Nat) ∧ List.length (List.map u8 []) + List.length (List.take (Int.toNat (Cu.p (advU (Cu.mk d p e a) n)) - Int.toNat p) (List.drop (Int.toNat p) d)) ≤ (140737488355328 : Nat) ∧ R1); let R4 : Prop := (R3 ∧ ((0 : Int) ≤ p ∧ p ≤ Cu.p (advU (Cu.mk d p e a) n) ∧ Cu.p (advU (Cu.mk d p e a) n) ≤ (↑(List.length d) : Int) ∧ (((List.length (List.map u8 []) + List.length (List.take (Int.toNat (Cu.p (advU (Cu.mk d p e a) n)) - Int.toNat p) (List.drop (Int.toNat p) d))) * (1 : Nat) ≤ (140737488355328 : Nat) ∧ List.length (List.map u8 []) + List.length (List.take (Int.toNat (Cu.p (advU (Cu.mk d p e a) n)) - Int.toNat p) (List.drop (Int.toNat p) d)) ≤ (140737488355328 : Nat) ∧ R1) ∧ (List.length (List.map u8 []) + List.length (List.take (Int.toNat (Cu.p (advU (Cu.mk d p e a) n)) - Int.toNat p) (List.drop (Int.toNat p) d))) * (1 : Nat) ≤ (140737488355328 : Nat) ∧ List.length (List.map u8 []) + List.length (List.take (Int.toNat (Cu.p (advU (Cu.mk d p e a) n)) - Int.toNat p)
 (List.drop (Int.toNat p) d)) ≤ (140737488355328 : Nat) ∧ R1) ∧ (List.length (List.map u8 []) + List.length (List.take (Int.toNat (Cu.p (advU (Cu.mk d p e a) n)) - Int.toNat p) (List.drop (Int.toNat p) d))) * (1 : Nat) ≤ (140737488355328 : Nat) ∧ List.length (List.map u8 []) + List.length (List.take (Int.toNat (Cu.p (advU (Cu.mk d p e a) n)) - Int.toNat p) (List.drop (Int.toNat p) d)) ≤ (140737488355328 : Nat) ∧ R1) ∧ R2 ∧ (0 : Int) ≤ p ∧ p ≤ Cu.p (advU (Cu.mk d p e a) n) ∧ Cu.p (advU (Cu.mk d p e a) n) ≤ (↑(List.length d) : Int) ∧ (List.length (List.map u8 []) + List.length (List.take (Int.toNat (Cu.p (advU (Cu.mk d p e a) n)) - Int.toNat p) (List.drop (Int.toNat p) d))) * (1 : Nat) ≤ (140737488355328 : Nat) ∧ List.length (List.map u8 []) + List.length (List.take (Int.toNat (Cu.p (advU (Cu.mk d p e a) n)) - Int.toNat p) (List.drop (Int.toNat p) d)) ≤ (140737488355328 : Nat) ∧ R1); let R5 : Prop := ((R3 ∧ (0 : Int) ≤ p ∧ p ≤ Cu.p (advU (Cu.mk d p e a) n) ∧ Cu.p (advU (Cu.mk d p e a) n) ≤
 (↑(List.length d) : Int) ∧ (List.length (List.map u8 []) + List.length (List.take (Int.toNat (Cu.p (advU (Cu.mk d p e a) n)) - Int.toNat p) (List.drop (Int.toNat p) d))) * (1 : Nat) ≤ (140737488355328 : Nat) ∧ List.length (List.map u8 []) + List.length (List.take (Int.toNat (Cu.p (advU (Cu.mk d p e a) n)) - Int.toNat p) (List.drop (Int.toNat p) d)) ≤ (140737488355328 : Nat) ∧ R1) ∧ (R3 ∧ R4 ∧ R2 ∧ R2 ∧ (0 : Int) ≤ p ∧ p ≤ Cu.p (advU (Cu.mk d p e a) n) ∧ Cu.p (advU (Cu.mk d p e a) n) ≤ (↑(List.length d) : Int) ∧ (List.length (List.map u8 []) + List.length (List.take (Int.toNat (Cu.p (advU (Cu.mk d p e a) n)) - Int.toNat p) (List.drop (Int.toNat p) d))) * (1 : Nat) ≤ (140737488355328 : Nat) ∧ List.length (List.map u8 []) + List.length (List.take (Int.toNat (Cu.p (advU (Cu.mk d p e a) n)) - Int.toNat p) (List.drop (Int.toNat p) d)) ≤ (140737488355328 : Nat) ∧ R1) ∧ ((R3 ∧ (0 : Int) ≤ p ∧ p ≤ Cu.p (advU (Cu.mk d p e a) n) ∧ Cu.p (advU (Cu.mk d p e a) n) ≤ (↑(List.length d) : Int) ∧
 (List.length (List.map u8 []) + List.length (List.take (Int.toNat (Cu.p (advU (Cu.mk d p e a) n)) - Int.toNat p) (List.drop (Int.toNat p) d))) * (1 : Nat) ≤ (140737488355328 : Nat) ∧ List.length (List.map u8 []) + List.length (List.take (Int.toNat (Cu.p (advU (Cu.mk d p e a) n)) - Int.toNat p) (List.drop (Int.toNat p) d)) ≤ (140737488355328 : Nat) ∧ R1) ∧ R4 ∧ R2 ∧ R2 ∧ (0 : Int) ≤ p ∧ p ≤ Cu.p (advU (Cu.mk d p e a) n) ∧ Cu.p (advU (Cu.mk d p e a) n) ≤ (↑(List.length d) : Int) ∧ (List.length (List.map u8 []) + List.length (List.take (Int.toNat (Cu.p (advU (Cu.mk d p e a) n)) - Int.toNat p) (List.drop (Int.toNat p) d))) * (1 : Nat) ≤ (140737488355328 : Nat) ∧ List.length (List.map u8 []) + List.length (List.take (Int.toNat (Cu.p (advU (Cu.mk d p e a) n)) - Int.toNat p) (List.drop (Int.toNat p) d)) ≤ (140737488355328 : Nat) ∧ R1) ∧ R2 ∧ (R2 ∧ R2 ∧ (0 : Int) ≤ p ∧ p ≤ Cu.p (advU (Cu.mk d p e a) n) ∧ Cu.p (advU (Cu.mk d p e a) n) ≤ (↑(List.length d) : Int) ∧ (List.length (List.map u8 []) +
 List.length (List.take (Int.toNat (Cu.p (advU (Cu.mk d p e a) n)) - Int.toNat p) (List.drop (Int.toNat p) d))) * (1 : Nat) ≤ (140737488355328 : Nat) ∧ List.length (List.map u8 []) + List.length (List.take (Int.toNat (Cu.p (advU (Cu.mk d p e a) n)) - Int.toNat p) (List.drop (Int.toNat p) d)) ≤ (140737488355328 : Nat) ∧ R1) ∧ R2 ∧ R2 ∧ (0 : Int) ≤ p ∧ p ≤ Cu.p (advU (Cu.mk d p e a) n) ∧ Cu.p (advU (Cu.mk d p e a) n) ≤ (↑(List.length d) : Int) ∧ (List.length (List.map u8 []) + List.length (List.take (Int.toNat (Cu.p (advU (Cu.mk d p e a) n)) - Int.toNat p) (List.drop (Int.toNat p) d))) * (1 : Nat) ≤ (140737488355328 : Nat) ∧ List.length (List.map u8 []) + List.length (List.take (Int.toNat (Cu.p (advU (Cu.mk d p e a) n)) - Int.toNat p) (List.drop (Int.toNat p) d)) ≤ (140737488355328 : Nat) ∧ R1); let R6 : Prop := (R2 ∧ R2 ∧ (0 : Int) ≤ p ∧ p ≤ Cu.p (advU (Cu.mk d p e a) n) ∧ Cu.p (advU (Cu.mk d p e a) n) ≤ (↑(List.length d) : Int) ∧ (List.length (List.map u8 []) + List.length (List.take
 (Int.toNat (Cu.p (advU (Cu.mk d p e a) n)) - Int.toNat p) (List.drop (Int.toNat p) d))) * (1 : Nat) ≤ (140737488355328 : Nat) ∧ List.length (List.map u8 []) + List.length (List.take (Int.toNat (Cu.p (advU (Cu.mk d p e a) n)) - Int.toNat p) (List.drop (Int.toNat p) d)) ≤ (140737488355328 : Nat) ∧ R1); let R7 : Prop := (R3 ∧ R4 ∧ R2 ∧ R2 ∧ (0 : Int) ≤ p ∧ p ≤ Cu.p (advU (Cu.mk d p e a) n) ∧ Cu.p (advU (Cu.mk d p e a) n) ≤ (↑(List.length d) : Int) ∧ (List.length (List.map u8 []) + List.length (List.take (Int.toNat (Cu.p (advU (Cu.mk d p e a) n)) - Int.toNat p) (List.drop (Int.toNat p) d))) * (1 : Nat) ≤ (140737488355328 : Nat) ∧ List.length (List.map u8 []) + List.length (List.take (Int.toNat (Cu.p (advU (Cu.mk d p e a) n)) - Int.toNat p) (List.drop (Int.toNat p) d)) ≤ (140737488355328 : Nat) ∧ R1); let R8 : Prop := (R2 ∧ R6 ∧ R2 ∧ R2 ∧ (0 : Int) ≤ p ∧ p ≤ Cu.p (advU (Cu.mk d p e a) n) ∧ Cu.p (advU (Cu.mk d p e a) n) ≤ (↑(List.length d) : Int) ∧ (List.length (List.map u8 []) + List.length
 (List.take (Int.toNat (Cu.p (advU (Cu.mk d p e a) n)) - Int.toNat p) (List.drop (Int.toNat p) d))) * (1 : Nat) ≤ (140737488355328 : Nat) ∧ List.length (List.map u8 []) + List.length (List.take (Int.toNat (Cu.p (advU (Cu.mk d p e a) n)) - Int.toNat p) (List.drop (Int.toNat p) d)) ≤ (140737488355328 : Nat) ∧ R1); okU (Cu.mk d p e a) ∧ brn (!advOk (Cu.mk d p e a) n) (K [AV.new (IV.bytes []), AV.agg [AV.imm (IV.bytes (Cu.d (advU (Cu.mk d p e a) n))), AV.imm (IV.int IntKind.i64 (Cu.p (advU (Cu.mk d p e a) n))), AV.imm (IV.int IntKind.i64 (Cu.e (advU (Cu.mk d p e a) n))), AV.imm (IV.int IntKind.i64 (Cu.a (advU (Cu.mk d p e a) n)))]]) ((R3 ∧ (0 : Int) ≤ p ∧ p ≤ Cu.p (advU (Cu.mk d p e a) n) ∧ Cu.p (advU (Cu.mk d p e a) n) ≤ (↑(List.length d) : Int) ∧ (List.length (List.map u8 []) + List.length (List.take (Int.toNat (Cu.p (advU (Cu.mk d p e a) n)) - Int.toNat p) (List.drop (Int.toNat p) d))) * (1 : Nat) ≤ (140737488355328 : Nat) ∧ List.length (List.map u8 []) + List.length (List.take (Int.toNat
 (Cu.p (advU (Cu.mk d p e a) n)) - Int.toNat p) (List.drop (Int.toNat p) d)) ≤ (140737488355328 : Nat) ∧ R1) ∧ (R3 ∧ R7 ∧ R7 ∧ R2 ∧ R6 ∧ R2 ∧ R2 ∧ (0 : Int) ≤ p ∧ p ≤ Cu.p (advU (Cu.mk d p e a) n) ∧ Cu.p (advU (Cu.mk d p e a) n) ≤ (↑(List.length d) : Int) ∧ (List.length (List.map u8 []) + List.length (List.take (Int.toNat (Cu.p (advU (Cu.mk d p e a) n)) - Int.toNat p) (List.drop (Int.toNat p) d))) * (1 : Nat) ≤ (140737488355328 : Nat) ∧ List.length (List.map u8 []) + List.length (List.take (Int.toNat (Cu.p (advU (Cu.mk d p e a) n)) - Int.toNat p) (List.drop (Int.toNat p) d)) ≤ (140737488355328 : Nat) ∧ R1) ∧ R5 ∧ R5 ∧ R2 ∧ R8 ∧ R8 ∧ R2 ∧ R6 ∧ R2 ∧ R2 ∧ (0 : Int) ≤ p ∧ p ≤ Cu.p (advU (Cu.mk d p e a) n) ∧ Cu.p (advU (Cu.mk d p e a) n) ≤ (↑(List.length d) : Int) ∧ (List.length (List.map u8 []) + List.length (List.take (Int.toNat (Cu.p (advU (Cu.mk d p e a) n)) - Int.toNat p) (List.drop (Int.toNat p) d))) * (1 : Nat) ≤ (140737488355328 : Nat) ∧ List.length (List.map u8 []) + List.length
 (List.take (Int.toNat (Cu.p (advU (Cu.mk d p e a) n)) - Int.toNat p) (List.drop (Int.toNat p) d)) ≤ (140737488355328 : Nat) ∧ R1)) := by kernel_rfl
theorem f53_in (a : List UInt8) (b : List UInt8) (c : List UInt8) (d : List UInt8) (e : List UInt8) (f : List UInt8) (g : List UInt8) (K : List AV → Prop) : evSpec K1u Tryd.f53 [.imm (.sl (1 : Nat) [[IV.bytes a], [IV.bytes b], [IV.bytes c], [IV.bytes d], [IV.bytes e], [IV.bytes f], [IV.bytes g]])] K = ((0 : Int) ≤ 0 ∧ (0 : Int) < (↑(List.length [[IV.bytes a], [IV.bytes b], [IV.bytes c], [IV.bytes d], [IV.bytes e], [IV.bytes f], [IV.bytes g]]) : Int) ∧ kcells (List.getD [[IV.bytes a], [IV.bytes b], [IV.bytes c], [IV.bytes d], [IV.bytes e], [IV.bytes f], [IV.bytes g]] (0 : Int).toNat []) (0 : Nat) [CK.any] = List.getD [[IV.bytes a], [IV.bytes b], [IV.bytes c], [IV.bytes d], [IV.bytes e], [IV.bytes f], [IV.bytes g]] (0 : Int).toNat [] ∧ brn (decide (IntKind.wrap .i64 ((0 : Int) + (a.length : Int)) < 0)) False ((0 : Int) ≤ IntKind.wrap .i64 ((0 : Int) + 1) ∧ IntKind.wrap .i64 ((0 : Int) + 1) < (↑(List.length [[IV.bytes a], [IV.bytes b], [IV.bytes c], [IV.bytes d], [IV.bytes e], [IV.bytes f], [IV.bytes g]]) : Int) ∧ kcells (List.getD [[IV.bytes a], [IV.bytes b], [IV.bytes c], [IV.bytes d], [IV.bytes e], [IV.bytes f], [IV.bytes g]] (IntKind.wrap .i64 ((0 : Int) + 1)).toNat []) (0 : Nat)
 [CK.any] = List.getD [[IV.bytes a], [IV.bytes b], [IV.bytes c], [IV.bytes d], [IV.bytes e], [IV.bytes f], [IV.bytes g]] (IntKind.wrap .i64 ((0 : Int) + 1)).toNat [] ∧ brn (decide (IntKind.wrap .i64 (IntKind.wrap .i64 ((0 : Int) + (a.length : Int)) + (b.length : Int)) < 0)) False ((0 : Int) ≤ IntKind.wrap .i64 (IntKind.wrap .i64 ((0 : Int) + 1) + 1) ∧ IntKind.wrap .i64 (IntKind.wrap .i64 ((0 : Int) + 1) + 1) < (↑(List.length [[IV.bytes a], [IV.bytes b], [IV.bytes c], [IV.bytes d], [IV.bytes e], [IV.bytes f], [IV.bytes g]]) : Int) ∧ kcells (List.getD [[IV.bytes a], [IV.bytes b], [IV.bytes c], [IV.bytes d], [IV.bytes e], [IV.bytes f], [IV.bytes g]] (IntKind.wrap .i64 (IntKind.wrap .i64 ((0 : Int) + 1) + 1)).toNat []) (0 : Nat) [CK.any] = List.getD [[IV.bytes a], [IV.bytes b], [IV.bytes c], [IV.bytes d], [IV.bytes e], [IV.bytes f], [IV.bytes g]] (IntKind.wrap .i64 (IntKind.wrap .i64 ((0 : Int) + 1) + 1)).toNat [] ∧ brn (decide (IntKind.wrap .i64 (IntKind.wrap .i64 (IntKind.wrap .i64 ((0 : Int) + (a.length : Int)) + (b.length : Int)) + (c.length : Int)) < 0)) False ((0 : Int) ≤ IntKind.wrap .i64 (IntKind.wrap .i64 (IntKind.wrap .i64 ((0 : Int) + 1) + 1) + 1) ∧ IntKind.wrap .i64
 (IntKind.wrap .i64 (IntKind.wrap .i64 ((0 : Int) + 1) + 1) + 1) < (↑(List.length [[IV.bytes a], [IV.bytes b], [IV.bytes c], [IV.bytes d], [IV.bytes e], [IV.bytes f], [IV.bytes g]]) : Int) ∧ kcells (List.getD [[IV.bytes a], [IV.bytes b], [IV.bytes c], [IV.bytes d], [IV.bytes e], [IV.bytes f], [IV.bytes g]] (IntKind.wrap .i64 (IntKind.wrap .i64 (IntKind.wrap .i64 ((0 : Int) + 1) + 1) + 1)).toNat []) (0 : Nat) [CK.any] = List.getD [[IV.bytes a], [IV.bytes b], [IV.bytes c], [IV.bytes d], [IV.bytes e], [IV.bytes f], [IV.bytes g]] (IntKind.wrap .i64 (IntKind.wrap .i64 (IntKind.wrap .i64 ((0 : Int) + 1) + 1) + 1)).toNat [] ∧ brn (decide (IntKind.wrap .i64 (IntKind.wrap .i64 (IntKind.wrap .i64 (IntKind.wrap .i64 ((0 : Int) + (a.length : Int)) + (b.length : Int)) + (c.length : Int)) + (d.length : Int)) < 0)) False ((0 : Int) ≤ IntKind.wrap .i64 (IntKind.wrap .i64 (IntKind.wrap .i64 (IntKind.wrap .i64 ((0 : Int) + 1) + 1) + 1) + 1) ∧ IntKind.wrap .i64 (IntKind.wrap .i64 (IntKind.wrap .i64 (IntKind.wrap .i64 ((0 : Int) + 1) + 1) + 1) + 1) < (↑(List.length [[IV.bytes a], [IV.bytes b], [IV.bytes c], [IV.bytes d], [IV.bytes e], [IV.bytes f], [IV.bytes g]]) : Int) ∧ kcells (List.getD [[IV.bytes
 a], [IV.bytes b], [IV.bytes c], [IV.bytes d], [IV.bytes e], [IV.bytes f], [IV.bytes g]] (IntKind.wrap .i64 (IntKind.wrap .i64 (IntKind.wrap .i64 (IntKind.wrap .i64 ((0 : Int) + 1) + 1) + 1) + 1)).toNat []) (0 : Nat) [CK.any] = List.getD [[IV.bytes a], [IV.bytes b], [IV.bytes c], [IV.bytes d], [IV.bytes e], [IV.bytes f], [IV.bytes g]] (IntKind.wrap .i64 (IntKind.wrap .i64 (IntKind.wrap .i64 (IntKind.wrap .i64 ((0 : Int) + 1) + 1) + 1) + 1)).toNat [] ∧ brn (decide (IntKind.wrap .i64 (IntKind.wrap .i64 (IntKind.wrap .i64 (IntKind.wrap .i64 (IntKind.wrap .i64 ((0 : Int) + (a.length : Int)) + (b.length : Int)) + (c.length : Int)) + (d.length : Int)) + (e.length : Int)) < 0)) False ((0 : Int) ≤ IntKind.wrap .i64 (IntKind.wrap .i64 (IntKind.wrap .i64 (IntKind.wrap .i64 (IntKind.wrap .i64 ((0 : Int) + 1) + 1) + 1) + 1) + 1) ∧ IntKind.wrap .i64 (IntKind.wrap .i64 (IntKind.wrap .i64 (IntKind.wrap .i64 (IntKind.wrap .i64 ((0 : Int) + 1) + 1) + 1) + 1) + 1) < (↑(List.length [[IV.bytes a], [IV.bytes b], [IV.bytes c], [IV.bytes d], [IV.bytes e], [IV.bytes f], [IV.bytes g]]) : Int) ∧ kcells (List.getD [[IV.bytes a], [IV.bytes b], [IV.bytes c], [IV.bytes d], [IV.bytes e], [IV.bytes f], [IV.bytes
 g]] (IntKind.wrap .i64 (IntKind.wrap .i64 (IntKind.wrap .i64 (IntKind.wrap .i64 (IntKind.wrap .i64 ((0 : Int) + 1) + 1) + 1) + 1) + 1)).toNat []) (0 : Nat) [CK.any] = List.getD [[IV.bytes a], [IV.bytes b], [IV.bytes c], [IV.bytes d], [IV.bytes e], [IV.bytes f], [IV.bytes g]] (IntKind.wrap .i64 (IntKind.wrap .i64 (IntKind.wrap .i64 (IntKind.wrap .i64 (IntKind.wrap .i64 ((0 : Int) + 1) + 1) + 1) + 1) + 1)).toNat [] ∧ brn (decide (IntKind.wrap .i64 (IntKind.wrap .i64 (IntKind.wrap .i64 (IntKind.wrap .i64 (IntKind.wrap .i64 (IntKind.wrap .i64 ((0 : Int) + (a.length : Int)) + (b.length : Int)) + (c.length : Int)) + (d.length : Int)) + (e.length : Int)) + (f.length : Int)) < 0)) False ((0 : Int) ≤ IntKind.wrap .i64 (IntKind.wrap .i64 (IntKind.wrap .i64 (IntKind.wrap .i64 (IntKind.wrap .i64 (IntKind.wrap .i64 ((0 : Int) + 1) + 1) + 1) + 1) + 1) + 1) ∧ IntKind.wrap .i64 (IntKind.wrap .i64 (IntKind.wrap .i64 (IntKind.wrap .i64 (IntKind.wrap .i64 (IntKind.wrap .i64 ((0 : Int) + 1) + 1) + 1) + 1) + 1) + 1) < (↑(List.length [[IV.bytes a], [IV.bytes b], [IV.bytes c], [IV.bytes d], [IV.bytes e], [IV.bytes f], [IV.bytes g]]) : Int) ∧ kcells (List.getD [[IV.bytes a], [IV.bytes b], [IV.bytes c],
 [IV.bytes d], [IV.bytes e], [IV.bytes f], [IV.bytes g]] (IntKind.wrap .i64 (IntKind.wrap .i64 (IntKind.wrap .i64 (IntKind.wrap .i64 (IntKind.wrap .i64 (IntKind.wrap .i64 ((0 : Int) + 1) + 1) + 1) + 1) + 1) + 1)).toNat []) (0 : Nat) [CK.any] = List.getD [[IV.bytes a], [IV.bytes b], [IV.bytes c], [IV.bytes d], [IV.bytes e], [IV.bytes f], [IV.bytes g]] (IntKind.wrap .i64 (IntKind.wrap .i64 (IntKind.wrap .i64 (IntKind.wrap .i64 (IntKind.wrap .i64 (IntKind.wrap .i64 ((0 : Int) + 1) + 1) + 1) + 1) + 1) + 1)).toNat [] ∧ brn (decide (IntKind.wrap .i64 (IntKind.wrap .i64 (IntKind.wrap .i64 (IntKind.wrap .i64 (IntKind.wrap .i64 (IntKind.wrap .i64 (IntKind.wrap .i64 ((0 : Int) + (a.length : Int)) + (b.length : Int)) + (c.length : Int)) + (d.length : Int)) + (e.length : Int)) + (f.length : Int)) + (g.length : Int)) < 0)) False ((0 : Int) ≤ IntKind.wrap .i64 (IntKind.wrap .i64 (IntKind.wrap .i64 (IntKind.wrap .i64 (IntKind.wrap .i64 (IntKind.wrap .i64 (IntKind.wrap .i64 ((0 : Int) + (a.length : Int)) + (b.length : Int)) + (c.length : Int)) + (d.length : Int)) + (e.length : Int)) + (f.length : Int)) + (g.length : Int)) ∧ IntKind.wrap .i64 (IntKind.wrap .i64 (IntKind.wrap .i64 (IntKind.wrap .i64
 (IntKind.wrap .i64 (IntKind.wrap .i64 (IntKind.wrap .i64 ((0 : Int) + (a.length : Int)) + (b.length : Int)) + (c.length : Int)) + (d.length : Int)) + (e.length : Int)) + (f.length : Int)) + (g.length : Int)) ≤ 100000000000000 ∧ (0 : Int) ≤ 0 ∧ (0 : Int) < (↑(List.length [[IV.bytes a], [IV.bytes b], [IV.bytes c], [IV.bytes d], [IV.bytes e], [IV.bytes f], [IV.bytes g]]) : Int) ∧ kcells (List.getD [[IV.bytes a], [IV.bytes b], [IV.bytes c], [IV.bytes d], [IV.bytes e], [IV.bytes f], [IV.bytes g]] (0 : Int).toNat []) (0 : Nat) [CK.any] = List.getD [[IV.bytes a], [IV.bytes b], [IV.bytes c], [IV.bytes d], [IV.bytes e], [IV.bytes f], [IV.bytes g]] (0 : Int).toNat [] ∧ (([] : List UInt8).length + a.length) * 1 ≤ 140737488355328 ∧ ([] : List UInt8).length + a.length ≤ 140737488355328 ∧ (0 : Int) ≤ IntKind.wrap .i64 ((0 : Int) + 1) ∧ IntKind.wrap .i64 ((0 : Int) + 1) < (↑(List.length [[IV.bytes a], [IV.bytes b], [IV.bytes c], [IV.bytes d], [IV.bytes e], [IV.bytes f], [IV.bytes g]]) : Int) ∧ kcells (List.getD [[IV.bytes a], [IV.bytes b], [IV.bytes c], [IV.bytes d], [IV.bytes e], [IV.bytes f], [IV.bytes g]] (IntKind.wrap .i64 ((0 : Int) + 1)).toNat []) (0 : Nat) [CK.any] = List.getD [[IV.bytes
 a], [IV.bytes b], [IV.bytes c], [IV.bytes d], [IV.bytes e], [IV.bytes f], [IV.bytes g]] (IntKind.wrap .i64 ((0 : Int) + 1)).toNat [] ∧ (([] ++ a).length + b.length) * 1 ≤ 140737488355328 ∧ ([] ++ a).length + b.length ≤ 140737488355328 ∧ (0 : Int) ≤ IntKind.wrap .i64 (IntKind.wrap .i64 ((0 : Int) + 1) + 1) ∧ IntKind.wrap .i64 (IntKind.wrap .i64 ((0 : Int) + 1) + 1) < (↑(List.length [[IV.bytes a], [IV.bytes b], [IV.bytes c], [IV.bytes d], [IV.bytes e], [IV.bytes f], [IV.bytes g]]) : Int) ∧ kcells (List.getD [[IV.bytes a], [IV.bytes b], [IV.bytes c], [IV.bytes d], [IV.bytes e], [IV.bytes f], [IV.bytes g]] (IntKind.wrap .i64 (IntKind.wrap .i64 ((0 : Int) + 1) + 1)).toNat []) (0 : Nat) [CK.any] = List.getD [[IV.bytes a], [IV.bytes b], [IV.bytes c], [IV.bytes d], [IV.bytes e], [IV.bytes f], [IV.bytes g]] (IntKind.wrap .i64 (IntKind.wrap .i64 ((0 : Int) + 1) + 1)).toNat [] ∧ (([] ++ a ++ b).length + c.length) * 1 ≤ 140737488355328 ∧ ([] ++ a ++ b).length + c.length ≤ 140737488355328 ∧ (0 : Int) ≤ IntKind.wrap .i64 (IntKind.wrap .i64 (IntKind.wrap .i64 ((0 : Int) + 1) + 1) + 1) ∧ IntKind.wrap .i64 (IntKind.wrap .i64 (IntKind.wrap .i64 ((0 : Int) + 1) + 1) + 1) < (↑(List.length [[IV.bytes
 a], [IV.bytes b], [IV.bytes c], [IV.bytes d], [IV.bytes e], [IV.bytes f], [IV.bytes g]]) : Int) ∧ kcells (List.getD [[IV.bytes a], [IV.bytes b], [IV.bytes c], [IV.bytes d], [IV.bytes e], [IV.bytes f], [IV.bytes g]] (IntKind.wrap .i64 (IntKind.wrap .i64 (IntKind.wrap .i64 ((0 : Int) + 1) + 1) + 1)).toNat []) (0 : Nat) [CK.any] = List.getD [[IV.bytes a], [IV.bytes b], [IV.bytes c], [IV.bytes d], [IV.bytes e], [IV.bytes f], [IV.bytes g]] (IntKind.wrap .i64 (IntKind.wrap .i64 (IntKind.wrap .i64 ((0 : Int) + 1) + 1) + 1)).toNat [] ∧ (([] ++ a ++ b ++ c).length + d.length) * 1 ≤ 140737488355328 ∧ ([] ++ a ++ b ++ c).length + d.length ≤ 140737488355328 ∧ (0 : Int) ≤ IntKind.wrap .i64 (IntKind.wrap .i64 (IntKind.wrap .i64 (IntKind.wrap .i64 ((0 : Int) + 1) + 1) + 1) + 1) ∧ IntKind.wrap .i64 (IntKind.wrap .i64 (IntKind.wrap .i64 (IntKind.wrap .i64 ((0 : Int) + 1) + 1) + 1) + 1) < (↑(List.length [[IV.bytes a], [IV.bytes b], [IV.bytes c], [IV.bytes d], [IV.bytes e], [IV.bytes f], [IV.bytes g]]) : Int) ∧ kcells (List.getD [[IV.bytes a], [IV.bytes b], [IV.bytes c], [IV.bytes d], [IV.bytes e], [IV.bytes f], [IV.bytes g]] (IntKind.wrap .i64 (IntKind.wrap .i64 (IntKind.wrap .i64 (IntKind.wrap .i64
 ((0 : Int) + 1) + 1) + 1) + 1)).toNat []) (0 : Nat) [CK.any] = List.getD [[IV.bytes a], [IV.bytes b], [IV.bytes c], [IV.bytes d], [IV.bytes e], [IV.bytes f], [IV.bytes g]] (IntKind.wrap .i64 (IntKind.wrap .i64 (IntKind.wrap .i64 (IntKind.wrap .i64 ((0 : Int) + 1) + 1) + 1) + 1)).toNat [] ∧ (([] ++ a ++ b ++ c ++ d).length + e.length) * 1 ≤ 140737488355328 ∧ ([] ++ a ++ b ++ c ++ d).length + e.length ≤ 140737488355328 ∧ (0 : Int) ≤ IntKind.wrap .i64 (IntKind.wrap .i64 (IntKind.wrap .i64 (IntKind.wrap .i64 (IntKind.wrap .i64 ((0 : Int) + 1) + 1) + 1) + 1) + 1) ∧ IntKind.wrap .i64 (IntKind.wrap .i64 (IntKind.wrap .i64 (IntKind.wrap .i64 (IntKind.wrap .i64 ((0 : Int) + 1) + 1) + 1) + 1) + 1) < (↑(List.length [[IV.bytes a], [IV.bytes b], [IV.bytes c], [IV.bytes d], [IV.bytes e], [IV.bytes f], [IV.bytes g]]) : Int) ∧ kcells (List.getD [[IV.bytes a], [IV.bytes b], [IV.bytes c], [IV.bytes d], [IV.bytes e], [IV.bytes f], [IV.bytes g]] (IntKind.wrap .i64 (IntKind.wrap .i64 (IntKind.wrap .i64 (IntKind.wrap .i64 (IntKind.wrap .i64 ((0 : Int) + 1) + 1) + 1) + 1) + 1)).toNat []) (0 : Nat) [CK.any] = List.getD [[IV.bytes a], [IV.bytes b], [IV.bytes c], [IV.bytes d], [IV.bytes e], [IV.bytes f],
 [IV.bytes g]] (IntKind.wrap .i64 (IntKind.wrap .i64 (IntKind.wrap .i64 (IntKind.wrap .i64 (IntKind.wrap .i64 ((0 : Int) + 1) + 1) + 1) + 1) + 1)).toNat [] ∧ (([] ++ a ++ b ++ c ++ d ++ e).length + f.length) * 1 ≤ 140737488355328 ∧ ([] ++ a ++ b ++ c ++ d ++ e).length + f.length ≤ 140737488355328 ∧ (0 : Int) ≤ IntKind.wrap .i64 (IntKind.wrap .i64 (IntKind.wrap .i64 (IntKind.wrap .i64 (IntKind.wrap .i64 (IntKind.wrap .i64 ((0 : Int) + 1) + 1) + 1) + 1) + 1) + 1) ∧ IntKind.wrap .i64 (IntKind.wrap .i64 (IntKind.wrap .i64 (IntKind.wrap .i64 (IntKind.wrap .i64 (IntKind.wrap .i64 ((0 : Int) + 1) + 1) + 1) + 1) + 1) + 1) < (↑(List.length [[IV.bytes a], [IV.bytes b], [IV.bytes c], [IV.bytes d], [IV.bytes e], [IV.bytes f], [IV.bytes g]]) : Int) ∧ kcells (List.getD [[IV.bytes a], [IV.bytes b], [IV.bytes c], [IV.bytes d], [IV.bytes e], [IV.bytes f], [IV.bytes g]] (IntKind.wrap .i64 (IntKind.wrap .i64 (IntKind.wrap .i64 (IntKind.wrap .i64 (IntKind.wrap .i64 (IntKind.wrap .i64 ((0 : Int) + 1) + 1) + 1) + 1) + 1) + 1)).toNat []) (0 : Nat) [CK.any] = List.getD [[IV.bytes a], [IV.bytes b], [IV.bytes c], [IV.bytes d], [IV.bytes e], [IV.bytes f], [IV.bytes g]] (IntKind.wrap .i64 (IntKind.wrap .i64
 (IntKind.wrap .i64 (IntKind.wrap .i64 (IntKind.wrap .i64 (IntKind.wrap .i64 ((0 : Int) + 1) + 1) + 1) + 1) + 1) + 1)).toNat [] ∧ (([] ++ a ++ b ++ c ++ d ++ e ++ f).length + g.length) * 1 ≤ 140737488355328 ∧ ([] ++ a ++ b ++ c ++ d ++ e ++ f).length + g.length ≤ 140737488355328 ∧ K [AV.new (IV.bytes ([] ++ a ++ b ++ c ++ d ++ e ++ f ++ g))])))))))) := by kernel_rfl
end Z19
set_option maxRecDepth 100000
namespace Z19
open Go Go.AE Go.Proofs D6
attribute [local irreducible] loopK evCode evSpec loopB norm
theorem f42_lp (a : List Int) (b : List Int) (i : Nat) (k : AX → St → Prop) : evCode K0 (loopB (bodyOf Tryd.f42) (0 : Nat)) (hA (ii a) (ii b) i) k = (brn (decide ((↑i : Int) < (a.length : Int))) ((0 : Int) ≤ (↑i : Int) ∧ (↑i : Int) < (a.length : Int) ∧ (0 : Int) ≤ (↑i : Int) ∧ (↑i : Int) < (b.length : Int) ∧ brn (List.getD a (↑i : Int).toNat (0 : Int) != List.getD b (↑i : Int).toNat (0 : Int)) (k AX.ret (St.mk [.imm (.ints IntKind.i64 a), .imm (.ints IntKind.i64 b), .dead, .dead, .imm (.bool false), .imm (.int .i64 (↑i : Int)), .dead, .dead, .dead, .dead, .dead, .imm (.int .i64 (↑i : Int)), .imm (.ints IntKind.i64 a), .imm (.int .i64 (a.length : Int)), .imm (.bool (decide ((↑i : Int) < (a.length : Int)))), .dead, .dead, .imm (.ints IntKind.i64 a), .imm (.int .i64 (↑i : Int)), AV.elv [IV.int .i64 (List.getD a (↑i : Int).toNat (0 : Int))], .imm (.int .i64 (List.getD a (↑i : Int).toNat (0 : Int))), .imm (.ints IntKind.i64 b), .imm (.int .i64 (↑i : Int)), AV.elv [IV.int .i64 (List.getD b (↑i : Int).toNat (0 : Int))], .imm (.int .i64 (List.getD b (↑i : Int).toNat (0 : Int))), .imm (.bool (List.getD a (↑i : Int).toNat (0 : Int) != List.getD b (↑i : Int).toNat (0 : Int)))] [] (0 : Nat)
 [])) (k AX.normal (St.mk [.imm (.ints IntKind.i64 a), .imm (.ints IntKind.i64 b), .dead, .dead, .dead, .imm (.int .i64 (IntKind.wrap .i64 ((↑i : Int) + 1))), .dead, .dead, .dead, .dead, .dead, .imm (.int .i64 (↑i : Int)), .imm (.ints IntKind.i64 a), .imm (.int .i64 (a.length : Int)), .imm (.bool (decide ((↑i : Int) < (a.length : Int)))), .imm (.int .i64 (↑i : Int)), .imm (.int .i64 (IntKind.wrap .i64 ((↑i : Int) + 1))), .imm (.ints IntKind.i64 a), .imm (.int .i64 (↑i : Int)), AV.elv [IV.int .i64 (List.getD a (↑i : Int).toNat (0 : Int))], .imm (.int .i64 (List.getD a (↑i : Int).toNat (0 : Int))), .imm (.ints IntKind.i64 b), .imm (.int .i64 (↑i : Int)), AV.elv [IV.int .i64 (List.getD b (↑i : Int).toNat (0 : Int))], .imm (.int .i64 (List.getD b (↑i : Int).toNat (0 : Int))), .imm (.bool (List.getD a (↑i : Int).toNat (0 : Int) != List.getD b (↑i : Int).toNat (0 : Int)))] [] (0 : Nat) []))) (k (AX.exit (0 : Nat)) (St.mk [.imm (.ints IntKind.i64 a), .imm (.ints IntKind.i64 b), .dead, .dead, .dead, .imm (.int .i64 (↑i : Int)), .dead, .dead, .dead, .dead, .dead, .imm (.int .i64 (↑i : Int)), .imm (.ints IntKind.i64 a), .imm (.int .i64 (a.length : Int)), .imm (.bool (decide ((↑i : Int) <
 (a.length : Int)))), .dead, .dead, .dead, .dead, .dead, .dead, .dead, .dead, .dead, .dead, .dead] [] (0 : Nat) []))) := by kernel_rfl
theorem f44_lp (a : List (List IV)) (b : List (List IV)) (i : Nat) (k : AX → St → Prop) : evCode K0 (loopB (bodyOf Tryd.f44) (0 : Nat)) (hA (ll a) (ll b) i) k = (brn (decide ((↑i : Int) < (a.length : Int))) ((0 : Int) ≤ (↑i : Int) ∧ (↑i : Int) < (a.length : Int) ∧ kcells (List.getD a (↑i : Int).toNat []) (0 : Nat) (lapp [CK.int IntKind.i64] (lapp [CK.int IntKind.i32] [])) = List.getD a (↑i : Int).toNat [] ∧ (0 : Int) ≤ (↑i : Int) ∧ (↑i : Int) < (b.length : Int) ∧ kcells (List.getD b (↑i : Int).toNat []) (0 : Nat) (lapp [CK.int IntKind.i64] (lapp [CK.int IntKind.i32] [])) = List.getD b (↑i : Int).toNat [] ∧ brn (!(ivInt (ivNth (List.getD a (↑i : Int).toNat []) (0 : Nat)) == ivInt (ivNth (List.getD b (↑i : Int).toNat []) (0 : Nat)) && (ivInt (ivNth (List.getD a (↑i : Int).toNat []) ((0 : Nat) + 1)) == ivInt (ivNth (List.getD b (↑i : Int).toNat []) ((0 : Nat) + 1)) && true))) (k AX.ret (St.mk [.imm (.sl (2 : Nat) a), .imm (.sl (2 : Nat) b), .dead, .dead, .imm (.bool false), .imm (.int .i64 (↑i : Int)), .dead, .dead, .dead, .dead, .dead, .imm (.int .i64 (↑i : Int)), .imm (.sl (2 : Nat) a), .imm (.int .i64 (a.length : Int)), .imm (.bool (decide ((↑i : Int) < (a.length : Int)))), .dead,
 .dead, .imm (.sl (2 : Nat) a), .imm (.int .i64 (↑i : Int)), AV.elv [IV.int .i64 (ivInt (ivNth (List.getD a (↑i : Int).toNat []) (0 : Nat))), IV.int IntKind.i32 (ivInt (ivNth (List.getD a (↑i : Int).toNat []) ((0 : Nat) + 1)))], .agg [.imm (.int .i64 (ivInt (ivNth (List.getD a (↑i : Int).toNat []) (0 : Nat)))), .imm (.int IntKind.i32 (ivInt (ivNth (List.getD a (↑i : Int).toNat []) ((0 : Nat) + 1))))], .imm (.sl (2 : Nat) b), .imm (.int .i64 (↑i : Int)), AV.elv [IV.int .i64 (ivInt (ivNth (List.getD b (↑i : Int).toNat []) (0 : Nat))), IV.int IntKind.i32 (ivInt (ivNth (List.getD b (↑i : Int).toNat []) ((0 : Nat) + 1)))], .agg [.imm (.int .i64 (ivInt (ivNth (List.getD b (↑i : Int).toNat []) (0 : Nat)))), .imm (.int IntKind.i32 (ivInt (ivNth (List.getD b (↑i : Int).toNat []) ((0 : Nat) + 1))))], .imm (.bool !(ivInt (ivNth (List.getD a (↑i : Int).toNat []) (0 : Nat)) == ivInt (ivNth (List.getD b (↑i : Int).toNat []) (0 : Nat)) && (ivInt (ivNth (List.getD a (↑i : Int).toNat []) ((0 : Nat) + 1)) == ivInt (ivNth (List.getD b (↑i : Int).toNat []) ((0 : Nat) + 1)) && true)))] [] (0 : Nat) [])) (k AX.normal (St.mk [.imm (.sl (2 : Nat) a), .imm (.sl (2 : Nat) b), .dead, .dead, .dead, .imm (.int
 .i64 (IntKind.wrap .i64 ((↑i : Int) + 1))), .dead, .dead, .dead, .dead, .dead, .imm (.int .i64 (↑i : Int)), .imm (.sl (2 : Nat) a), .imm (.int .i64 (a.length : Int)), .imm (.bool (decide ((↑i : Int) < (a.length : Int)))), .imm (.int .i64 (↑i : Int)), .imm (.int .i64 (IntKind.wrap .i64 ((↑i : Int) + 1))), .imm (.sl (2 : Nat) a), .imm (.int .i64 (↑i : Int)), AV.elv [IV.int .i64 (ivInt (ivNth (List.getD a (↑i : Int).toNat []) (0 : Nat))), IV.int IntKind.i32 (ivInt (ivNth (List.getD a (↑i : Int).toNat []) ((0 : Nat) + 1)))], .agg [.imm (.int .i64 (ivInt (ivNth (List.getD a (↑i : Int).toNat []) (0 : Nat)))), .imm (.int IntKind.i32 (ivInt (ivNth (List.getD a (↑i : Int).toNat []) ((0 : Nat) + 1))))], .imm (.sl (2 : Nat) b), .imm (.int .i64 (↑i : Int)), AV.elv [IV.int .i64 (ivInt (ivNth (List.getD b (↑i : Int).toNat []) (0 : Nat))), IV.int IntKind.i32 (ivInt (ivNth (List.getD b (↑i : Int).toNat []) ((0 : Nat) + 1)))], .agg [.imm (.int .i64 (ivInt (ivNth (List.getD b (↑i : Int).toNat []) (0 : Nat)))), .imm (.int IntKind.i32 (ivInt (ivNth (List.getD b (↑i : Int).toNat []) ((0 : Nat) + 1))))], .imm (.bool !(ivInt (ivNth (List.getD a (↑i : Int).toNat []) (0 : Nat)) == ivInt (ivNth (List.getD b
 (↑i : Int).toNat []) (0 : Nat)) && (ivInt (ivNth (List.getD a (↑i : Int).toNat []) ((0 : Nat) + 1)) == ivInt (ivNth (List.getD b (↑i : Int).toNat []) ((0 : Nat) + 1)) && true)))] [] (0 : Nat) []))) (k (AX.exit (0 : Nat)) (St.mk [.imm (.sl (2 : Nat) a), .imm (.sl (2 : Nat) b), .dead, .dead, .dead, .imm (.int .i64 (↑i : Int)), .dead, .dead, .dead, .dead, .dead, .imm (.int .i64 (↑i : Int)), .imm (.sl (2 : Nat) a), .imm (.int .i64 (a.length : Int)), .imm (.bool (decide ((↑i : Int) < (a.length : Int)))), .dead, .dead, .dead, .dead, .dead, .dead, .dead, .dead, .dead, .dead, .dead] [] (0 : Nat) []))) := by kernel_rfl
theorem f45_lp (a : List Bool) (b : List Bool) (i : Nat) (k : AX → St → Prop) : evCode K0 (loopB (bodyOf Tryd.f45) (0 : Nat)) (hA (oo a) (oo b) i) k = (brn (decide ((↑i : Int) < (a.length : Int))) ((0 : Int) ≤ (↑i : Int) ∧ (↑i : Int) < (a.length : Int) ∧ (0 : Int) ≤ (↑i : Int) ∧ (↑i : Int) < (b.length : Int) ∧ brn (!List.getD a (↑i : Int).toNat false == List.getD b (↑i : Int).toNat false) (k AX.ret (St.mk [.imm (.bools a), .imm (.bools b), .dead, .dead, .imm (.bool false), .imm (.int .i64 (↑i : Int)), .dead, .dead, .dead, .dead, .dead, .imm (.int .i64 (↑i : Int)), .imm (.bools a), .imm (.int .i64 (a.length : Int)), .imm (.bool (decide ((↑i : Int) < (a.length : Int)))), .dead, .dead, .imm (.bools a), .imm (.int .i64 (↑i : Int)), AV.elv [IV.bool (List.getD a (↑i : Int).toNat false)], .imm (.bool (List.getD a (↑i : Int).toNat false)), .imm (.bools b), .imm (.int .i64 (↑i : Int)), AV.elv [IV.bool (List.getD b (↑i : Int).toNat false)], .imm (.bool (List.getD b (↑i : Int).toNat false)), .imm (.bool !List.getD a (↑i : Int).toNat false == List.getD b (↑i : Int).toNat false)] [] (0 : Nat) [])) (k AX.normal (St.mk [.imm (.bools a), .imm (.bools b), .dead, .dead, .dead, .imm (.int .i64
 (IntKind.wrap .i64 ((↑i : Int) + 1))), .dead, .dead, .dead, .dead, .dead, .imm (.int .i64 (↑i : Int)), .imm (.bools a), .imm (.int .i64 (a.length : Int)), .imm (.bool (decide ((↑i : Int) < (a.length : Int)))), .imm (.int .i64 (↑i : Int)), .imm (.int .i64 (IntKind.wrap .i64 ((↑i : Int) + 1))), .imm (.bools a), .imm (.int .i64 (↑i : Int)), AV.elv [IV.bool (List.getD a (↑i : Int).toNat false)], .imm (.bool (List.getD a (↑i : Int).toNat false)), .imm (.bools b), .imm (.int .i64 (↑i : Int)), AV.elv [IV.bool (List.getD b (↑i : Int).toNat false)], .imm (.bool (List.getD b (↑i : Int).toNat false)), .imm (.bool !List.getD a (↑i : Int).toNat false == List.getD b (↑i : Int).toNat false)] [] (0 : Nat) []))) (k (AX.exit (0 : Nat)) (St.mk [.imm (.bools a), .imm (.bools b), .dead, .dead, .dead, .imm (.int .i64 (↑i : Int)), .dead, .dead, .dead, .dead, .dead, .imm (.int .i64 (↑i : Int)), .imm (.bools a), .imm (.int .i64 (a.length : Int)), .imm (.bool (decide ((↑i : Int) < (a.length : Int)))), .dead, .dead, .dead, .dead, .dead, .dead, .dead, .dead, .dead, .dead, .dead] [] (0 : Nat) []))) := by kernel_rfl
theorem f46_lp (a : List Int) (b : List Int) (n : Nat) (i : Nat) (k : AX → St → Prop) : evCode K0 (loopB (bodyOf Tryd.f46) (0 : Nat)) (hB (ii a) (ii b) n i) k = (brn (decide ((↑i : Int) < (↑n : Int))) ((0 : Int) ≤ (↑i : Int) ∧ (↑i : Int) < (a.length : Int) ∧ (0 : Int) ≤ (↑i : Int) ∧ (↑i : Int) < (b.length : Int) ∧ brn (List.getD a (↑i : Int).toNat (0 : Int) != List.getD b (↑i : Int).toNat (0 : Int)) (k AX.ret (St.mk [.imm (.ints IntKind.i64 a), .imm (.ints IntKind.i64 b), .dead, .dead, .imm (.bool false), .imm (.int .i64 (↑i : Int)), .dead, .dead, .dead, .dead, .dead, .dead, .imm (.int .i64 (↑n : Int)), .imm (.int .i64 (↑i : Int)), .imm (.bool (decide ((↑i : Int) < (↑n : Int)))), .imm (.int .i64 (↑i : Int)), .imm (.ints IntKind.i64 a), .imm (.int .i64 (↑i : Int)), AV.elv [IV.int .i64 (List.getD a (↑i : Int).toNat (0 : Int))], .imm (.int .i64 (List.getD a (↑i : Int).toNat (0 : Int))), .imm (.ints IntKind.i64 b), .imm (.int .i64 (↑i : Int)), AV.elv [IV.int .i64 (List.getD b (↑i : Int).toNat (0 : Int))], .imm (.int .i64 (List.getD b (↑i : Int).toNat (0 : Int))), .imm (.bool (List.getD a (↑i : Int).toNat (0 : Int) != List.getD b (↑i : Int).toNat (0 : Int))), .dead] [] (0 : Nat) [])) (k
 AX.normal (St.mk [.imm (.ints IntKind.i64 a), .imm (.ints IntKind.i64 b), .dead, .dead, .dead, .imm (.int .i64 (↑i : Int)), .dead, .dead, .dead, .dead, .dead, .dead, .imm (.int .i64 (↑n : Int)), .imm (.int .i64 (IntKind.wrap .i64 ((↑i : Int) + 1))), .imm (.bool (decide ((↑i : Int) < (↑n : Int)))), .imm (.int .i64 (↑i : Int)), .imm (.ints IntKind.i64 a), .imm (.int .i64 (↑i : Int)), AV.elv [IV.int .i64 (List.getD a (↑i : Int).toNat (0 : Int))], .imm (.int .i64 (List.getD a (↑i : Int).toNat (0 : Int))), .imm (.ints IntKind.i64 b), .imm (.int .i64 (↑i : Int)), AV.elv [IV.int .i64 (List.getD b (↑i : Int).toNat (0 : Int))], .imm (.int .i64 (List.getD b (↑i : Int).toNat (0 : Int))), .imm (.bool (List.getD a (↑i : Int).toNat (0 : Int) != List.getD b (↑i : Int).toNat (0 : Int))), .imm (.int .i64 (IntKind.wrap .i64 ((↑i : Int) + 1)))] [] (0 : Nat) []))) (k (AX.exit (0 : Nat)) (St.mk [.imm (.ints IntKind.i64 a), .imm (.ints IntKind.i64 b), .dead, .dead, .dead, .dead, .dead, .dead, .dead, .dead, .dead, .dead, .imm (.int .i64 (↑n : Int)), .imm (.int .i64 (↑i : Int)), .imm (.bool (decide ((↑i : Int) < (↑n : Int)))), .dead, .dead, .dead, .dead, .dead, .dead, .dead, .dead, .dead, .dead, .dead] []
 (0 : Nat) []))) := by kernel_rfl
theorem f47_lp (a : List UInt8) (b : List UInt8) (n : Nat) (i : Nat) (k : AX → St → Prop) : evCode K0 (loopB (bodyOf Tryd.f47) (0 : Nat)) (hB (by' a) (by' b) n i) k = (brn (decide ((↑i : Int) < (↑n : Int))) ((0 : Int) ≤ (↑i : Int) ∧ (↑i : Int) < (a.length : Int) ∧ (0 : Int) ≤ (↑i : Int) ∧ (↑i : Int) < (b.length : Int) ∧ brn ((↑(UInt8.toNat (List.getD a (↑i : Int).toNat (0 : UInt8))) : Int) != (↑(UInt8.toNat (List.getD b (↑i : Int).toNat (0 : UInt8))) : Int)) (k AX.ret (St.mk [.imm (.bytes a), .imm (.bytes b), .dead, .dead, .imm (.bool false), .imm (.int .i64 (↑i : Int)), .dead, .dead, .dead, .dead, .dead, .dead, .imm (.int .i64 (↑n : Int)), .imm (.int .i64 (↑i : Int)), .imm (.bool (decide ((↑i : Int) < (↑n : Int)))), .imm (.int .i64 (↑i : Int)), .imm (.bytes a), .imm (.int .i64 (↑i : Int)), AV.elv [IV.int .u8 (↑(UInt8.toNat (List.getD a (↑i : Int).toNat (0 : UInt8))) : Int)], .imm (.int .u8 (↑(UInt8.toNat (List.getD a (↑i : Int).toNat (0 : UInt8))) : Int)), .imm (.bytes b), .imm (.int .i64 (↑i : Int)), AV.elv [IV.int .u8 (↑(UInt8.toNat (List.getD b (↑i : Int).toNat (0 : UInt8))) : Int)], .imm (.int .u8 (↑(UInt8.toNat (List.getD b (↑i : Int).toNat (0 : UInt8))) : Int)), .imm (.bool
 ((↑(UInt8.toNat (List.getD a (↑i : Int).toNat (0 : UInt8))) : Int) != (↑(UInt8.toNat (List.getD b (↑i : Int).toNat (0 : UInt8))) : Int))), .dead] [] (0 : Nat) [])) (k AX.normal (St.mk [.imm (.bytes a), .imm (.bytes b), .dead, .dead, .dead, .imm (.int .i64 (↑i : Int)), .dead, .dead, .dead, .dead, .dead, .dead, .imm (.int .i64 (↑n : Int)), .imm (.int .i64 (IntKind.wrap .i64 ((↑i : Int) + 1))), .imm (.bool (decide ((↑i : Int) < (↑n : Int)))), .imm (.int .i64 (↑i : Int)), .imm (.bytes a), .imm (.int .i64 (↑i : Int)), AV.elv [IV.int .u8 (↑(UInt8.toNat (List.getD a (↑i : Int).toNat (0 : UInt8))) : Int)], .imm (.int .u8 (↑(UInt8.toNat (List.getD a (↑i : Int).toNat (0 : UInt8))) : Int)), .imm (.bytes b), .imm (.int .i64 (↑i : Int)), AV.elv [IV.int .u8 (↑(UInt8.toNat (List.getD b (↑i : Int).toNat (0 : UInt8))) : Int)], .imm (.int .u8 (↑(UInt8.toNat (List.getD b (↑i : Int).toNat (0 : UInt8))) : Int)), .imm (.bool ((↑(UInt8.toNat (List.getD a (↑i : Int).toNat (0 : UInt8))) : Int) != (↑(UInt8.toNat (List.getD b (↑i : Int).toNat (0 : UInt8))) : Int))), .imm (.int .i64 (IntKind.wrap .i64 ((↑i : Int) + 1)))] [] (0 : Nat) []))) (k (AX.exit (0 : Nat)) (St.mk [.imm (.bytes a), .imm (.bytes b), .dead,
 .dead, .dead, .dead, .dead, .dead, .dead, .dead, .dead, .dead, .imm (.int .i64 (↑n : Int)), .imm (.int .i64 (↑i : Int)), .imm (.bool (decide ((↑i : Int) < (↑n : Int)))), .dead, .dead, .dead, .dead, .dead, .dead, .dead, .dead, .dead, .dead, .dead] [] (0 : Nat) []))) := by kernel_rfl
theorem f48_lp (a : List
  (List
    IV)) (b : List
  (List
    IV)) (n : Nat) (i : Nat) (k : AX →
  St → Prop) : evCode K0 (loopB (bodyOf Tryd.f48) (0 : Nat)) (hB (tl' a) (tl' b) n i) k =
  (brn (decide ((↑i : Int) < (↑n : Int))) ((0 : Int) ≤ (↑i : Int) ∧ (↑i : Int) < (↑(List.length a) : Int) ∧ kcells (List.getD a (Int.toNat (↑i : Int)) []) (0 : Nat) (lapp [CK.int IntKind.i32] (lapp [CK.bool] (lapp [CK.int IntKind.u8] []))) = List.getD a (Int.toNat (↑i : Int)) [] ∧ (0 : Int) ≤ (↑i : Int) ∧ (↑i : Int) < (↑(List.length b) : Int) ∧ kcells (List.getD b (Int.toNat (↑i : Int)) []) (0 : Nat) (lapp [CK.int IntKind.i32] (lapp [CK.bool] (lapp [CK.int IntKind.u8] []))) = List.getD b (Int.toNat (↑i : Int)) [] ∧ brn (!(ivInt (ivNth (List.getD a (Int.toNat (↑i : Int)) []) (0 : Nat)) == ivInt (ivNth (List.getD b (Int.toNat (↑i : Int)) []) (0 : Nat)) && (ivBool (ivNth (List.getD a (Int.toNat (↑i : Int)) []) ((0 : Nat) + (1 : Nat))) == ivBool (ivNth (List.getD b (Int.toNat (↑i : Int)) []) ((0 : Nat) + (1 : Nat))) && (ivInt (ivNth (List.getD a (Int.toNat (↑i : Int)) []) ((0 : Nat) + (1 : Nat) + (1 : Nat))) == ivInt (ivNth (List.getD b (Int.toNat (↑i : Int)) []) ((0 : Nat) + (1 : Nat) + (1
 : Nat))) && true)))) (k AX.ret (St.mk [AV.imm (IV.sl (3 : Nat) a), AV.imm (IV.sl (3 : Nat) b), AV.dead, AV.dead, AV.imm (IV.bool false), AV.imm (IV.int IntKind.i64 (↑i : Int)), AV.dead, AV.dead, AV.dead, AV.dead, AV.dead, AV.dead, AV.imm (IV.int IntKind.i64 (↑n : Int)), AV.imm (IV.int IntKind.i64 (↑i : Int)), AV.imm (IV.bool (decide ((↑i : Int) < (↑n : Int)))), AV.imm (IV.int IntKind.i64 (↑i : Int)), AV.imm (IV.sl (3 : Nat) a), AV.imm (IV.int IntKind.i64 (↑i : Int)), AV.elv [IV.int IntKind.i32 (ivInt (ivNth (List.getD a (Int.toNat (↑i : Int)) []) (0 : Nat))), IV.bool (ivBool (ivNth (List.getD a (Int.toNat (↑i : Int)) []) ((0 : Nat) + (1 : Nat)))), IV.int IntKind.u8 (ivInt (ivNth (List.getD a (Int.toNat (↑i : Int)) []) ((0 : Nat) + (1 : Nat) + (1 : Nat))))], AV.agg [AV.imm (IV.int IntKind.i32 (ivInt (ivNth (List.getD a (Int.toNat (↑i : Int)) []) (0 : Nat)))), AV.imm (IV.bool (ivBool (ivNth (List.getD a (Int.toNat (↑i : Int)) []) ((0 : Nat) + (1 : Nat))))), AV.imm (IV.int IntKind.u8
 (ivInt (ivNth (List.getD a (Int.toNat (↑i : Int)) []) ((0 : Nat) + (1 : Nat) + (1 : Nat)))))], AV.imm (IV.sl (3 : Nat) b), AV.imm (IV.int IntKind.i64 (↑i : Int)), AV.elv [IV.int IntKind.i32 (ivInt (ivNth (List.getD b (Int.toNat (↑i : Int)) []) (0 : Nat))), IV.bool (ivBool (ivNth (List.getD b (Int.toNat (↑i : Int)) []) ((0 : Nat) + (1 : Nat)))), IV.int IntKind.u8 (ivInt (ivNth (List.getD b (Int.toNat (↑i : Int)) []) ((0 : Nat) + (1 : Nat) + (1 : Nat))))], AV.agg [AV.imm (IV.int IntKind.i32 (ivInt (ivNth (List.getD b (Int.toNat (↑i : Int)) []) (0 : Nat)))), AV.imm (IV.bool (ivBool (ivNth (List.getD b (Int.toNat (↑i : Int)) []) ((0 : Nat) + (1 : Nat))))), AV.imm (IV.int IntKind.u8 (ivInt (ivNth (List.getD b (Int.toNat (↑i : Int)) []) ((0 : Nat) + (1 : Nat) + (1 : Nat)))))], AV.imm (IV.bool !(ivInt (ivNth (List.getD a (Int.toNat (↑i : Int)) []) (0 : Nat)) == ivInt (ivNth (List.getD b (Int.toNat (↑i : Int)) []) (0 : Nat)) && (ivBool (ivNth (List.getD a (Int.toNat (↑i : Int)) []) ((0 : Nat) +
 (1 : Nat))) == ivBool (ivNth (List.getD b (Int.toNat (↑i : Int)) []) ((0 : Nat) + (1 : Nat))) && (ivInt (ivNth (List.getD a (Int.toNat (↑i : Int)) []) ((0 : Nat) + (1 : Nat) + (1 : Nat))) == ivInt (ivNth (List.getD b (Int.toNat (↑i : Int)) []) ((0 : Nat) + (1 : Nat) + (1 : Nat))) && true)))), AV.dead] [] (0 : Nat) [])) (k AX.normal (St.mk [AV.imm (IV.sl (3 : Nat) a), AV.imm (IV.sl (3 : Nat) b), AV.dead, AV.dead, AV.dead, AV.imm (IV.int IntKind.i64 (↑i : Int)), AV.dead, AV.dead, AV.dead, AV.dead, AV.dead, AV.dead, AV.imm (IV.int IntKind.i64 (↑n : Int)), AV.imm (IV.int IntKind.i64 (IntKind.wrap IntKind.i64 ((↑i : Int) + (1 : Int)))), AV.imm (IV.bool (decide ((↑i : Int) < (↑n : Int)))), AV.imm (IV.int IntKind.i64 (↑i : Int)), AV.imm (IV.sl (3 : Nat) a), AV.imm (IV.int IntKind.i64 (↑i : Int)), AV.elv [IV.int IntKind.i32 (ivInt (ivNth (List.getD a (Int.toNat (↑i : Int)) []) (0 : Nat))), IV.bool (ivBool (ivNth (List.getD a (Int.toNat (↑i : Int)) []) ((0 : Nat) + (1 : Nat)))), IV.int
 IntKind.u8 (ivInt (ivNth (List.getD a (Int.toNat (↑i : Int)) []) ((0 : Nat) + (1 : Nat) + (1 : Nat))))], AV.agg [AV.imm (IV.int IntKind.i32 (ivInt (ivNth (List.getD a (Int.toNat (↑i : Int)) []) (0 : Nat)))), AV.imm (IV.bool (ivBool (ivNth (List.getD a (Int.toNat (↑i : Int)) []) ((0 : Nat) + (1 : Nat))))), AV.imm (IV.int IntKind.u8 (ivInt (ivNth (List.getD a (Int.toNat (↑i : Int)) []) ((0 : Nat) + (1 : Nat) + (1 : Nat)))))], AV.imm (IV.sl (3 : Nat) b), AV.imm (IV.int IntKind.i64 (↑i : Int)), AV.elv [IV.int IntKind.i32 (ivInt (ivNth (List.getD b (Int.toNat (↑i : Int)) []) (0 : Nat))), IV.bool (ivBool (ivNth (List.getD b (Int.toNat (↑i : Int)) []) ((0 : Nat) + (1 : Nat)))), IV.int IntKind.u8 (ivInt (ivNth (List.getD b (Int.toNat (↑i : Int)) []) ((0 : Nat) + (1 : Nat) + (1 : Nat))))], AV.agg [AV.imm (IV.int IntKind.i32 (ivInt (ivNth (List.getD b (Int.toNat (↑i : Int)) []) (0 : Nat)))), AV.imm (IV.bool (ivBool (ivNth (List.getD b (Int.toNat (↑i : Int)) []) ((0 : Nat) + (1 : Nat))))), AV.imm
 (IV.int IntKind.u8 (ivInt (ivNth (List.getD b (Int.toNat (↑i : Int)) []) ((0 : Nat) + (1 : Nat) + (1 : Nat)))))], AV.imm (IV.bool !(ivInt (ivNth (List.getD a (Int.toNat (↑i : Int)) []) (0 : Nat)) == ivInt (ivNth (List.getD b (Int.toNat (↑i : Int)) []) (0 : Nat)) && (ivBool (ivNth (List.getD a (Int.toNat (↑i : Int)) []) ((0 : Nat) + (1 : Nat))) == ivBool (ivNth (List.getD b (Int.toNat (↑i : Int)) []) ((0 : Nat) + (1 : Nat))) && (ivInt (ivNth (List.getD a (Int.toNat (↑i : Int)) []) ((0 : Nat) + (1 : Nat) + (1 : Nat))) == ivInt (ivNth (List.getD b (Int.toNat (↑i : Int)) []) ((0 : Nat) + (1 : Nat) + (1 : Nat))) && true)))), AV.imm (IV.int IntKind.i64 (IntKind.wrap IntKind.i64 ((↑i : Int) + (1 : Int))))] [] (0 : Nat) []))) (k (AX.exit (0 : Nat)) (St.mk [AV.imm (IV.sl (3 : Nat) a), AV.imm (IV.sl (3 : Nat) b), AV.dead, AV.dead, AV.dead, AV.dead, AV.dead, AV.dead, AV.dead, AV.dead, AV.dead, AV.dead, AV.imm (IV.int IntKind.i64 (↑n : Int)), AV.imm (IV.int IntKind.i64 (↑i : Int)), AV.imm (IV.bool
 (decide ((↑i : Int) < (↑n : Int)))), AV.dead, AV.dead, AV.dead, AV.dead, AV.dead, AV.dead, AV.dead, AV.dead, AV.dead, AV.dead, AV.dead] [] (0 : Nat) []))) := by kernel_rfl
theorem f49_lp (a : List (List IV)) (b : List (List IV)) (n : Nat) (i : Nat) (k : AX → St → Prop) : evCode K0 (loopB (bodyOf Tryd.f49) (0 : Nat)) (hB (ll a) (ll b) n i) k = (brn (decide ((↑i : Int) < (↑n : Int))) ((0 : Int) ≤ (↑i : Int) ∧ (↑i : Int) < (a.length : Int) ∧ kcells (List.getD a (↑i : Int).toNat []) (0 : Nat) (lapp [CK.int IntKind.i64] (lapp [CK.int IntKind.i32] [])) = List.getD a (↑i : Int).toNat [] ∧ (0 : Int) ≤ (↑i : Int) ∧ (↑i : Int) < (b.length : Int) ∧ kcells (List.getD b (↑i : Int).toNat []) (0 : Nat) (lapp [CK.int IntKind.i64] (lapp [CK.int IntKind.i32] [])) = List.getD b (↑i : Int).toNat [] ∧ brn (!(ivInt (ivNth (List.getD a (↑i : Int).toNat []) (0 : Nat)) == ivInt (ivNth (List.getD b (↑i : Int).toNat []) (0 : Nat)) && (ivInt (ivNth (List.getD a (↑i : Int).toNat []) ((0 : Nat) + 1)) == ivInt (ivNth (List.getD b (↑i : Int).toNat []) ((0 : Nat) + 1)) && true))) (k AX.ret (St.mk [.imm (.sl (2 : Nat) a), .imm (.sl (2 : Nat) b), .dead, .dead, .imm (.bool false), .imm (.int .i64 (↑i : Int)), .dead, .dead, .dead, .dead, .dead, .dead, .imm (.int .i64 (↑n : Int)), .imm (.int .i64 (↑i : Int)), .imm (.bool (decide ((↑i : Int) < (↑n : Int)))), .imm (.int .i64 (↑i : Int)),
 .imm (.sl (2 : Nat) a), .imm (.int .i64 (↑i : Int)), AV.elv [IV.int .i64 (ivInt (ivNth (List.getD a (↑i : Int).toNat []) (0 : Nat))), IV.int IntKind.i32 (ivInt (ivNth (List.getD a (↑i : Int).toNat []) ((0 : Nat) + 1)))], .agg [.imm (.int .i64 (ivInt (ivNth (List.getD a (↑i : Int).toNat []) (0 : Nat)))), .imm (.int IntKind.i32 (ivInt (ivNth (List.getD a (↑i : Int).toNat []) ((0 : Nat) + 1))))], .imm (.sl (2 : Nat) b), .imm (.int .i64 (↑i : Int)), AV.elv [IV.int .i64 (ivInt (ivNth (List.getD b (↑i : Int).toNat []) (0 : Nat))), IV.int IntKind.i32 (ivInt (ivNth (List.getD b (↑i : Int).toNat []) ((0 : Nat) + 1)))], .agg [.imm (.int .i64 (ivInt (ivNth (List.getD b (↑i : Int).toNat []) (0 : Nat)))), .imm (.int IntKind.i32 (ivInt (ivNth (List.getD b (↑i : Int).toNat []) ((0 : Nat) + 1))))], .imm (.bool !(ivInt (ivNth (List.getD a (↑i : Int).toNat []) (0 : Nat)) == ivInt (ivNth (List.getD b (↑i : Int).toNat []) (0 : Nat)) && (ivInt (ivNth (List.getD a (↑i : Int).toNat []) ((0 : Nat) + 1)) == ivInt (ivNth (List.getD b (↑i : Int).toNat []) ((0 : Nat) + 1)) && true))), .dead] [] (0 : Nat) [])) (k AX.normal (St.mk [.imm (.sl (2 : Nat) a), .imm (.sl (2 : Nat) b), .dead, .dead, .dead, .imm (.int
 .i64 (↑i : Int)), .dead, .dead, .dead, .dead, .dead, .dead, .imm (.int .i64 (↑n : Int)), .imm (.int .i64 (IntKind.wrap .i64 ((↑i : Int) + 1))), .imm (.bool (decide ((↑i : Int) < (↑n : Int)))), .imm (.int .i64 (↑i : Int)), .imm (.sl (2 : Nat) a), .imm (.int .i64 (↑i : Int)), AV.elv [IV.int .i64 (ivInt (ivNth (List.getD a (↑i : Int).toNat []) (0 : Nat))), IV.int IntKind.i32 (ivInt (ivNth (List.getD a (↑i : Int).toNat []) ((0 : Nat) + 1)))], .agg [.imm (.int .i64 (ivInt (ivNth (List.getD a (↑i : Int).toNat []) (0 : Nat)))), .imm (.int IntKind.i32 (ivInt (ivNth (List.getD a (↑i : Int).toNat []) ((0 : Nat) + 1))))], .imm (.sl (2 : Nat) b), .imm (.int .i64 (↑i : Int)), AV.elv [IV.int .i64 (ivInt (ivNth (List.getD b (↑i : Int).toNat []) (0 : Nat))), IV.int IntKind.i32 (ivInt (ivNth (List.getD b (↑i : Int).toNat []) ((0 : Nat) + 1)))], .agg [.imm (.int .i64 (ivInt (ivNth (List.getD b (↑i : Int).toNat []) (0 : Nat)))), .imm (.int IntKind.i32 (ivInt (ivNth (List.getD b (↑i : Int).toNat []) ((0 : Nat) + 1))))], .imm (.bool !(ivInt (ivNth (List.getD a (↑i : Int).toNat []) (0 : Nat)) == ivInt (ivNth (List.getD b (↑i : Int).toNat []) (0 : Nat)) && (ivInt (ivNth (List.getD a (↑i : Int).toNat [])
 ((0 : Nat) + 1)) == ivInt (ivNth (List.getD b (↑i : Int).toNat []) ((0 : Nat) + 1)) && true))), .imm (.int .i64 (IntKind.wrap .i64 ((↑i : Int) + 1)))] [] (0 : Nat) []))) (k (AX.exit (0 : Nat)) (St.mk [.imm (.sl (2 : Nat) a), .imm (.sl (2 : Nat) b), .dead, .dead, .dead, .dead, .dead, .dead, .dead, .dead, .dead, .dead, .imm (.int .i64 (↑n : Int)), .imm (.int .i64 (↑i : Int)), .imm (.bool (decide ((↑i : Int) < (↑n : Int)))), .dead, .dead, .dead, .dead, .dead, .dead, .dead, .dead, .dead, .dead, .dead] [] (0 : Nat) []))) := by kernel_rfl
theorem f50_lp (a : List Bool) (b : List Bool) (n : Nat) (i : Nat) (k : AX → St → Prop) : evCode K0 (loopB (bodyOf Tryd.f50) (0 : Nat)) (hB (oo a) (oo b) n i) k = (brn (decide ((↑i : Int) < (↑n : Int))) ((0 : Int) ≤ (↑i : Int) ∧ (↑i : Int) < (a.length : Int) ∧ (0 : Int) ≤ (↑i : Int) ∧ (↑i : Int) < (b.length : Int) ∧ brn (!List.getD a (↑i : Int).toNat false == List.getD b (↑i : Int).toNat false) (k AX.ret (St.mk [.imm (.bools a), .imm (.bools b), .dead, .dead, .imm (.bool false), .imm (.int .i64 (↑i : Int)), .dead, .dead, .dead, .dead, .dead, .dead, .imm (.int .i64 (↑n : Int)), .imm (.int .i64 (↑i : Int)), .imm (.bool (decide ((↑i : Int) < (↑n : Int)))), .imm (.int .i64 (↑i : Int)), .imm (.bools a), .imm (.int .i64 (↑i : Int)), AV.elv [IV.bool (List.getD a (↑i : Int).toNat false)], .imm (.bool (List.getD a (↑i : Int).toNat false)), .imm (.bools b), .imm (.int .i64 (↑i : Int)), AV.elv [IV.bool (List.getD b (↑i : Int).toNat false)], .imm (.bool (List.getD b (↑i : Int).toNat false)), .imm (.bool !List.getD a (↑i : Int).toNat false == List.getD b (↑i : Int).toNat false), .dead] [] (0 : Nat) [])) (k AX.normal (St.mk [.imm (.bools a), .imm (.bools b), .dead, .dead, .dead, .imm (.int .i64
 (↑i : Int)), .dead, .dead, .dead, .dead, .dead, .dead, .imm (.int .i64 (↑n : Int)), .imm (.int .i64 (IntKind.wrap .i64 ((↑i : Int) + 1))), .imm (.bool (decide ((↑i : Int) < (↑n : Int)))), .imm (.int .i64 (↑i : Int)), .imm (.bools a), .imm (.int .i64 (↑i : Int)), AV.elv [IV.bool (List.getD a (↑i : Int).toNat false)], .imm (.bool (List.getD a (↑i : Int).toNat false)), .imm (.bools b), .imm (.int .i64 (↑i : Int)), AV.elv [IV.bool (List.getD b (↑i : Int).toNat false)], .imm (.bool (List.getD b (↑i : Int).toNat false)), .imm (.bool !List.getD a (↑i : Int).toNat false == List.getD b (↑i : Int).toNat false), .imm (.int .i64 (IntKind.wrap .i64 ((↑i : Int) + 1)))] [] (0 : Nat) []))) (k (AX.exit (0 : Nat)) (St.mk [.imm (.bools a), .imm (.bools b), .dead, .dead, .dead, .dead, .dead, .dead, .dead, .dead, .dead, .dead, .imm (.int .i64 (↑n : Int)), .imm (.int .i64 (↑i : Int)), .imm (.bool (decide ((↑i : Int) < (↑n : Int)))), .dead, .dead, .dead, .dead, .dead, .dead, .dead, .dead, .dead, .dead, .dead] [] (0 : Nat) []))) := by kernel_rfl
theorem f33_lp (b : List UInt8) (s : Int) (l : List Int) (i : Int) (k : AX → St → Prop) : evCode K0 (loopB (bodyOf Tryd.f33) (0 : Nat)) (h33 b s l i) k = (brn (decide (IntKind.wrap .i64 (i + s) ≤ (b.length : Int))) ((b.length : Int) ≤ big ∧ (0 : Int) ≤ i ∧ i ≤ big ∧ (1 : Int) ≤ s ∧ s ≤ 8 ∧ (l.length + List.length [sgnN s.toNat (uintP b i.toNat s.toNat)]) * 8 ≤ 140737488355328 ∧ l.length + List.length [sgnN s.toNat (uintP b i.toNat s.toNat)] ≤ 140737488355328 ∧ k AX.normal (St.mk [.imm (.bytes b), .imm (.int .i64 s), .dead, .dead, .dead, AV.row (0 : Nat) (1 : Nat), .imm (.int .i64 (IntKind.wrap .i64 (i + s))), .imm (.int .i64 (sgnN s.toNat (uintP b i.toNat s.toNat))), .imm (.bool (okR b i.toNat s.toNat)), .imm (.int .i64 i), .imm (.int .i64 s), .imm (.int .i64 (IntKind.wrap .i64 (i + s))), .imm (.bytes b), .imm (.int .i64 (b.length : Int)), .imm (.bool (decide (IntKind.wrap .i64 (i + s) ≤ (b.length : Int)))), .imm (.int .i64 i), .imm (.int .i64 s), .imm (.int .i64 (IntKind.wrap .i64 (i + s))), .tup [.imm (.int .i64 (sgnN s.toNat (uintP b i.toNat s.toNat))), .imm (.bool (okR b i.toNat s.toNat))], .imm (.bytes b), .imm (.int .i64 i), .imm (.int .i64 s), .tup [.imm (.int .i64 (sgnN
 s.toNat (uintP b i.toNat s.toNat))), .imm (.bool (okR b i.toNat s.toNat))], .imm (.int .i64 (sgnN s.toNat (uintP b i.toNat s.toNat))), .imm (.bool (okR b i.toNat s.toNat)), AV.row (0 : Nat) (0 : Nat), .imm (.int .i64 (sgnN s.toNat (uintP b i.toNat s.toNat))), .full (IV.ints IntKind.i64 [sgnN s.toNat (uintP b i.toNat s.toNat)]), AV.row (0 : Nat) (1 : Nat), .dead] [(0, Ob.mk true 1 (AObj.row (IV.ints IntKind.i64 (l ++ [sgnN s.toNat (uintP b i.toNat s.toNat)]))))] (1 : Nat) [])) (k (AX.exit (0 : Nat)) (St.mk [.imm (.bytes b), .imm (.int .i64 s), .dead, .dead, .dead, AV.row (0 : Nat) (0 : Nat), .imm (.int .i64 i), .dead, .dead, .imm (.int .i64 i), .imm (.int .i64 s), .imm (.int .i64 (IntKind.wrap .i64 (i + s))), .imm (.bytes b), .imm (.int .i64 (b.length : Int)), .imm (.bool (decide (IntKind.wrap .i64 (i + s) ≤ (b.length : Int)))), .dead, .dead, .dead, .dead, .dead, .dead, .dead, .dead, .dead, .dead, .dead, .dead, .dead, .dead, .dead] [(0, Ob.mk true 0 (AObj.row (IV.ints IntKind.i64 l)))] (1 : Nat) []))) := by kernel_rfl
theorem f38_lp (b : List
  UInt8) (s : Int) (l : List
  Int) (i : Nat) (k : AX → St → Prop) : evCode K0 (loopB (bodyOf Tryd.f38) (0 : Nat)) (h38 b s l i) k =
  (s ≠ (0 : Int) ∧ brn (decide ((↑i : Int) < IntKind.wrap IntKind.i64 (Int.tdiv (↑(List.length b) : Int) s))) ((0 : Int) ≤ IntKind.wrap IntKind.i64 ((↑i : Int) * s) ∧ IntKind.wrap IntKind.i64 ((↑i : Int) * s) ≤ IntKind.wrap IntKind.i64 (IntKind.wrap IntKind.i64 ((↑i : Int) + (1 : Int)) * s) ∧ IntKind.wrap IntKind.i64 (IntKind.wrap IntKind.i64 ((↑i : Int) + (1 : Int)) * s) ≤ (↑(List.length b) : Int) ∧ (↑(List.length (List.take (Int.toNat (IntKind.wrap IntKind.i64 (IntKind.wrap IntKind.i64 ((↑i : Int) + (1 : Int)) * s)) - Int.toNat (IntKind.wrap IntKind.i64 ((↑i : Int) * s))) (List.drop (Int.toNat (IntKind.wrap IntKind.i64 ((↑i : Int) * s))) b))) : Int) ≤ big ∧ (0 : Int) ≤ (0 : Int) ∧ (0 : Int) ≤ big ∧ (1 : Int) ≤ s ∧ s ≤ (8 : Int) ∧ (List.length l + List.length [sgnN (Int.toNat s) (uintP (List.take (Int.toNat (IntKind.wrap IntKind.i64 (IntKind.wrap IntKind.i64 ((↑i : Int) + (1 : Int)) * s)) - Int.toNat (IntKind.wrap IntKind.i64 ((↑i : Int) * s))) (List.drop (Int.toNat (IntKind.wrap
 IntKind.i64 ((↑i : Int) * s))) b)) (Int.toNat (0 : Int)) (Int.toNat s))]) * (8 : Nat) ≤ (140737488355328 : Nat) ∧ List.length l + List.length [sgnN (Int.toNat s) (uintP (List.take (Int.toNat (IntKind.wrap IntKind.i64 (IntKind.wrap IntKind.i64 ((↑i : Int) + (1 : Int)) * s)) - Int.toNat (IntKind.wrap IntKind.i64 ((↑i : Int) * s))) (List.drop (Int.toNat (IntKind.wrap IntKind.i64 ((↑i : Int) * s))) b)) (Int.toNat (0 : Int)) (Int.toNat s))] ≤ (140737488355328 : Nat) ∧ k AX.normal (St.mk [AV.imm (IV.bytes b), AV.imm (IV.int IntKind.i64 s), AV.dead, AV.dead, AV.dead, AV.row (0 : Nat) (1 : Nat), AV.imm (IV.int IntKind.i64 (IntKind.wrap IntKind.i64 ((↑i : Int) + (1 : Int)))), AV.imm (IV.int IntKind.i64 (sgnN (Int.toNat s) (uintP (List.take (Int.toNat (IntKind.wrap IntKind.i64 (IntKind.wrap IntKind.i64 ((↑i : Int) + (1 : Int)) * s)) - Int.toNat (IntKind.wrap IntKind.i64 ((↑i : Int) * s))) (List.drop (Int.toNat (IntKind.wrap IntKind.i64 ((↑i : Int) * s))) b)) (Int.toNat (0 : Int)) (Int.toNat
 s)))), AV.imm (IV.bool (okR (List.take (Int.toNat (IntKind.wrap IntKind.i64 (IntKind.wrap IntKind.i64 ((↑i : Int) + (1 : Int)) * s)) - Int.toNat (IntKind.wrap IntKind.i64 ((↑i : Int) * s))) (List.drop (Int.toNat (IntKind.wrap IntKind.i64 ((↑i : Int) * s))) b)) (Int.toNat (0 : Int)) (Int.toNat s))), AV.imm (IV.int IntKind.i64 (↑i : Int)), AV.imm (IV.bytes b), AV.imm (IV.int IntKind.i64 (↑(List.length b) : Int)), AV.imm (IV.int IntKind.i64 s), AV.imm (IV.int IntKind.i64 (IntKind.wrap IntKind.i64 (Int.tdiv (↑(List.length b) : Int) s))), AV.imm (IV.bool (decide ((↑i : Int) < IntKind.wrap IntKind.i64 (Int.tdiv (↑(List.length b) : Int) s)))), AV.imm (IV.int IntKind.i64 (↑i : Int)), AV.imm (IV.int IntKind.i64 (IntKind.wrap IntKind.i64 ((↑i : Int) + (1 : Int)))), AV.tup [AV.imm (IV.int IntKind.i64 (sgnN (Int.toNat s) (uintP (List.take (Int.toNat (IntKind.wrap IntKind.i64 (IntKind.wrap IntKind.i64 ((↑i : Int) + (1 : Int)) * s)) - Int.toNat (IntKind.wrap IntKind.i64 ((↑i : Int) * s))) (List.drop
 (Int.toNat (IntKind.wrap IntKind.i64 ((↑i : Int) * s))) b)) (Int.toNat (0 : Int)) (Int.toNat s)))), AV.imm (IV.bool (okR (List.take (Int.toNat (IntKind.wrap IntKind.i64 (IntKind.wrap IntKind.i64 ((↑i : Int) + (1 : Int)) * s)) - Int.toNat (IntKind.wrap IntKind.i64 ((↑i : Int) * s))) (List.drop (Int.toNat (IntKind.wrap IntKind.i64 ((↑i : Int) * s))) b)) (Int.toNat (0 : Int)) (Int.toNat s)))], AV.imm (IV.bytes b), AV.imm (IV.int IntKind.i64 (↑i : Int)), AV.imm (IV.int IntKind.i64 s), AV.imm (IV.int IntKind.i64 (IntKind.wrap IntKind.i64 ((↑i : Int) * s))), AV.imm (IV.int IntKind.i64 (↑i : Int)), AV.imm (IV.int IntKind.i64 (IntKind.wrap IntKind.i64 ((↑i : Int) + (1 : Int)))), AV.imm (IV.int IntKind.i64 s), AV.imm (IV.int IntKind.i64 (IntKind.wrap IntKind.i64 (IntKind.wrap IntKind.i64 ((↑i : Int) + (1 : Int)) * s))), AV.imm (IV.bytes (List.take (Int.toNat (IntKind.wrap IntKind.i64 (IntKind.wrap IntKind.i64 ((↑i : Int) + (1 : Int)) * s)) - Int.toNat (IntKind.wrap IntKind.i64 ((↑i : Int) * s)))
 (List.drop (Int.toNat (IntKind.wrap IntKind.i64 ((↑i : Int) * s))) b))), AV.imm (IV.int IntKind.i64 s), AV.tup [AV.imm (IV.int IntKind.i64 (sgnN (Int.toNat s) (uintP (List.take (Int.toNat (IntKind.wrap IntKind.i64 (IntKind.wrap IntKind.i64 ((↑i : Int) + (1 : Int)) * s)) - Int.toNat (IntKind.wrap IntKind.i64 ((↑i : Int) * s))) (List.drop (Int.toNat (IntKind.wrap IntKind.i64 ((↑i : Int) * s))) b)) (Int.toNat (0 : Int)) (Int.toNat s)))), AV.imm (IV.bool (okR (List.take (Int.toNat (IntKind.wrap IntKind.i64 (IntKind.wrap IntKind.i64 ((↑i : Int) + (1 : Int)) * s)) - Int.toNat (IntKind.wrap IntKind.i64 ((↑i : Int) * s))) (List.drop (Int.toNat (IntKind.wrap IntKind.i64 ((↑i : Int) * s))) b)) (Int.toNat (0 : Int)) (Int.toNat s)))], AV.imm (IV.int IntKind.i64 (sgnN (Int.toNat s) (uintP (List.take (Int.toNat (IntKind.wrap IntKind.i64 (IntKind.wrap IntKind.i64 ((↑i : Int) + (1 : Int)) * s)) - Int.toNat (IntKind.wrap IntKind.i64 ((↑i : Int) * s))) (List.drop (Int.toNat (IntKind.wrap IntKind.i64 ((↑i
 : Int) * s))) b)) (Int.toNat (0 : Int)) (Int.toNat s)))), AV.imm (IV.bool (okR (List.take (Int.toNat (IntKind.wrap IntKind.i64 (IntKind.wrap IntKind.i64 ((↑i : Int) + (1 : Int)) * s)) - Int.toNat (IntKind.wrap IntKind.i64 ((↑i : Int) * s))) (List.drop (Int.toNat (IntKind.wrap IntKind.i64 ((↑i : Int) * s))) b)) (Int.toNat (0 : Int)) (Int.toNat s))), AV.row (0 : Nat) (0 : Nat), AV.imm (IV.int IntKind.i64 (sgnN (Int.toNat s) (uintP (List.take (Int.toNat (IntKind.wrap IntKind.i64 (IntKind.wrap IntKind.i64 ((↑i : Int) + (1 : Int)) * s)) - Int.toNat (IntKind.wrap IntKind.i64 ((↑i : Int) * s))) (List.drop (Int.toNat (IntKind.wrap IntKind.i64 ((↑i : Int) * s))) b)) (Int.toNat (0 : Int)) (Int.toNat s)))), AV.full (IV.ints IntKind.i64 [sgnN (Int.toNat s) (uintP (List.take (Int.toNat (IntKind.wrap IntKind.i64 (IntKind.wrap IntKind.i64 ((↑i : Int) + (1 : Int)) * s)) - Int.toNat (IntKind.wrap IntKind.i64 ((↑i : Int) * s))) (List.drop (Int.toNat (IntKind.wrap IntKind.i64 ((↑i : Int) * s))) b))
 (Int.toNat (0 : Int)) (Int.toNat s))]), AV.row (0 : Nat) (1 : Nat), AV.dead] [((0 : Nat), Ob.mk true (1 : Nat) (AObj.row (IV.ints IntKind.i64 (l ++ [sgnN (Int.toNat s) (uintP (List.take (Int.toNat (IntKind.wrap IntKind.i64 (IntKind.wrap IntKind.i64 ((↑i : Int) + (1 : Int)) * s)) - Int.toNat (IntKind.wrap IntKind.i64 ((↑i : Int) * s))) (List.drop (Int.toNat (IntKind.wrap IntKind.i64 ((↑i : Int) * s))) b)) (Int.toNat (0 : Int)) (Int.toNat s))]))))] (1 : Nat) [])) (k (AX.exit (0 : Nat)) (St.mk [AV.imm (IV.bytes b), AV.imm (IV.int IntKind.i64 s), AV.dead, AV.dead, AV.dead, AV.row (0 : Nat) (0 : Nat), AV.imm (IV.int IntKind.i64 (↑i : Int)), AV.dead, AV.dead, AV.imm (IV.int IntKind.i64 (↑i : Int)), AV.imm (IV.bytes b), AV.imm (IV.int IntKind.i64 (↑(List.length b) : Int)), AV.imm (IV.int IntKind.i64 s), AV.imm (IV.int IntKind.i64 (IntKind.wrap IntKind.i64 (Int.tdiv (↑(List.length b) : Int) s))), AV.imm (IV.bool (decide ((↑i : Int) < IntKind.wrap IntKind.i64 (Int.tdiv (↑(List.length b) : Int)
 s)))), AV.dead, AV.dead, AV.dead, AV.dead, AV.dead, AV.dead, AV.dead, AV.dead, AV.dead, AV.dead, AV.dead, AV.dead, AV.dead, AV.dead, AV.dead, AV.dead, AV.dead, AV.dead, AV.dead, AV.dead, AV.dead] [((0 : Nat), Ob.mk true (0 : Nat) (AObj.row (IV.ints IntKind.i64 l)))] (1 : Nat) []))) := by kernel_rfl
theorem f34_lp (b : List UInt8) (s : Int) (l : List Lp) (i : Int) (k : AX → St → Prop) : evCode K0 (loopB (bodyOf Tryd.f34) (0 : Nat)) (h34 b s l i) k = (brn (decide (IntKind.wrap .i64 (IntKind.wrap .i64 (i + s) + 4) ≤ (b.length : Int))) ((b.length : Int) ≤ big ∧ (0 : Int) ≤ i ∧ i ≤ big ∧ (1 : Int) ≤ s ∧ s ≤ 8 ∧ (b.length : Int) ≤ big ∧ (0 : Int) ≤ IntKind.wrap .i64 (i + s) ∧ IntKind.wrap .i64 (i + s) ≤ big ∧ (1 : Int) ≤ 4 ∧ (4 : Int) ≤ 8 ∧ ((List.map cellsL l).length + List.length [[IV.int .i64 (sgnN s.toNat (uintP b i.toNat s.toNat)), IV.int IntKind.i32 (IntKind.wrap IntKind.i32 (sgnN (4 : Int).toNat (uintP b (IntKind.wrap .i64 (i + s)).toNat (4 : Int).toNat)))]]) * 16 ≤ 140737488355328 ∧ (List.map cellsL l).length + List.length [[IV.int .i64 (sgnN s.toNat (uintP b i.toNat s.toNat)), IV.int IntKind.i32 (IntKind.wrap IntKind.i32 (sgnN (4 : Int).toNat (uintP b (IntKind.wrap .i64 (i + s)).toNat (4 : Int).toNat)))]] ≤ 140737488355328 ∧ k AX.normal (St.mk [.imm (.bytes b), .imm (.int .i64 s), .dead, .dead, .dead, AV.row (0 : Nat) (1 : Nat), .imm (.int .i64 (IntKind.wrap .i64 (i + IntKind.wrap .i64 (s + 4)))), .imm (.int .i64 (sgnN s.toNat (uintP b i.toNat s.toNat))), .imm (.bool (okR b
 i.toNat s.toNat)), .imm (.int .i64 (sgnN (4 : Int).toNat (uintP b (IntKind.wrap .i64 (i + s)).toNat (4 : Int).toNat))), .imm (.bool (okR b (IntKind.wrap .i64 (i + s)).toNat (4 : Int).toNat)), .imm (.int .i64 i), .imm (.int .i64 s), .imm (.int .i64 (IntKind.wrap .i64 (i + s))), .imm (.int .i64 (IntKind.wrap .i64 (IntKind.wrap .i64 (i + s) + 4))), .imm (.bytes b), .imm (.int .i64 (b.length : Int)), .imm (.bool (decide (IntKind.wrap .i64 (IntKind.wrap .i64 (i + s) + 4) ≤ (b.length : Int)))), .imm (.int .i64 i), .imm (.int .i64 s), .imm (.int .i64 (IntKind.wrap .i64 (s + 4))), .imm (.int .i64 (IntKind.wrap .i64 (i + IntKind.wrap .i64 (s + 4)))), .tup [.imm (.int .i64 (sgnN s.toNat (uintP b i.toNat s.toNat))), .imm (.bool (okR b i.toNat s.toNat))], .imm (.bytes b), .imm (.int .i64 i), .imm (.int .i64 s), .tup [.imm (.int .i64 (sgnN s.toNat (uintP b i.toNat s.toNat))), .imm (.bool (okR b i.toNat s.toNat))], .imm (.int .i64 (sgnN s.toNat (uintP b i.toNat s.toNat))), .imm (.bool (okR b i.toNat s.toNat)), .tup [.imm (.int .i64 (sgnN (4 : Int).toNat (uintP b (IntKind.wrap .i64 (i + s)).toNat (4 : Int).toNat))), .imm (.bool (okR b (IntKind.wrap .i64 (i + s)).toNat (4 : Int).toNat))], .imm
 (.bytes b), .imm (.int .i64 i), .imm (.int .i64 s), .imm (.int .i64 (IntKind.wrap .i64 (i + s))), .tup [.imm (.int .i64 (sgnN (4 : Int).toNat (uintP b (IntKind.wrap .i64 (i + s)).toNat (4 : Int).toNat))), .imm (.bool (okR b (IntKind.wrap .i64 (i + s)).toNat (4 : Int).toNat))], .imm (.int .i64 (sgnN (4 : Int).toNat (uintP b (IntKind.wrap .i64 (i + s)).toNat (4 : Int).toNat))), .imm (.bool (okR b (IntKind.wrap .i64 (i + s)).toNat (4 : Int).toNat)), AV.row (0 : Nat) (0 : Nat), .imm (.int .i64 (sgnN s.toNat (uintP b i.toNat s.toNat))), .imm (.int .i64 (sgnN (4 : Int).toNat (uintP b (IntKind.wrap .i64 (i + s)).toNat (4 : Int).toNat))), .imm (.int IntKind.i32 (IntKind.wrap IntKind.i32 (sgnN (4 : Int).toNat (uintP b (IntKind.wrap .i64 (i + s)).toNat (4 : Int).toNat)))), .agg [.imm (.int .i64 (sgnN s.toNat (uintP b i.toNat s.toNat))), .imm (.int IntKind.i32 (IntKind.wrap IntKind.i32 (sgnN (4 : Int).toNat (uintP b (IntKind.wrap .i64 (i + s)).toNat (4 : Int).toNat))))], .full (IV.sl (2 : Nat) [[IV.int .i64 (sgnN s.toNat (uintP b i.toNat s.toNat)), IV.int IntKind.i32 (IntKind.wrap IntKind.i32 (sgnN (4 : Int).toNat (uintP b (IntKind.wrap .i64 (i + s)).toNat (4 : Int).toNat)))]]), AV.row (0 :
 Nat) (1 : Nat), .dead] [(0, Ob.mk true 1 (AObj.row (IV.sl (2 : Nat) (List.map cellsL l ++ [[IV.int .i64 (sgnN s.toNat (uintP b i.toNat s.toNat)), IV.int IntKind.i32 (IntKind.wrap IntKind.i32 (sgnN (4 : Int).toNat (uintP b (IntKind.wrap .i64 (i + s)).toNat (4 : Int).toNat)))]]))))] (1 : Nat) [])) (k (AX.exit (0 : Nat)) (St.mk [.imm (.bytes b), .imm (.int .i64 s), .dead, .dead, .dead, AV.row (0 : Nat) (0 : Nat), .imm (.int .i64 i), .dead, .dead, .dead, .dead, .imm (.int .i64 i), .imm (.int .i64 s), .imm (.int .i64 (IntKind.wrap .i64 (i + s))), .imm (.int .i64 (IntKind.wrap .i64 (IntKind.wrap .i64 (i + s) + 4))), .imm (.bytes b), .imm (.int .i64 (b.length : Int)), .imm (.bool (decide (IntKind.wrap .i64 (IntKind.wrap .i64 (i + s) + 4) ≤ (b.length : Int)))), .dead, .dead, .dead, .dead, .dead, .dead, .dead, .dead, .dead, .dead, .dead, .dead, .dead, .dead, .dead, .dead, .dead, .dead, .dead, .dead, .dead, .dead, .dead, .dead, .dead, .dead, .dead] [(0, Ob.mk true 0 (AObj.row (IV.sl (2 : Nat) (List.map cellsL l))))] (1 : Nat) []))) := by kernel_rfl
theorem f40_lp (b : List
  UInt8) (s : Int) (n : Int) (l : List
  Lp) (i : Nat) (k : AX → St → Prop) : evCode K0 (loopB (bodyOf Tryd.f40) (0 : Nat)) (h40 b s n l i) k =
  (n ≠ (0 : Int) ∧ brn (decide ((↑i : Int) < IntKind.wrap IntKind.i64 (Int.tdiv (↑(List.length b) : Int) n))) ((↑(List.length b) : Int) ≤ big ∧ (0 : Int) ≤ IntKind.wrap IntKind.i64 ((↑i : Int) * n) ∧ IntKind.wrap IntKind.i64 ((↑i : Int) * n) ≤ big ∧ (1 : Int) ≤ s ∧ s ≤ (8 : Int) ∧ (↑(List.length b) : Int) ≤ big ∧ (0 : Int) ≤ IntKind.wrap IntKind.i64 (IntKind.wrap IntKind.i64 ((↑i : Int) * n) + s) ∧ IntKind.wrap IntKind.i64 (IntKind.wrap IntKind.i64 ((↑i : Int) * n) + s) ≤ big ∧ (1 : Int) ≤ (4 : Int) ∧ (4 : Int) ≤ (8 : Int) ∧ (List.length (List.map cellsL l) + List.length [[IV.int IntKind.i64 (sgnN (Int.toNat s) (uintP b (Int.toNat (IntKind.wrap IntKind.i64 ((↑i : Int) * n))) (Int.toNat s))), IV.int IntKind.i32 (IntKind.wrap IntKind.i32 (sgnN (Int.toNat (4 : Int)) (uintP b (Int.toNat (IntKind.wrap IntKind.i64 (IntKind.wrap IntKind.i64 ((↑i : Int) * n) + s))) (Int.toNat (4 : Int)))))]]) * (16 : Nat) ≤ (140737488355328 : Nat) ∧ List.length (List.map cellsL l) + List.length [[IV.int
 IntKind.i64 (sgnN (Int.toNat s) (uintP b (Int.toNat (IntKind.wrap IntKind.i64 ((↑i : Int) * n))) (Int.toNat s))), IV.int IntKind.i32 (IntKind.wrap IntKind.i32 (sgnN (Int.toNat (4 : Int)) (uintP b (Int.toNat (IntKind.wrap IntKind.i64 (IntKind.wrap IntKind.i64 ((↑i : Int) * n) + s))) (Int.toNat (4 : Int)))))]] ≤ (140737488355328 : Nat) ∧ k AX.normal (St.mk [AV.imm (IV.bytes b), AV.imm (IV.int IntKind.i64 s), AV.dead, AV.dead, AV.dead, AV.row (0 : Nat) (1 : Nat), AV.imm (IV.int IntKind.i64 n), AV.imm (IV.int IntKind.i64 (IntKind.wrap IntKind.i64 ((↑i : Int) + (1 : Int)))), AV.imm (IV.int IntKind.i64 (sgnN (Int.toNat s) (uintP b (Int.toNat (IntKind.wrap IntKind.i64 ((↑i : Int) * n))) (Int.toNat s)))), AV.imm (IV.bool (okR b (Int.toNat (IntKind.wrap IntKind.i64 ((↑i : Int) * n))) (Int.toNat s))), AV.imm (IV.int IntKind.i64 (sgnN (Int.toNat (4 : Int)) (uintP b (Int.toNat (IntKind.wrap IntKind.i64 (IntKind.wrap IntKind.i64 ((↑i : Int) * n) + s))) (Int.toNat (4 : Int))))), AV.imm (IV.bool (okR
 b (Int.toNat (IntKind.wrap IntKind.i64 (IntKind.wrap IntKind.i64 ((↑i : Int) * n) + s))) (Int.toNat (4 : Int)))), AV.dead, AV.dead, AV.imm (IV.int IntKind.i64 (↑i : Int)), AV.imm (IV.bytes b), AV.imm (IV.int IntKind.i64 (↑(List.length b) : Int)), AV.imm (IV.int IntKind.i64 n), AV.imm (IV.int IntKind.i64 (IntKind.wrap IntKind.i64 (Int.tdiv (↑(List.length b) : Int) n))), AV.imm (IV.bool (decide ((↑i : Int) < IntKind.wrap IntKind.i64 (Int.tdiv (↑(List.length b) : Int) n)))), AV.imm (IV.int IntKind.i64 (↑i : Int)), AV.imm (IV.int IntKind.i64 (IntKind.wrap IntKind.i64 ((↑i : Int) + (1 : Int)))), AV.tup [AV.imm (IV.int IntKind.i64 (sgnN (Int.toNat s) (uintP b (Int.toNat (IntKind.wrap IntKind.i64 ((↑i : Int) * n))) (Int.toNat s)))), AV.imm (IV.bool (okR b (Int.toNat (IntKind.wrap IntKind.i64 ((↑i : Int) * n))) (Int.toNat s)))], AV.imm (IV.bytes b), AV.imm (IV.int IntKind.i64 (↑i : Int)), AV.imm (IV.int IntKind.i64 n), AV.imm (IV.int IntKind.i64 (IntKind.wrap IntKind.i64 ((↑i : Int) * n))),
 AV.imm (IV.int IntKind.i64 s), AV.tup [AV.imm (IV.int IntKind.i64 (sgnN (Int.toNat s) (uintP b (Int.toNat (IntKind.wrap IntKind.i64 ((↑i : Int) * n))) (Int.toNat s)))), AV.imm (IV.bool (okR b (Int.toNat (IntKind.wrap IntKind.i64 ((↑i : Int) * n))) (Int.toNat s)))], AV.imm (IV.int IntKind.i64 (sgnN (Int.toNat s) (uintP b (Int.toNat (IntKind.wrap IntKind.i64 ((↑i : Int) * n))) (Int.toNat s)))), AV.imm (IV.bool (okR b (Int.toNat (IntKind.wrap IntKind.i64 ((↑i : Int) * n))) (Int.toNat s))), AV.tup [AV.imm (IV.int IntKind.i64 (sgnN (Int.toNat (4 : Int)) (uintP b (Int.toNat (IntKind.wrap IntKind.i64 (IntKind.wrap IntKind.i64 ((↑i : Int) * n) + s))) (Int.toNat (4 : Int))))), AV.imm (IV.bool (okR b (Int.toNat (IntKind.wrap IntKind.i64 (IntKind.wrap IntKind.i64 ((↑i : Int) * n) + s))) (Int.toNat (4 : Int))))], AV.imm (IV.bytes b), AV.imm (IV.int IntKind.i64 (↑i : Int)), AV.imm (IV.int IntKind.i64 n), AV.imm (IV.int IntKind.i64 (IntKind.wrap IntKind.i64 ((↑i : Int) * n))), AV.imm (IV.int
 IntKind.i64 s), AV.imm (IV.int IntKind.i64 (IntKind.wrap IntKind.i64 (IntKind.wrap IntKind.i64 ((↑i : Int) * n) + s))), AV.tup [AV.imm (IV.int IntKind.i64 (sgnN (Int.toNat (4 : Int)) (uintP b (Int.toNat (IntKind.wrap IntKind.i64 (IntKind.wrap IntKind.i64 ((↑i : Int) * n) + s))) (Int.toNat (4 : Int))))), AV.imm (IV.bool (okR b (Int.toNat (IntKind.wrap IntKind.i64 (IntKind.wrap IntKind.i64 ((↑i : Int) * n) + s))) (Int.toNat (4 : Int))))], AV.imm (IV.int IntKind.i64 (sgnN (Int.toNat (4 : Int)) (uintP b (Int.toNat (IntKind.wrap IntKind.i64 (IntKind.wrap IntKind.i64 ((↑i : Int) * n) + s))) (Int.toNat (4 : Int))))), AV.imm (IV.bool (okR b (Int.toNat (IntKind.wrap IntKind.i64 (IntKind.wrap IntKind.i64 ((↑i : Int) * n) + s))) (Int.toNat (4 : Int)))), AV.row (0 : Nat) (0 : Nat), AV.imm (IV.int IntKind.i64 (sgnN (Int.toNat s) (uintP b (Int.toNat (IntKind.wrap IntKind.i64 ((↑i : Int) * n))) (Int.toNat s)))), AV.imm (IV.int IntKind.i64 (sgnN (Int.toNat (4 : Int)) (uintP b (Int.toNat (IntKind.wrap
 IntKind.i64 (IntKind.wrap IntKind.i64 ((↑i : Int) * n) + s))) (Int.toNat (4 : Int))))), AV.imm (IV.int IntKind.i32 (IntKind.wrap IntKind.i32 (sgnN (Int.toNat (4 : Int)) (uintP b (Int.toNat (IntKind.wrap IntKind.i64 (IntKind.wrap IntKind.i64 ((↑i : Int) * n) + s))) (Int.toNat (4 : Int)))))), AV.agg [AV.imm (IV.int IntKind.i64 (sgnN (Int.toNat s) (uintP b (Int.toNat (IntKind.wrap IntKind.i64 ((↑i : Int) * n))) (Int.toNat s)))), AV.imm (IV.int IntKind.i32 (IntKind.wrap IntKind.i32 (sgnN (Int.toNat (4 : Int)) (uintP b (Int.toNat (IntKind.wrap IntKind.i64 (IntKind.wrap IntKind.i64 ((↑i : Int) * n) + s))) (Int.toNat (4 : Int))))))], AV.full (IV.sl (2 : Nat) [[IV.int IntKind.i64 (sgnN (Int.toNat s) (uintP b (Int.toNat (IntKind.wrap IntKind.i64 ((↑i : Int) * n))) (Int.toNat s))), IV.int IntKind.i32 (IntKind.wrap IntKind.i32 (sgnN (Int.toNat (4 : Int)) (uintP b (Int.toNat (IntKind.wrap IntKind.i64 (IntKind.wrap IntKind.i64 ((↑i : Int) * n) + s))) (Int.toNat (4 : Int)))))]]), AV.row (0 : Nat) (1
 : Nat), AV.dead] [((0 : Nat), Ob.mk true (1 : Nat) (AObj.row (IV.sl (2 : Nat) (List.map cellsL l ++ [[IV.int IntKind.i64 (sgnN (Int.toNat s) (uintP b (Int.toNat (IntKind.wrap IntKind.i64 ((↑i : Int) * n))) (Int.toNat s))), IV.int IntKind.i32 (IntKind.wrap IntKind.i32 (sgnN (Int.toNat (4 : Int)) (uintP b (Int.toNat (IntKind.wrap IntKind.i64 (IntKind.wrap IntKind.i64 ((↑i : Int) * n) + s))) (Int.toNat (4 : Int)))))]]))))] (1 : Nat) [])) (k (AX.exit (0 : Nat)) (St.mk [AV.imm (IV.bytes b), AV.imm (IV.int IntKind.i64 s), AV.dead, AV.dead, AV.dead, AV.row (0 : Nat) (0 : Nat), AV.imm (IV.int IntKind.i64 n), AV.imm (IV.int IntKind.i64 (↑i : Int)), AV.dead, AV.dead, AV.dead, AV.dead, AV.dead, AV.dead, AV.imm (IV.int IntKind.i64 (↑i : Int)), AV.imm (IV.bytes b), AV.imm (IV.int IntKind.i64 (↑(List.length b) : Int)), AV.imm (IV.int IntKind.i64 n), AV.imm (IV.int IntKind.i64 (IntKind.wrap IntKind.i64 (Int.tdiv (↑(List.length b) : Int) n))), AV.imm (IV.bool (decide ((↑i : Int) < IntKind.wrap
 IntKind.i64 (Int.tdiv (↑(List.length b) : Int) n)))), AV.dead, AV.dead, AV.dead, AV.dead, AV.dead, AV.dead, AV.dead, AV.dead, AV.dead, AV.dead, AV.dead, AV.dead, AV.dead, AV.dead, AV.dead, AV.dead, AV.dead, AV.dead, AV.dead, AV.dead, AV.dead, AV.dead, AV.dead, AV.dead, AV.dead, AV.dead, AV.dead, AV.dead, AV.dead] [((0 : Nat), Ob.mk true (0 : Nat) (AObj.row (IV.sl (2 : Nat) (List.map cellsL l))))] (1 : Nat) []))) := by kernel_rfl
theorem f32_lp (b : List UInt8) (l : List Bool) (i : Nat) (k : AX → St → Prop) : evCode K0 (loopB (bodyOf Tryd.f32) (0 : Nat)) (h32 b l i) k = (brn (decide ((↑i : Int) < (b.length : Int))) ((0 : Int) ≤ (↑i : Int) ∧ (↑i : Int) < (b.length : Int) ∧ brn (decide (IntKind.wrap .i64 (↑(UInt8.toNat (List.getD b (↑i : Int).toNat (0 : UInt8))) : Int) ≥ 2)) (k AX.ret (St.mk [.dead, .dead, .full (IV.bools []), .imm (.bool false), AV.row (0 : Nat) (0 : Nat), .dead, .imm (.int .u8 (↑(UInt8.toNat (List.getD b (↑i : Int).toNat (0 : UInt8))) : Int)), .imm (.bytes b), .imm (.int .i64 (b.length : Int)), .imm (.int .i64 (↑i : Int)), .imm (.bool (decide ((↑i : Int) < (b.length : Int)))), AV.elv [IV.int .u8 (↑(UInt8.toNat (List.getD b (↑i : Int).toNat (0 : UInt8))) : Int)], .imm (.int .u8 (↑(UInt8.toNat (List.getD b (↑i : Int).toNat (0 : UInt8))) : Int)), .imm (.int .u8 (↑(UInt8.toNat (List.getD b (↑i : Int).toNat (0 : UInt8))) : Int)), .imm (.int .i64 (IntKind.wrap .i64 (↑(UInt8.toNat (List.getD b (↑i : Int).toNat (0 : UInt8))) : Int))), .imm (.bool (decide (IntKind.wrap .i64 (↑(UInt8.toNat (List.getD b (↑i : Int).toNat (0 : UInt8))) : Int) ≥ 2))), .dead, .dead, .dead, .dead, .dead, .dead, .dead,
 .dead] [(0, Ob.mk true 0 (AObj.row (IV.bools l)))] (1 : Nat) [])) ((0 : Int) ≤ (↑(UInt8.toNat (List.getD b (↑i : Int).toNat (0 : UInt8))) : Int) ∧ (↑(UInt8.toNat (List.getD b (↑i : Int).toNat (0 : UInt8))) : Int) < 2 ∧ ((↑(UInt8.toNat (List.getD b (↑i : Int).toNat (0 : UInt8))) : Int) = 0 → (l.length + List.length [false]) * 1 ≤ 140737488355328 ∧ l.length + List.length [false] ≤ 140737488355328 ∧ k AX.normal (St.mk [.dead, .dead, .dead, .dead, AV.row (0 : Nat) (1 : Nat), .dead, .imm (.int .u8 (↑(UInt8.toNat (List.getD b (↑i : Int).toNat (0 : UInt8))) : Int)), .imm (.bytes b), .imm (.int .i64 (b.length : Int)), .imm (.int .i64 (IntKind.wrap .i64 ((↑i : Int) + 1))), .imm (.bool (decide ((↑i : Int) < (b.length : Int)))), AV.elv [IV.int .u8 (↑(UInt8.toNat (List.getD b (↑i : Int).toNat (0 : UInt8))) : Int)], .imm (.int .u8 (↑(UInt8.toNat (List.getD b (↑i : Int).toNat (0 : UInt8))) : Int)), .imm (.int .u8 (↑(UInt8.toNat (List.getD b (↑i : Int).toNat (0 : UInt8))) : Int)), .imm (.int .i64 (IntKind.wrap .i64 (↑(UInt8.toNat (List.getD b (↑i : Int).toNat (0 : UInt8))) : Int))), .imm (.bool (decide (IntKind.wrap .i64 (↑(UInt8.toNat (List.getD b (↑i : Int).toNat (0 : UInt8))) : Int) ≥ 2))),
 AV.row (0 : Nat) (0 : Nat), .imm (.int .u8 (↑(UInt8.toNat (List.getD b (↑i : Int).toNat (0 : UInt8))) : Int)), AV.gptr 0 0, .imm (.bool false), .full (IV.bools [false]), AV.row (0 : Nat) (1 : Nat), .imm (.int .i64 (IntKind.wrap .i64 ((↑i : Int) + 1))), .dead] [(0, Ob.mk true 1 (AObj.row (IV.bools (l ++ [false]))))] (1 : Nat) [])) ∧ ((↑(UInt8.toNat (List.getD b (↑i : Int).toNat (0 : UInt8))) : Int) = 1 → (l.length + List.length [true]) * 1 ≤ 140737488355328 ∧ l.length + List.length [true] ≤ 140737488355328 ∧ k AX.normal (St.mk [.dead, .dead, .dead, .dead, AV.row (0 : Nat) (1 : Nat), .dead, .imm (.int .u8 (↑(UInt8.toNat (List.getD b (↑i : Int).toNat (0 : UInt8))) : Int)), .imm (.bytes b), .imm (.int .i64 (b.length : Int)), .imm (.int .i64 (IntKind.wrap .i64 ((↑i : Int) + 1))), .imm (.bool (decide ((↑i : Int) < (b.length : Int)))), AV.elv [IV.int .u8 (↑(UInt8.toNat (List.getD b (↑i : Int).toNat (0 : UInt8))) : Int)], .imm (.int .u8 (↑(UInt8.toNat (List.getD b (↑i : Int).toNat (0 : UInt8))) : Int)), .imm (.int .u8 (↑(UInt8.toNat (List.getD b (↑i : Int).toNat (0 : UInt8))) : Int)), .imm (.int .i64 (IntKind.wrap .i64 (↑(UInt8.toNat (List.getD b (↑i : Int).toNat (0 : UInt8))) : Int))),
 .imm (.bool (decide (IntKind.wrap .i64 (↑(UInt8.toNat (List.getD b (↑i : Int).toNat (0 : UInt8))) : Int) ≥ 2))), AV.row (0 : Nat) (0 : Nat), .imm (.int .u8 (↑(UInt8.toNat (List.getD b (↑i : Int).toNat (0 : UInt8))) : Int)), AV.gptr 0 1, .imm (.bool true), .full (IV.bools [true]), AV.row (0 : Nat) (1 : Nat), .imm (.int .i64 (IntKind.wrap .i64 ((↑i : Int) + 1))), .dead] [(0, Ob.mk true 1 (AObj.row (IV.bools (l ++ [true]))))] (1 : Nat) [])))) (k (AX.exit (0 : Nat)) (St.mk [.dead, .dead, .dead, .dead, AV.row (0 : Nat) (0 : Nat), .dead, .dead, .imm (.bytes b), .imm (.int .i64 (b.length : Int)), .imm (.int .i64 (↑i : Int)), .imm (.bool (decide ((↑i : Int) < (b.length : Int)))), .dead, .dead, .dead, .dead, .dead, .dead, .dead, .dead, .dead, .dead, .dead, .dead, .dead] [(0, Ob.mk true 0 (AObj.row (IV.bools l)))] (1 : Nat) []))) := by kernel_rfl
theorem f41_lp (b : List UInt8) (l : List Bool) (i : Nat) (k : AX → St → Prop) : evCode K0 (loopB (bodyOf Tryd.f41) (0 : Nat)) (h41 b l i) k = (brn (decide ((↑i : Int) < (b.length : Int))) ((0 : Int) ≤ (↑i : Int) ∧ (↑i : Int) < (b.length : Int) ∧ brn (decide ((↑(UInt8.toNat (List.getD b (↑i : Int).toNat (0 : UInt8))) : Int) > 1)) (k AX.ret (St.mk [.imm (.bytes b), .dead, .full (IV.bools []), .imm (.bool false), AV.row (0 : Nat) (0 : Nat), .imm (.int .i64 (↑i : Int)), .imm (.int .i64 (↑i : Int)), .imm (.bytes b), .imm (.int .i64 (b.length : Int)), .imm (.bool (decide ((↑i : Int) < (b.length : Int)))), .dead, .dead, .imm (.bytes b), .imm (.int .i64 (↑i : Int)), AV.elv [IV.int .u8 (↑(UInt8.toNat (List.getD b (↑i : Int).toNat (0 : UInt8))) : Int)], .imm (.int .u8 (↑(UInt8.toNat (List.getD b (↑i : Int).toNat (0 : UInt8))) : Int)), .imm (.bool (decide ((↑(UInt8.toNat (List.getD b (↑i : Int).toNat (0 : UInt8))) : Int) > 1))), .dead, .dead, .dead, .dead, .dead, .dead, .dead, .dead, .dead] [(0, Ob.mk true 0 (AObj.row (IV.bools l)))] (1 : Nat) [])) ((0 : Int) ≤ (↑i : Int) ∧ (↑i : Int) < (b.length : Int) ∧ (l.length + List.length [(↑(UInt8.toNat (List.getD b (↑i : Int).toNat (0 : UInt8))) :
 Int) == 1]) * 1 ≤ 140737488355328 ∧ l.length + List.length [(↑(UInt8.toNat (List.getD b (↑i : Int).toNat (0 : UInt8))) : Int) == 1] ≤ 140737488355328 ∧ k AX.normal (St.mk [.imm (.bytes b), .dead, .dead, .dead, AV.row (0 : Nat) (1 : Nat), .imm (.int .i64 (IntKind.wrap .i64 ((↑i : Int) + 1))), .imm (.int .i64 (↑i : Int)), .imm (.bytes b), .imm (.int .i64 (b.length : Int)), .imm (.bool (decide ((↑i : Int) < (b.length : Int)))), .imm (.int .i64 (↑i : Int)), .imm (.int .i64 (IntKind.wrap .i64 ((↑i : Int) + 1))), .imm (.bytes b), .imm (.int .i64 (↑i : Int)), AV.elv [IV.int .u8 (↑(UInt8.toNat (List.getD b (↑i : Int).toNat (0 : UInt8))) : Int)], .imm (.int .u8 (↑(UInt8.toNat (List.getD b (↑i : Int).toNat (0 : UInt8))) : Int)), .imm (.bool (decide ((↑(UInt8.toNat (List.getD b (↑i : Int).toNat (0 : UInt8))) : Int) > 1))), AV.row (0 : Nat) (0 : Nat), .imm (.bytes b), .imm (.int .i64 (↑i : Int)), AV.elv [IV.int .u8 (↑(UInt8.toNat (List.getD b (↑i : Int).toNat (0 : UInt8))) : Int)], .imm (.int .u8 (↑(UInt8.toNat (List.getD b (↑i : Int).toNat (0 : UInt8))) : Int)), .imm (.bool ((↑(UInt8.toNat (List.getD b (↑i : Int).toNat (0 : UInt8))) : Int) == 1)), .full (IV.bools [(↑(UInt8.toNat (List.getD b
 (↑i : Int).toNat (0 : UInt8))) : Int) == 1]), AV.row (0 : Nat) (1 : Nat), .dead] [(0, Ob.mk true 1 (AObj.row (IV.bools (l ++ [(↑(UInt8.toNat (List.getD b (↑i : Int).toNat (0 : UInt8))) : Int) == 1]))))] (1 : Nat) []))) (k (AX.exit (0 : Nat)) (St.mk [.imm (.bytes b), .dead, .dead, .dead, AV.row (0 : Nat) (0 : Nat), .imm (.int .i64 (↑i : Int)), .imm (.int .i64 (↑i : Int)), .imm (.bytes b), .imm (.int .i64 (b.length : Int)), .imm (.bool (decide ((↑i : Int) < (b.length : Int)))), .dead, .dead, .dead, .dead, .dead, .dead, .dead, .dead, .dead, .dead, .dead, .dead, .dead, .dead, .dead, .dead] [(0, Ob.mk true 0 (AObj.row (IV.bools l)))] (1 : Nat) []))) := by kernel_rfl
theorem f54_lp (T : List Int) (s : Int) (l : List UInt8) (i : Nat) (k : AX → St → Prop) : evCode K0 (loopB (bodyOf Tryd.f54) (0 : Nat)) (h54 T s l i) k = (brn (decide ((↑i : Int) < (↑(List.length T) : Int))) ((0 : Int) ≤ (↑i : Int) ∧ (↑i : Int) < (↑(List.length T) : Int) ∧ (↑([] : List UInt8).length : Int) ≤ 1000000000000 ∧ (0 : Int) ≤ s ∧ s ≤ 8 ∧ (0 : Int) ≤ IntKind.wrap IntKind.u64 (List.getD T (↑i : Int).toNat (0 : Int)) ∧ IntKind.wrap IntKind.u64 (List.getD T (↑i : Int).toNat (0 : Int)) < 18446744073709551616 ∧ (l.length + ([] ++ be s.toNat (IntKind.wrap IntKind.u64 (List.getD T (↑i : Int).toNat (0 : Int))).toNat).length) * 1 ≤ 140737488355328 ∧ l.length + ([] ++ be s.toNat (IntKind.wrap IntKind.u64 (List.getD T (↑i : Int).toNat (0 : Int))).toNat).length ≤ 140737488355328 ∧ k AX.normal (St.mk [.dead, .imm (.int .i64 s), .dead, .dead, .dead, AV.row (0 : Nat) (1 : Nat), .dead, .imm (.int .i64 (List.getD T (↑i : Int).toNat (0 : Int))), .dead, .dead, .dead, .dead, .dead, .imm (.ints IntKind.i64 T), .imm (.int .i64 (↑(List.length T) : Int)), .imm (.int .i64 (IntKind.wrap .i64 ((↑i : Int) + 1))), .imm (.bool (decide ((↑i : Int) < (↑(List.length T) : Int)))), AV.elv [IV.int .i64
 (List.getD T (↑i : Int).toNat (0 : Int))], .imm (.int .i64 (List.getD T (↑i : Int).toNat (0 : Int))), AV.row (0 : Nat) (0 : Nat), .imm (.int .i64 s), .imm (.int .i64 (List.getD T (↑i : Int).toNat (0 : Int))), .imm (.int IntKind.u64 (IntKind.wrap IntKind.u64 (List.getD T (↑i : Int).toNat (0 : Int)))), AV.row (1 : Nat) (0 : Nat), AV.row (0 : Nat) (1 : Nat), .imm (.int .i64 (IntKind.wrap .i64 ((↑i : Int) + 1))), .dead] [(0, Ob.mk true 1 (AObj.row (IV.bytes (l ++ ([] ++ be s.toNat (IntKind.wrap IntKind.u64 (List.getD T (↑i : Int).toNat (0 : Int))).toNat))))), (1, Ob.mk true 0 (AObj.row (IV.bytes ([] ++ be s.toNat (IntKind.wrap IntKind.u64 (List.getD T (↑i : Int).toNat (0 : Int))).toNat))))] (2 : Nat) [])) (k (AX.exit (0 : Nat)) (St.mk [.dead, .imm (.int .i64 s), .dead, .dead, .dead, AV.row (0 : Nat) (0 : Nat), .dead, .dead, .dead, .dead, .dead, .dead, .dead, .imm (.ints IntKind.i64 T), .imm (.int .i64 (↑(List.length T) : Int)), .imm (.int .i64 (↑i : Int)), .imm (.bool (decide ((↑i : Int) < (↑(List.length T) : Int)))), .dead, .dead, .dead, .dead, .dead, .dead, .dead, .dead, .dead, .dead] [(0, Ob.mk true 0 (AObj.row (IV.bytes l)))] (1 : Nat) []))) := by kernel_rfl
theorem f58_lp (T : List Int) (s : Int) (l : List UInt8) (i : Nat) (k : AX → St → Prop) : evCode K0 (loopB (bodyOf Tryd.f58) (0 : Nat)) (h58 T s l i) k = (brn (decide ((↑i : Int) < (↑(List.length T) : Int))) ((0 : Int) ≤ (↑i : Int) ∧ (↑i : Int) < (↑(List.length T) : Int) ∧ (l.length : Int) ≤ 1000000000000 ∧ (0 : Int) ≤ s ∧ s ≤ 8 ∧ (0 : Int) ≤ IntKind.wrap IntKind.u64 (List.getD T (↑i : Int).toNat (0 : Int)) ∧ IntKind.wrap IntKind.u64 (List.getD T (↑i : Int).toNat (0 : Int)) < 18446744073709551616 ∧ k AX.normal (St.mk [.imm (.ints IntKind.i64 T), .imm (.int .i64 s), .dead, .dead, .dead, AV.row (1 : Nat) (0 : Nat), .imm (.int .i64 (IntKind.wrap .i64 ((↑i : Int) + 1))), .imm (.int .i64 (↑i : Int)), .imm (.ints IntKind.i64 T), .imm (.int .i64 (↑(List.length T) : Int)), .imm (.bool (decide ((↑i : Int) < (↑(List.length T) : Int)))), .imm (.int .i64 (↑i : Int)), .imm (.int .i64 (IntKind.wrap .i64 ((↑i : Int) + 1))), AV.row (0 : Nat) (0 : Nat), .imm (.int .i64 s), .imm (.ints IntKind.i64 T), .imm (.int .i64 (↑i : Int)), AV.elv [IV.int .i64 (List.getD T (↑i : Int).toNat (0 : Int))], .imm (.int .i64 (List.getD T (↑i : Int).toNat (0 : Int))), .imm (.int IntKind.u64 (IntKind.wrap IntKind.u64
 (List.getD T (↑i : Int).toNat (0 : Int)))), AV.row (1 : Nat) (0 : Nat), .dead] [(0, Ob.mk false 0 (AObj.row (IV.bytes l))), (1, Ob.mk true 0 (AObj.row (IV.bytes (l ++ be s.toNat (IntKind.wrap IntKind.u64 (List.getD T (↑i : Int).toNat (0 : Int))).toNat))))] (2 : Nat) [])) (k (AX.exit (0 : Nat)) (St.mk [.imm (.ints IntKind.i64 T), .imm (.int .i64 s), .dead, .dead, .dead, AV.row (0 : Nat) (0 : Nat), .imm (.int .i64 (↑i : Int)), .imm (.int .i64 (↑i : Int)), .imm (.ints IntKind.i64 T), .imm (.int .i64 (↑(List.length T) : Int)), .imm (.bool (decide ((↑i : Int) < (↑(List.length T) : Int)))), .dead, .dead, .dead, .dead, .dead, .dead, .dead, .dead, .dead, .dead, .dead] [(0, Ob.mk true 0 (AObj.row (IV.bytes l)))] (1 : Nat) []))) := by kernel_rfl
theorem f56_lp (xs : List (List IV)) (s : Int) (l : List UInt8) (i : Nat) (k : AX → St → Prop) : evCode K0 (loopB (bodyOf Tryd.f56) (0 : Nat)) (h56 xs s l i) k = (brn (decide ((↑i : Int) < (↑(List.length xs) : Int))) ((0 : Int) ≤ (↑i : Int) ∧ (↑i : Int) < (↑(List.length xs) : Int) ∧ kcells (List.getD xs (↑i : Int).toNat []) (0 : Nat) (lapp [CK.int IntKind.i64] (lapp [CK.int IntKind.i32] [])) = List.getD xs (↑i : Int).toNat [] ∧ (l.length : Int) ≤ 1000000000000 ∧ (0 : Int) ≤ s ∧ s ≤ 8 ∧ (0 : Int) ≤ IntKind.wrap IntKind.u64 (ivInt (ivNth (List.getD xs (↑i : Int).toNat []) (0 : Nat))) ∧ IntKind.wrap IntKind.u64 (ivInt (ivNth (List.getD xs (↑i : Int).toNat []) (0 : Nat))) < 18446744073709551616 ∧ (↑(l ++ be s.toNat (IntKind.wrap IntKind.u64 (ivInt (ivNth (List.getD xs (↑i : Int).toNat []) (0 : Nat)))).toNat).length : Int) ≤ 1000000000000 ∧ (0 : Int) ≤ 4 ∧ (4 : Int) ≤ 8 ∧ (0 : Int) ≤ IntKind.wrap IntKind.u64 (IntKind.wrap .i64 (ivInt (ivNth (List.getD xs (↑i : Int).toNat []) ((0 : Nat) + 1)))) ∧ IntKind.wrap IntKind.u64 (IntKind.wrap .i64 (ivInt (ivNth (List.getD xs (↑i : Int).toNat []) ((0 : Nat) + 1)))) < 18446744073709551616 ∧ k AX.normal (St.mk [.dead, .imm (.int .i64 s), .dead,
 .dead, .dead, AV.row (3 : Nat) (0 : Nat), .dead, .ptr 1 0, .imm (.sl (2 : Nat) xs), .imm (.int .i64 (↑(List.length xs) : Int)), .imm (.int .i64 (IntKind.wrap .i64 ((↑i : Int) + 1))), .imm (.bool (decide ((↑i : Int) < (↑(List.length xs) : Int)))), AV.elv [IV.int .i64 (ivInt (ivNth (List.getD xs (↑i : Int).toNat []) (0 : Nat))), IV.int IntKind.i32 (ivInt (ivNth (List.getD xs (↑i : Int).toNat []) ((0 : Nat) + 1)))], .agg [.imm (.int .i64 (ivInt (ivNth (List.getD xs (↑i : Int).toNat []) (0 : Nat)))), .imm (.int IntKind.i32 (ivInt (ivNth (List.getD xs (↑i : Int).toNat []) ((0 : Nat) + 1))))], AV.row (0 : Nat) (0 : Nat), .imm (.int .i64 s), .ptr 1 0, .imm (.int .i64 (ivInt (ivNth (List.getD xs (↑i : Int).toNat []) (0 : Nat)))), .imm (.int IntKind.u64 (IntKind.wrap IntKind.u64 (ivInt (ivNth (List.getD xs (↑i : Int).toNat []) (0 : Nat))))), AV.row (2 : Nat) (0 : Nat), AV.row (2 : Nat) (0 : Nat), .ptr 1 1, .imm (.int IntKind.i32 (ivInt (ivNth (List.getD xs (↑i : Int).toNat []) ((0 : Nat) + 1)))), .imm (.int .i64 (IntKind.wrap .i64 (ivInt (ivNth (List.getD xs (↑i : Int).toNat []) ((0 : Nat) + 1))))), .imm (.int IntKind.u64 (IntKind.wrap IntKind.u64 (IntKind.wrap .i64 (ivInt (ivNth (List.getD
 xs (↑i : Int).toNat []) ((0 : Nat) + 1)))))), AV.row (3 : Nat) (0 : Nat), .imm (.int .i64 (IntKind.wrap .i64 ((↑i : Int) + 1))), .dead] [(0, Ob.mk false 0 (AObj.row (IV.bytes l))), (1, Ob.mk true 0 (AObj.cells [.imm (.int .i64 (ivInt (ivNth (List.getD xs (↑i : Int).toNat []) (0 : Nat)))), .imm (.int IntKind.i32 (ivInt (ivNth (List.getD xs (↑i : Int).toNat []) ((0 : Nat) + 1))))])), (2, Ob.mk false 0 (AObj.row (IV.bytes (l ++ be s.toNat (IntKind.wrap IntKind.u64 (ivInt (ivNth (List.getD xs (↑i : Int).toNat []) (0 : Nat)))).toNat)))), (3, Ob.mk true 0 (AObj.row (IV.bytes (l ++ be s.toNat (IntKind.wrap IntKind.u64 (ivInt (ivNth (List.getD xs (↑i : Int).toNat []) (0 : Nat)))).toNat ++ be (4 : Int).toNat (IntKind.wrap IntKind.u64 (IntKind.wrap .i64 (ivInt (ivNth (List.getD xs (↑i : Int).toNat []) ((0 : Nat) + 1))))).toNat))))] (4 : Nat) [])) (k (AX.exit (0 : Nat)) (St.mk [.dead, .imm (.int .i64 s), .dead, .dead, .dead, AV.row (0 : Nat) (0 : Nat), .dead, .dead, .imm (.sl (2 : Nat) xs), .imm (.int .i64 (↑(List.length xs) : Int)), .imm (.int .i64 (↑i : Int)), .imm (.bool (decide ((↑i : Int) < (↑(List.length xs) : Int)))), .dead, .dead, .dead, .dead, .dead, .dead, .dead, .dead, .dead, .dead,
 .dead, .dead, .dead, .dead, .dead, .dead] [(0, Ob.mk true 0 (AObj.row (IV.bytes l)))] (1 : Nat) []))) := by kernel_rfl
theorem f60_lp (xs : List (List IV)) (s : Int) (l : List UInt8) (i : Nat) (k : AX → St → Prop) : evCode K0 (loopB (bodyOf Tryd.f60) (0 : Nat)) (h60 xs s l i) k = (brn (decide ((↑i : Int) < (↑(List.length xs) : Int))) ((0 : Int) ≤ (↑i : Int) ∧ (↑i : Int) < (↑(List.length xs) : Int) ∧ kcells (List.getD xs (↑i : Int).toNat []) (0 : Nat) (lapp [CK.int IntKind.i64] (lapp [CK.int IntKind.i32] [])) = List.getD xs (↑i : Int).toNat [] ∧ (l.length : Int) ≤ 1000000000000 ∧ (0 : Int) ≤ s ∧ s ≤ 8 ∧ (0 : Int) ≤ IntKind.wrap IntKind.u64 (ivInt (ivNth (List.getD xs (↑i : Int).toNat []) (0 : Nat))) ∧ IntKind.wrap IntKind.u64 (ivInt (ivNth (List.getD xs (↑i : Int).toNat []) (0 : Nat))) < 18446744073709551616 ∧ (0 : Int) ≤ (↑i : Int) ∧ (↑i : Int) < (↑(List.length xs) : Int) ∧ kcells (List.getD xs (↑i : Int).toNat []) (0 : Nat) (lapp [CK.int IntKind.i64] (lapp [CK.int IntKind.i32] [])) = List.getD xs (↑i : Int).toNat [] ∧ (↑(l ++ be s.toNat (IntKind.wrap IntKind.u64 (ivInt (ivNth (List.getD xs (↑i : Int).toNat []) (0 : Nat)))).toNat).length : Int) ≤ 1000000000000 ∧ (0 : Int) ≤ 4 ∧ (4 : Int) ≤ 8 ∧ (0 : Int) ≤ IntKind.wrap IntKind.u64 (IntKind.wrap .i64 (ivInt (ivNth (List.getD xs (↑i : Int).toNat [])
 ((0 : Nat) + 1)))) ∧ IntKind.wrap IntKind.u64 (IntKind.wrap .i64 (ivInt (ivNth (List.getD xs (↑i : Int).toNat []) ((0 : Nat) + 1)))) < 18446744073709551616 ∧ k AX.normal (St.mk [.imm (.sl (2 : Nat) xs), .imm (.int .i64 s), .dead, .dead, .dead, AV.row (2 : Nat) (0 : Nat), .imm (.int .i64 (IntKind.wrap .i64 ((↑i : Int) + 1))), .imm (.int .i64 (↑i : Int)), .imm (.sl (2 : Nat) xs), .imm (.int .i64 (↑(List.length xs) : Int)), .imm (.bool (decide ((↑i : Int) < (↑(List.length xs) : Int)))), .imm (.int .i64 (↑i : Int)), .imm (.int .i64 (IntKind.wrap .i64 ((↑i : Int) + 1))), AV.row (0 : Nat) (0 : Nat), .imm (.int .i64 s), .imm (.sl (2 : Nat) xs), .imm (.int .i64 (↑i : Int)), AV.elv [IV.int .i64 (ivInt (ivNth (List.getD xs (↑i : Int).toNat []) (0 : Nat))), IV.int IntKind.i32 (ivInt (ivNth (List.getD xs (↑i : Int).toNat []) ((0 : Nat) + 1)))], AV.elv [IV.int .i64 (ivInt (ivNth (List.getD xs (↑i : Int).toNat []) (0 : Nat))), IV.int IntKind.i32 (ivInt (ivNth (List.getD xs (↑i : Int).toNat []) ((0 : Nat) + 1)))], .imm (.int .i64 (ivInt (ivNth (List.getD xs (↑i : Int).toNat []) (0 : Nat)))), .imm (.int IntKind.u64 (IntKind.wrap IntKind.u64 (ivInt (ivNth (List.getD xs (↑i : Int).toNat []) (0 :
 Nat))))), AV.row (1 : Nat) (0 : Nat), AV.row (1 : Nat) (0 : Nat), .imm (.sl (2 : Nat) xs), .imm (.int .i64 (↑i : Int)), AV.elv [IV.int .i64 (ivInt (ivNth (List.getD xs (↑i : Int).toNat []) (0 : Nat))), IV.int IntKind.i32 (ivInt (ivNth (List.getD xs (↑i : Int).toNat []) ((0 : Nat) + 1)))], AV.elv [IV.int IntKind.i32 (ivInt (ivNth (List.getD xs (↑i : Int).toNat []) ((0 : Nat) + 1)))], .imm (.int IntKind.i32 (ivInt (ivNth (List.getD xs (↑i : Int).toNat []) ((0 : Nat) + 1)))), .imm (.int .i64 (IntKind.wrap .i64 (ivInt (ivNth (List.getD xs (↑i : Int).toNat []) ((0 : Nat) + 1))))), .imm (.int IntKind.u64 (IntKind.wrap IntKind.u64 (IntKind.wrap .i64 (ivInt (ivNth (List.getD xs (↑i : Int).toNat []) ((0 : Nat) + 1)))))), AV.row (2 : Nat) (0 : Nat), .dead] [(0, Ob.mk false 0 (AObj.row (IV.bytes l))), (1, Ob.mk false 0 (AObj.row (IV.bytes (l ++ be s.toNat (IntKind.wrap IntKind.u64 (ivInt (ivNth (List.getD xs (↑i : Int).toNat []) (0 : Nat)))).toNat)))), (2, Ob.mk true 0 (AObj.row (IV.bytes (l ++ be s.toNat (IntKind.wrap IntKind.u64 (ivInt (ivNth (List.getD xs (↑i : Int).toNat []) (0 : Nat)))).toNat ++ be (4 : Int).toNat (IntKind.wrap IntKind.u64 (IntKind.wrap .i64 (ivInt (ivNth (List.getD xs
 (↑i : Int).toNat []) ((0 : Nat) + 1))))).toNat))))] (3 : Nat) [])) (k (AX.exit (0 : Nat)) (St.mk [.imm (.sl (2 : Nat) xs), .imm (.int .i64 s), .dead, .dead, .dead, AV.row (0 : Nat) (0 : Nat), .imm (.int .i64 (↑i : Int)), .imm (.int .i64 (↑i : Int)), .imm (.sl (2 : Nat) xs), .imm (.int .i64 (↑(List.length xs) : Int)), .imm (.bool (decide ((↑i : Int) < (↑(List.length xs) : Int)))), .dead, .dead, .dead, .dead, .dead, .dead, .dead, .dead, .dead, .dead, .dead, .dead, .dead, .dead, .dead, .dead, .dead, .dead, .dead, .dead, .dead] [(0, Ob.mk true 0 (AObj.row (IV.bytes l)))] (1 : Nat) []))) := by kernel_rfl
theorem f57_lp (l : List Bool) (v : List UInt8) (i : Nat) (k : AX → St → Prop) : evCode K0 (loopB (bodyOf Tryd.f57) (0 : Nat)) (h57 l v i) k = (brn (decide ((↑i : Int) < (l.length : Int))) ((0 : Int) ≤ (↑i : Int) ∧ (↑i : Int) < (l.length : Int) ∧ brn (List.getD l (↑i : Int).toNat false) ((0 : Int) ≤ (↑i : Int) ∧ (↑i : Int) < (v.length : Int) ∧ k AX.normal (St.mk [.dead, .dead, .dead, AV.row (0 : Nat) (0 : Nat), .imm (.int .i64 (↑i : Int)), .imm (.bool (List.getD l (↑i : Int).toNat false)), .dead, .dead, .dead, .imm (.bools l), .imm (.int .i64 (l.length : Int)), .imm (.int .i64 (IntKind.wrap .i64 ((↑i : Int) + 1))), .imm (.bool (decide ((↑i : Int) < (l.length : Int)))), .imm (.int .i64 (↑i : Int)), AV.elv [IV.bool (List.getD l (↑i : Int).toNat false)], .imm (.bool (List.getD l (↑i : Int).toNat false)), .imm (.bool (List.getD l (↑i : Int).toNat false)), AV.row (0 : Nat) (0 : Nat), .imm (.int .i64 (↑i : Int)), AV.elp (0 : Nat) (0 : Nat) (↑i : Int).toNat (0 : Nat), .imm (.int .i64 (IntKind.wrap .i64 ((↑i : Int) + 1))), .dead] [(0, Ob.mk true 0 (AObj.row (IV.bytes (List.set v (↑i : Int).toNat (u8 (1 : Int))))))] (1 : Nat) [])) (k AX.normal (St.mk [.dead, .dead, .dead, AV.row (0 : Nat) (0
 : Nat), .imm (.int .i64 (↑i : Int)), .imm (.bool (List.getD l (↑i : Int).toNat false)), .dead, .dead, .dead, .imm (.bools l), .imm (.int .i64 (l.length : Int)), .imm (.int .i64 (IntKind.wrap .i64 ((↑i : Int) + 1))), .imm (.bool (decide ((↑i : Int) < (l.length : Int)))), .imm (.int .i64 (↑i : Int)), AV.elv [IV.bool (List.getD l (↑i : Int).toNat false)], .imm (.bool (List.getD l (↑i : Int).toNat false)), .imm (.bool (List.getD l (↑i : Int).toNat false)), .dead, .dead, .dead, .imm (.int .i64 (IntKind.wrap .i64 ((↑i : Int) + 1))), .dead] [(0, Ob.mk true 0 (AObj.row (IV.bytes v)))] (1 : Nat) []))) (k (AX.exit (0 : Nat)) (St.mk [.dead, .dead, .dead, AV.row (0 : Nat) (0 : Nat), .dead, .dead, .dead, .dead, .dead, .imm (.bools l), .imm (.int .i64 (l.length : Int)), .imm (.int .i64 (↑i : Int)), .imm (.bool (decide ((↑i : Int) < (l.length : Int)))), .dead, .dead, .dead, .dead, .dead, .dead, .dead, .dead, .dead] [(0, Ob.mk true 0 (AObj.row (IV.bytes v)))] (1 : Nat) []))) := by kernel_rfl
theorem f61_lp (l : List Bool) (v : List UInt8) (i : Nat) (k : AX → St → Prop) : evCode K0 (loopB (bodyOf Tryd.f61) (0 : Nat)) (h61 l v i) k = (brn (decide ((↑i : Int) < (l.length : Int))) ((0 : Int) ≤ (↑i : Int) ∧ (↑i : Int) < (l.length : Int) ∧ brn (List.getD l (↑i : Int).toNat false) ((v.length + (List.map u8 [(1 : Int)]).length) * 1 ≤ 140737488355328 ∧ v.length + (List.map u8 [(1 : Int)]).length ≤ 140737488355328 ∧ k AX.normal (St.mk [.imm (.bools l), .dead, .dead, AV.row (0 : Nat) (1 : Nat), .imm (.int .i64 (IntKind.wrap .i64 ((↑i : Int) + 1))), .imm (.int .i64 (↑i : Int)), .imm (.bools l), .imm (.int .i64 (l.length : Int)), .imm (.bool (decide ((↑i : Int) < (l.length : Int)))), .imm (.int .i64 (↑i : Int)), .imm (.int .i64 (IntKind.wrap .i64 ((↑i : Int) + 1))), .imm (.bools l), .imm (.int .i64 (↑i : Int)), AV.elv [IV.bool (List.getD l (↑i : Int).toNat false)], .imm (.bool (List.getD l (↑i : Int).toNat false)), AV.row (0 : Nat) (0 : Nat), .full (IV.bytes (List.map u8 [(1 : Int)])), AV.row (0 : Nat) (1 : Nat), .dead, .dead, .dead, .dead] [(0, Ob.mk true 1 (AObj.row (IV.bytes (v ++ List.map u8 [(1 : Int)]))))] (1 : Nat) [])) ((v.length + (List.map u8 [(0 : Int)]).length) * 1 ≤
 140737488355328 ∧ v.length + (List.map u8 [(0 : Int)]).length ≤ 140737488355328 ∧ k AX.normal (St.mk [.imm (.bools l), .dead, .dead, AV.row (0 : Nat) (1 : Nat), .imm (.int .i64 (IntKind.wrap .i64 ((↑i : Int) + 1))), .imm (.int .i64 (↑i : Int)), .imm (.bools l), .imm (.int .i64 (l.length : Int)), .imm (.bool (decide ((↑i : Int) < (l.length : Int)))), .imm (.int .i64 (↑i : Int)), .imm (.int .i64 (IntKind.wrap .i64 ((↑i : Int) + 1))), .imm (.bools l), .imm (.int .i64 (↑i : Int)), AV.elv [IV.bool (List.getD l (↑i : Int).toNat false)], .imm (.bool (List.getD l (↑i : Int).toNat false)), .dead, .dead, .dead, AV.row (0 : Nat) (0 : Nat), .full (IV.bytes (List.map u8 [(0 : Int)])), AV.row (0 : Nat) (1 : Nat), .dead] [(0, Ob.mk true 1 (AObj.row (IV.bytes (v ++ List.map u8 [(0 : Int)]))))] (1 : Nat) []))) (k (AX.exit (0 : Nat)) (St.mk [.imm (.bools l), .dead, .dead, AV.row (0 : Nat) (0 : Nat), .imm (.int .i64 (↑i : Int)), .imm (.int .i64 (↑i : Int)), .imm (.bools l), .imm (.int .i64 (l.length : Int)), .imm (.bool (decide ((↑i : Int) < (l.length : Int)))), .dead, .dead, .dead, .dead, .dead, .dead, .dead, .dead, .dead, .dead, .dead, .dead, .dead] [(0, Ob.mk true 0 (AObj.row (IV.bytes v)))] (1 :
 Nat) []))) := by kernel_rfl
theorem f52_lp (T : List Int) (n : Int) (i : Nat) (k : AX → St → Prop) : evCode K1 (loopB (bodyOf Tryd.f52) (0 : Nat)) (h52 T n i) k = (brn (decide ((↑i : Int) < (↑(List.length T) : Int))) ((0 : Int) ≤ (↑i : Int) ∧ (↑i : Int) < (↑(List.length T) : Int) ∧ sz48 n ∧ brn (!fitsP (List.getD T (↑i : Int).toNat (0 : Int)) n) (k AX.ret (St.mk [.imm (.ints IntKind.i64 T), .imm (.int .i64 n), .dead, .dead, .imm (.bool false), .imm (.int .i64 (↑i : Int)), .imm (.int .i64 (↑i : Int)), .imm (.ints IntKind.i64 T), .imm (.int .i64 (↑(List.length T) : Int)), .imm (.bool (decide ((↑i : Int) < (↑(List.length T) : Int)))), .dead, .dead, .imm (.ints IntKind.i64 T), .imm (.int .i64 (↑i : Int)), AV.elv [IV.int .i64 (List.getD T (↑i : Int).toNat (0 : Int))], .imm (.int .i64 (List.getD T (↑i : Int).toNat (0 : Int))), .imm (.int .i64 n), .imm (.bool (fitsP (List.getD T (↑i : Int).toNat (0 : Int)) n)), .imm (.bool !fitsP (List.getD T (↑i : Int).toNat (0 : Int)) n)] [] (0 : Nat) [])) (k AX.normal (St.mk [.imm (.ints IntKind.i64 T), .imm (.int .i64 n), .dead, .dead, .dead, .imm (.int .i64 (IntKind.wrap .i64 ((↑i : Int) + 1))), .imm (.int .i64 (↑i : Int)), .imm (.ints IntKind.i64 T), .imm (.int .i64
 (↑(List.length T) : Int)), .imm (.bool (decide ((↑i : Int) < (↑(List.length T) : Int)))), .imm (.int .i64 (↑i : Int)), .imm (.int .i64 (IntKind.wrap .i64 ((↑i : Int) + 1))), .imm (.ints IntKind.i64 T), .imm (.int .i64 (↑i : Int)), AV.elv [IV.int .i64 (List.getD T (↑i : Int).toNat (0 : Int))], .imm (.int .i64 (List.getD T (↑i : Int).toNat (0 : Int))), .imm (.int .i64 n), .imm (.bool (fitsP (List.getD T (↑i : Int).toNat (0 : Int)) n)), .imm (.bool !fitsP (List.getD T (↑i : Int).toNat (0 : Int)) n)] [] (0 : Nat) []))) (k (AX.exit (0 : Nat)) (St.mk [.imm (.ints IntKind.i64 T), .imm (.int .i64 n), .dead, .dead, .dead, .imm (.int .i64 (↑i : Int)), .imm (.int .i64 (↑i : Int)), .imm (.ints IntKind.i64 T), .imm (.int .i64 (↑(List.length T) : Int)), .imm (.bool (decide ((↑i : Int) < (↑(List.length T) : Int)))), .dead, .dead, .dead, .dead, .dead, .dead, .dead, .dead, .dead] [] (0 : Nat) []))) := by kernel_rfl
theorem f37_lp (d : List UInt8) (p : Int) (e : Int) (a : Int) (n : Int) (l : List UInt8) (i : Nat) (k : AX → St → Prop) : evCode K1 (loopB (bodyOf Tryd.f37) (0 : Nat)) (h37 d p e a n l i) k = (brn (decide ((↑i : Int) < n)) ((0 : Int) ≤ IntKind.wrap .i64 (p + (↑i : Int)) ∧ IntKind.wrap .i64 (p + (↑i : Int)) < (d.length : Int) ∧ (l.length + (List.map u8 [(↑(UInt8.toNat (List.getD d (IntKind.wrap .i64 (p + (↑i : Int))).toNat (0 : UInt8))) : Int)]).length) * 1 ≤ 140737488355328 ∧ l.length + (List.map u8 [(↑(UInt8.toNat (List.getD d (IntKind.wrap .i64 (p + (↑i : Int))).toNat (0 : UInt8))) : Int)]).length ≤ 140737488355328 ∧ k AX.normal (St.mk [.dead, .imm (.int .i64 n), .ptr 0 0, .dead, .dead, .ptr 1 0, AV.row (2 : Nat) (1 : Nat), .imm (.int .i64 (IntKind.wrap .i64 ((↑i : Int) + 1))), .dead, .dead, .dead, .dead, .dead, .dead, .dead, .dead, .dead, .dead, .dead, .dead, .dead, .dead, .dead, .dead, .dead, .dead, .dead, .dead, .dead, .imm (.int .i64 (↑i : Int)), .imm (.int .i64 n), .imm (.bool (decide ((↑i : Int) < n))), .imm (.int .i64 (↑i : Int)), .imm (.int .i64 (IntKind.wrap .i64 ((↑i : Int) + 1))), AV.row (2 : Nat) (0 : Nat), .ptr 0 0, .imm (.bytes d), .ptr 0 1, .imm (.int .i64 p), .imm
 (.int .i64 (↑i : Int)), .imm (.int .i64 (IntKind.wrap .i64 (p + (↑i : Int)))), AV.elv [IV.int .u8 (↑(UInt8.toNat (List.getD d (IntKind.wrap .i64 (p + (↑i : Int))).toNat (0 : UInt8))) : Int)], .imm (.int .u8 (↑(UInt8.toNat (List.getD d (IntKind.wrap .i64 (p + (↑i : Int))).toNat (0 : UInt8))) : Int)), .full (IV.bytes (List.map u8 [(↑(UInt8.toNat (List.getD d (IntKind.wrap .i64 (p + (↑i : Int))).toNat (0 : UInt8))) : Int)])), AV.row (2 : Nat) (1 : Nat), .dead, .dead, .dead, .dead, .dead, .dead, .dead] [(0, Ob.mk true 0 (AObj.cells [.imm (.bytes d), .imm (.int .i64 p), .imm (.int .i64 e), .imm (.int .i64 a)])), (1, Ob.mk true 0 (AObj.cells [.imm (.val (Value.slice none (0 : Nat) (0 : Nat))), .imm (.int .i64 0), .imm (.int .i64 0), .imm (.int .i64 0)])), (2, Ob.mk true 1 (AObj.row (IV.bytes (l ++ List.map u8 [(↑(UInt8.toNat (List.getD d (IntKind.wrap .i64 (p + (↑i : Int))).toNat (0 : UInt8))) : Int)]))))] (3 : Nat) [])) (k (AX.exit (0 : Nat)) (St.mk [.dead, .imm (.int .i64 n), .ptr 0 0, .dead, .dead, .ptr 1 0, AV.row (2 : Nat) (0 : Nat), .imm (.int .i64 (↑i : Int)), .dead, .dead, .dead, .dead, .dead, .dead, .dead, .dead, .dead, .dead, .dead, .dead, .dead, .dead, .dead, .dead, .dead,
 .dead, .dead, .dead, .dead, .imm (.int .i64 (↑i : Int)), .imm (.int .i64 n), .imm (.bool (decide ((↑i : Int) < n))), .dead, .dead, .dead, .dead, .dead, .dead, .dead, .dead, .dead, .dead, .dead, .dead, .dead, .dead, .dead, .dead, .dead, .dead, .dead, .dead] [(0, Ob.mk true 0 (AObj.cells [.imm (.bytes d), .imm (.int .i64 p), .imm (.int .i64 e), .imm (.int .i64 a)])), (1, Ob.mk true 0 (AObj.cells [.imm (.val (Value.slice none (0 : Nat) (0 : Nat))), .imm (.int .i64 0), .imm (.int .i64 0), .imm (.int .i64 0)])), (2, Ob.mk true 0 (AObj.row (IV.bytes l)))] (3 : Nat) []))) := by kernel_rfl
end Z19
