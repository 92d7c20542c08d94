/- For every block, time size and byte slice the law BlockRoundTrip returns true and its arguments read as before. No further condition. -/
import Derived.Test.YtmmioohcgdnpdaaDoorAe5
import Derived.KernelRfl
import Derived.ProofKit
import Derived.WideKeyArgs
import Derived.SizedLaws
import Derived.ChangeSlices
import Derived.Test.YtmmioohcgdnpdaaDoorRows
import Derived.Test.YtmmioohcgdnpdaaDoorTie
import Derived.Test.YtmmioohcgdnpdaaDoorCards
import Derived.LaidMore
import Derived.LaidHandle
import Derived.LaidLaws
import Derived.OpenShut
import Derived.Stop.Joined
import Derived.SevenTiedAt
set_option linter.all false
set_option maxRecDepth 100000
namespace Z19
open Go Go.AE Go.Proofs D6
attribute [local irreducible] loopK evCode evSpec loopB norm
theorem f13_in (d : List
  UInt8) (p : Int) (e : Int) (a : Int) (v : Int) (iu : Int) (is : Int) (l : Int) (t : Int) (ty : Int) (c : Int) (s : Int) (at' : Int) (K : List
    AV →
  Prop) : evSpec K3h Tryd.f13 [curAV d p e a, hdAV v iu is l t ty c, i64 s, i64 at'] K =
  (let R1 : Prop := (K [AV.agg [AV.new (IV.ints IntKind.i64 []), AV.new (IV.bytes []), AV.new (IV.sl (3 : Nat) []), AV.new (IV.bytes []), AV.new (IV.sl (2 : Nat) []), AV.new (IV.bools []), AV.new (IV.bools [])], AV.agg [AV.imm (IV.bytes (Cu.d (failU (Cu.mk d p e a) (1 : Int) (↑(List.length d) : Int)))), AV.imm (IV.int IntKind.i64 (Cu.p (failU (Cu.mk d p e a) (1 : Int) (↑(List.length d) : Int)))), AV.imm (IV.int IntKind.i64 (Cu.e (failU (Cu.mk d p e a) (1 : Int) (↑(List.length d) : Int)))), AV.imm (IV.int IntKind.i64 (Cu.a (failU (Cu.mk d p e a) (1 : Int) (↑(List.length d) : Int))))]]); brn (e != (0 : Int)) (K [AV.agg [AV.new (IV.ints IntKind.i64 []), AV.new (IV.bytes []), AV.new (IV.sl (3 : Nat) []), AV.new (IV.bytes []), AV.new (IV.sl (2 : Nat) []), AV.new (IV.bools []), AV.new (IV.bools [])], AV.agg [AV.imm (IV.bytes d), AV.imm (IV.int IntKind.i64 p), AV.imm (IV.int IntKind.i64 e), AV.imm (IV.int IntKind.i64 a)]]) ((okH (Hd.mk v iu is l t ty c) ∧ sz48 s ∧ brn (decide (sumU (Hd.mk v iu
 is l t ty c) s > IntKind.wrap IntKind.u64 (IntKind.wrap IntKind.i64 ((↑(List.length d) : Int) - p)))) R1 (okH (Hd.mk v iu is l t ty c) ∧ sz48 s ∧ LoopI K3h (bodyOf Tryd.f13) (0 : Nat) (St.mk [AV.agg [AV.imm (IV.bytes d), AV.imm (IV.int IntKind.i64 p), AV.imm (IV.int IntKind.i64 e), AV.imm (IV.int IntKind.i64 a)], AV.agg [AV.imm (IV.int IntKind.i64 v), AV.imm (IV.int IntKind.u32 iu), AV.imm (IV.int IntKind.u32 is), AV.imm (IV.int IntKind.u32 l), AV.imm (IV.int IntKind.u32 t), AV.imm (IV.int IntKind.u32 ty), AV.imm (IV.int IntKind.u32 c)], AV.imm (IV.int IntKind.i64 s), AV.imm (IV.int IntKind.i64 at'), AV.ptr (0 : Nat) (0 : Nat), AV.ptr (1 : Nat) (0 : Nat), AV.dead, AV.dead, AV.ptr (2 : Nat) (0 : Nat), AV.ptr (3 : Nat) (0 : Nat), AV.ptr (4 : Nat) (0 : Nat), AV.ptr (5 : Nat) (0 : Nat), AV.full (IV.sl (1 : Nat) []), AV.ptr (6 : Nat) (0 : Nat), AV.imm (IV.int IntKind.i64 (0 : Int)), AV.dead, AV.dead, AV.dead, AV.dead, AV.dead, AV.ptr (0 : Nat) (2 : Nat), AV.imm (IV.int IntKind.i64 e), AV.imm
 (IV.bool (e != (0 : Int))), AV.dead, AV.dead, AV.agg [AV.imm (IV.int IntKind.i64 v), AV.imm (IV.int IntKind.u32 iu), AV.imm (IV.int IntKind.u32 is), AV.imm (IV.int IntKind.u32 l), AV.imm (IV.int IntKind.u32 t), AV.imm (IV.int IntKind.u32 ty), AV.imm (IV.int IntKind.u32 c)], AV.imm (IV.int IntKind.i64 s), AV.imm (IV.int IntKind.u64 (sumU (Hd.mk v iu is l t ty c) s)), AV.ptr (0 : Nat) (0 : Nat), AV.imm (IV.bytes d), AV.imm (IV.int IntKind.i64 (↑(List.length d) : Int)), AV.ptr (0 : Nat) (1 : Nat), AV.imm (IV.int IntKind.i64 p), AV.imm (IV.int IntKind.i64 (IntKind.wrap IntKind.i64 ((↑(List.length d) : Int) - p))), AV.imm (IV.int IntKind.u64 (IntKind.wrap IntKind.u64 (IntKind.wrap IntKind.i64 ((↑(List.length d) : Int) - p)))), AV.imm (IV.bool (decide (sumU (Hd.mk v iu is l t ty c) s > IntKind.wrap IntKind.u64 (IntKind.wrap IntKind.i64 ((↑(List.length d) : Int) - p))))), AV.dead, AV.dead, AV.dead, AV.dead, AV.dead, AV.dead, AV.agg [AV.imm (IV.int IntKind.i64 v), AV.imm (IV.int IntKind.u32
 iu), AV.imm (IV.int IntKind.u32 is), AV.imm (IV.int IntKind.u32 l), AV.imm (IV.int IntKind.u32 t), AV.imm (IV.int IntKind.u32 ty), AV.imm (IV.int IntKind.u32 c)], AV.imm (IV.int IntKind.i64 s), AV.agg [AV.imm (IV.int IntKind.u64 (l0 (Hd.mk v iu is l t ty c) s)), AV.imm (IV.int IntKind.u64 (l1 (Hd.mk v iu is l t ty c))), AV.imm (IV.int IntKind.u64 (l2 (Hd.mk v iu is l t ty c))), AV.imm (IV.int IntKind.u64 (l3 (Hd.mk v iu is l t ty c))), AV.imm (IV.int IntKind.u64 (l4 (Hd.mk v iu is l t ty c) s)), AV.imm (IV.int IntKind.u64 (l5 (Hd.mk v iu is l t ty c))), AV.imm (IV.int IntKind.u64 (l6 (Hd.mk v iu is l t ty c)))], AV.agg [AV.imm (IV.bytes d), AV.imm (IV.int IntKind.i64 p), AV.imm (IV.int IntKind.i64 e), AV.imm (IV.int IntKind.i64 a)], AV.dead, AV.dead, AV.dead, AV.dead, AV.dead, AV.dead, AV.dead, AV.dead, AV.dead, AV.dead, AV.dead, AV.dead, AV.dead, AV.dead, AV.dead, AV.dead, AV.dead, AV.dead, AV.dead, AV.dead, AV.dead, AV.dead, AV.dead, AV.dead, AV.dead, AV.dead, AV.dead, AV.dead,
 AV.dead, AV.dead, AV.dead, AV.dead, AV.dead, AV.dead, AV.dead, AV.dead, AV.dead, AV.dead, AV.dead, AV.dead, AV.dead, AV.dead, AV.dead, AV.dead, AV.dead, AV.dead, AV.dead, AV.dead, AV.dead, AV.dead, AV.dead, AV.dead, AV.dead, AV.dead, AV.dead, AV.dead, AV.dead, AV.dead, AV.dead, AV.dead, AV.dead, AV.dead, AV.dead, AV.dead, AV.dead, AV.dead, AV.dead, AV.dead, AV.dead, AV.dead, AV.dead, AV.dead, AV.dead, AV.dead, AV.dead, AV.dead, AV.dead, AV.dead, AV.dead, AV.dead, AV.dead, AV.dead] [((0 : Nat), Ob.mk true (0 : Nat) (AObj.cells [AV.imm (IV.bytes d), AV.imm (IV.int IntKind.i64 p), AV.imm (IV.int IntKind.i64 e), AV.imm (IV.int IntKind.i64 a)])), ((1 : Nat), Ob.mk true (0 : Nat) (AObj.cells [AV.imm (IV.int IntKind.i64 v), AV.imm (IV.int IntKind.u32 iu), AV.imm (IV.int IntKind.u32 is), AV.imm (IV.int IntKind.u32 l), AV.imm (IV.int IntKind.u32 t), AV.imm (IV.int IntKind.u32 ty), AV.imm (IV.int IntKind.u32 c)])), ((2 : Nat), Ob.mk true (0 : Nat) (AObj.cells [AV.imm (IV.val (Value.slice none (0
 : Nat) (0 : Nat))), AV.imm (IV.val (Value.slice none (0 : Nat) (0 : Nat))), AV.imm (IV.val (Value.slice none (0 : Nat) (0 : Nat))), AV.imm (IV.val (Value.slice none (0 : Nat) (0 : Nat))), AV.imm (IV.val (Value.slice none (0 : Nat) (0 : Nat))), AV.imm (IV.val (Value.slice none (0 : Nat) (0 : Nat))), AV.imm (IV.val (Value.slice none (0 : Nat) (0 : Nat)))])), ((3 : Nat), Ob.mk true (0 : Nat) (AObj.cells [AV.imm (IV.val (Value.slice none (0 : Nat) (0 : Nat))), AV.imm (IV.int IntKind.i64 (0 : Int)), AV.imm (IV.int IntKind.i64 (0 : Int)), AV.imm (IV.int IntKind.i64 (0 : Int))])), ((4 : Nat), Ob.mk true (0 : Nat) (AObj.cells [AV.imm (IV.val (Value.slice none (0 : Nat) (0 : Nat))), AV.imm (IV.val (Value.slice none (0 : Nat) (0 : Nat))), AV.imm (IV.val (Value.slice none (0 : Nat) (0 : Nat))), AV.imm (IV.val (Value.slice none (0 : Nat) (0 : Nat))), AV.imm (IV.val (Value.slice none (0 : Nat) (0 : Nat))), AV.imm (IV.val (Value.slice none (0 : Nat) (0 : Nat))), AV.imm (IV.val (Value.slice none (0 :
 Nat) (0 : Nat)))])), ((5 : Nat), Ob.mk true (0 : Nat) (AObj.cells [AV.imm (IV.int IntKind.u64 (l0 (Hd.mk v iu is l t ty c) s)), AV.imm (IV.int IntKind.u64 (l1 (Hd.mk v iu is l t ty c))), AV.imm (IV.int IntKind.u64 (l2 (Hd.mk v iu is l t ty c))), AV.imm (IV.int IntKind.u64 (l3 (Hd.mk v iu is l t ty c))), AV.imm (IV.int IntKind.u64 (l4 (Hd.mk v iu is l t ty c) s)), AV.imm (IV.int IntKind.u64 (l5 (Hd.mk v iu is l t ty c))), AV.imm (IV.int IntKind.u64 (l6 (Hd.mk v iu is l t ty c)))])), ((6 : Nat), Ob.mk true (0 : Nat) (AObj.cells [AV.imm (IV.bytes d), AV.imm (IV.int IntKind.i64 p), AV.imm (IV.int IntKind.i64 e), AV.imm (IV.int IntKind.i64 a)]))] (7 : Nat) []) (finK K3h Tryd.f13 K))) ∧ okH (Hd.mk v iu is l t ty c) ∧ sz48 s ∧ brn (decide (sumU (Hd.mk v iu is l t ty c) s > IntKind.wrap IntKind.u64 (IntKind.wrap IntKind.i64 ((↑(List.length d) : Int) - p)))) R1 (okH (Hd.mk v iu is l t ty c) ∧ sz48 s ∧ LoopI K3h (bodyOf Tryd.f13) (0 : Nat) (St.mk [AV.agg [AV.imm (IV.bytes d), AV.imm (IV.int
 IntKind.i64 p), AV.imm (IV.int IntKind.i64 e), AV.imm (IV.int IntKind.i64 a)], AV.agg [AV.imm (IV.int IntKind.i64 v), AV.imm (IV.int IntKind.u32 iu), AV.imm (IV.int IntKind.u32 is), AV.imm (IV.int IntKind.u32 l), AV.imm (IV.int IntKind.u32 t), AV.imm (IV.int IntKind.u32 ty), AV.imm (IV.int IntKind.u32 c)], AV.imm (IV.int IntKind.i64 s), AV.imm (IV.int IntKind.i64 at'), AV.ptr (0 : Nat) (0 : Nat), AV.ptr (1 : Nat) (0 : Nat), AV.dead, AV.dead, AV.ptr (2 : Nat) (0 : Nat), AV.ptr (3 : Nat) (0 : Nat), AV.ptr (4 : Nat) (0 : Nat), AV.ptr (5 : Nat) (0 : Nat), AV.full (IV.sl (1 : Nat) []), AV.ptr (6 : Nat) (0 : Nat), AV.imm (IV.int IntKind.i64 (0 : Int)), AV.dead, AV.dead, AV.dead, AV.dead, AV.dead, AV.ptr (0 : Nat) (2 : Nat), AV.imm (IV.int IntKind.i64 e), AV.imm (IV.bool (e != (0 : Int))), AV.dead, AV.dead, AV.agg [AV.imm (IV.int IntKind.i64 v), AV.imm (IV.int IntKind.u32 iu), AV.imm (IV.int IntKind.u32 is), AV.imm (IV.int IntKind.u32 l), AV.imm (IV.int IntKind.u32 t), AV.imm (IV.int
 IntKind.u32 ty), AV.imm (IV.int IntKind.u32 c)], AV.imm (IV.int IntKind.i64 s), AV.imm (IV.int IntKind.u64 (sumU (Hd.mk v iu is l t ty c) s)), AV.ptr (0 : Nat) (0 : Nat), AV.imm (IV.bytes d), AV.imm (IV.int IntKind.i64 (↑(List.length d) : Int)), AV.ptr (0 : Nat) (1 : Nat), AV.imm (IV.int IntKind.i64 p), AV.imm (IV.int IntKind.i64 (IntKind.wrap IntKind.i64 ((↑(List.length d) : Int) - p))), AV.imm (IV.int IntKind.u64 (IntKind.wrap IntKind.u64 (IntKind.wrap IntKind.i64 ((↑(List.length d) : Int) - p)))), AV.imm (IV.bool (decide (sumU (Hd.mk v iu is l t ty c) s > IntKind.wrap IntKind.u64 (IntKind.wrap IntKind.i64 ((↑(List.length d) : Int) - p))))), AV.dead, AV.dead, AV.dead, AV.dead, AV.dead, AV.dead, AV.agg [AV.imm (IV.int IntKind.i64 v), AV.imm (IV.int IntKind.u32 iu), AV.imm (IV.int IntKind.u32 is), AV.imm (IV.int IntKind.u32 l), AV.imm (IV.int IntKind.u32 t), AV.imm (IV.int IntKind.u32 ty), AV.imm (IV.int IntKind.u32 c)], AV.imm (IV.int IntKind.i64 s), AV.agg [AV.imm (IV.int IntKind.u64
 (l0 (Hd.mk v iu is l t ty c) s)), AV.imm (IV.int IntKind.u64 (l1 (Hd.mk v iu is l t ty c))), AV.imm (IV.int IntKind.u64 (l2 (Hd.mk v iu is l t ty c))), AV.imm (IV.int IntKind.u64 (l3 (Hd.mk v iu is l t ty c))), AV.imm (IV.int IntKind.u64 (l4 (Hd.mk v iu is l t ty c) s)), AV.imm (IV.int IntKind.u64 (l5 (Hd.mk v iu is l t ty c))), AV.imm (IV.int IntKind.u64 (l6 (Hd.mk v iu is l t ty c)))], AV.agg [AV.imm (IV.bytes d), AV.imm (IV.int IntKind.i64 p), AV.imm (IV.int IntKind.i64 e), AV.imm (IV.int IntKind.i64 a)], AV.dead, AV.dead, AV.dead, AV.dead, AV.dead, AV.dead, AV.dead, AV.dead, AV.dead, AV.dead, AV.dead, AV.dead, AV.dead, AV.dead, AV.dead, AV.dead, AV.dead, AV.dead, AV.dead, AV.dead, AV.dead, AV.dead, AV.dead, AV.dead, AV.dead, AV.dead, AV.dead, AV.dead, AV.dead, AV.dead, AV.dead, AV.dead, AV.dead, AV.dead, AV.dead, AV.dead, AV.dead, AV.dead, AV.dead, AV.dead, AV.dead, AV.dead, AV.dead, AV.dead, AV.dead, AV.dead, AV.dead, AV.dead, AV.dead, AV.dead, AV.dead, AV.dead, AV.dead, AV.dead,
 AV.dead, AV.dead, AV.dead, AV.dead, AV.dead, AV.dead, AV.dead, AV.dead, AV.dead, AV.dead, AV.dead, AV.dead, AV.dead, AV.dead, AV.dead, AV.dead, AV.dead, AV.dead, AV.dead, AV.dead, AV.dead, AV.dead, AV.dead, AV.dead, AV.dead, AV.dead, AV.dead, AV.dead] [((0 : Nat), Ob.mk true (0 : Nat) (AObj.cells [AV.imm (IV.bytes d), AV.imm (IV.int IntKind.i64 p), AV.imm (IV.int IntKind.i64 e), AV.imm (IV.int IntKind.i64 a)])), ((1 : Nat), Ob.mk true (0 : Nat) (AObj.cells [AV.imm (IV.int IntKind.i64 v), AV.imm (IV.int IntKind.u32 iu), AV.imm (IV.int IntKind.u32 is), AV.imm (IV.int IntKind.u32 l), AV.imm (IV.int IntKind.u32 t), AV.imm (IV.int IntKind.u32 ty), AV.imm (IV.int IntKind.u32 c)])), ((2 : Nat), Ob.mk true (0 : Nat) (AObj.cells [AV.imm (IV.val (Value.slice none (0 : Nat) (0 : Nat))), AV.imm (IV.val (Value.slice none (0 : Nat) (0 : Nat))), AV.imm (IV.val (Value.slice none (0 : Nat) (0 : Nat))), AV.imm (IV.val (Value.slice none (0 : Nat) (0 : Nat))), AV.imm (IV.val (Value.slice none (0 : Nat) (0
 : Nat))), AV.imm (IV.val (Value.slice none (0 : Nat) (0 : Nat))), AV.imm (IV.val (Value.slice none (0 : Nat) (0 : Nat)))])), ((3 : Nat), Ob.mk true (0 : Nat) (AObj.cells [AV.imm (IV.val (Value.slice none (0 : Nat) (0 : Nat))), AV.imm (IV.int IntKind.i64 (0 : Int)), AV.imm (IV.int IntKind.i64 (0 : Int)), AV.imm (IV.int IntKind.i64 (0 : Int))])), ((4 : Nat), Ob.mk true (0 : Nat) (AObj.cells [AV.imm (IV.val (Value.slice none (0 : Nat) (0 : Nat))), AV.imm (IV.val (Value.slice none (0 : Nat) (0 : Nat))), AV.imm (IV.val (Value.slice none (0 : Nat) (0 : Nat))), AV.imm (IV.val (Value.slice none (0 : Nat) (0 : Nat))), AV.imm (IV.val (Value.slice none (0 : Nat) (0 : Nat))), AV.imm (IV.val (Value.slice none (0 : Nat) (0 : Nat))), AV.imm (IV.val (Value.slice none (0 : Nat) (0 : Nat)))])), ((5 : Nat), Ob.mk true (0 : Nat) (AObj.cells [AV.imm (IV.int IntKind.u64 (l0 (Hd.mk v iu is l t ty c) s)), AV.imm (IV.int IntKind.u64 (l1 (Hd.mk v iu is l t ty c))), AV.imm (IV.int IntKind.u64 (l2 (Hd.mk v iu is l
 t ty c))), AV.imm (IV.int IntKind.u64 (l3 (Hd.mk v iu is l t ty c))), AV.imm (IV.int IntKind.u64 (l4 (Hd.mk v iu is l t ty c) s)), AV.imm (IV.int IntKind.u64 (l5 (Hd.mk v iu is l t ty c))), AV.imm (IV.int IntKind.u64 (l6 (Hd.mk v iu is l t ty c)))])), ((6 : Nat), Ob.mk true (0 : Nat) (AObj.cells [AV.imm (IV.bytes d), AV.imm (IV.int IntKind.i64 p), AV.imm (IV.int IntKind.i64 e), AV.imm (IV.int IntKind.i64 a)]))] (7 : Nat) []) (finK K3h Tryd.f13 K)))) := by kernel_rfl
theorem f13_lp0 (n0 : Int) (n1 : Int) (n2 : Int) (n3 : Int) (n4 : Int) (n5 : Int) (n6 : Int) (s : Int) (at' : Int) (d : List
  UInt8) (p : Int) (e : Int) (a : Int) (xs : List
  (List
    IV)) (k : AX →
  St → Prop) : evCode K3h (loopB (bodyOf Tryd.f13) (0 : Nat)) (h13x n0 n1 n2 n3 n4 n5 n6 s at' d p e a xs (0 : Int)) k =
  ((okU (Cu.mk d p e a) ∧ (List.length xs + List.length [[IV.bytes (takeU (Cu.mk d p e a) (IntKind.wrap IntKind.i64 n0))]]) * (24 : Nat) ≤ (140737488355328 : Nat) ∧ List.length xs + List.length [[IV.bytes (takeU (Cu.mk d p e a) (IntKind.wrap IntKind.i64 n0))]] ≤ (140737488355328 : Nat) ∧ k AX.normal (St.mk [AV.dead, AV.dead, AV.imm (IV.int IntKind.i64 s), AV.imm (IV.int IntKind.i64 at'), AV.dead, AV.dead, AV.dead, AV.dead, AV.ptr (0 : Nat) (0 : Nat), AV.ptr (1 : Nat) (0 : Nat), AV.ptr (2 : Nat) (0 : Nat), AV.ptr (3 : Nat) (0 : Nat), AV.row (5 : Nat) (1 : Nat), AV.ptr (4 : Nat) (0 : Nat), AV.imm (IV.int IntKind.i64 (1 : Int)), AV.imm (IV.bytes (takeU (Cu.mk d p e a) (IntKind.wrap IntKind.i64 n0))), AV.ptr (7 : Nat) (0 : Nat), AV.dead, AV.dead, AV.dead, AV.dead, AV.dead, AV.dead, AV.dead, AV.dead, AV.dead, AV.dead, AV.dead, AV.dead, AV.dead, AV.dead, AV.dead, AV.dead, AV.dead, AV.dead, AV.dead, AV.dead, AV.dead, AV.dead, AV.dead, AV.dead, AV.dead, AV.dead, AV.dead, AV.dead, AV.dead, AV.imm
 (IV.int IntKind.i64 (0 : Int)), AV.imm (IV.bool true), AV.imm (IV.int IntKind.i64 (0 : Int)), AV.imm (IV.int IntKind.i64 (1 : Int)), AV.tup [AV.row (6 : Nat) (0 : Nat), AV.agg [AV.imm (IV.bytes (Cu.d (advU (Cu.mk d p e a) (IntKind.wrap IntKind.i64 n0)))), AV.imm (IV.int IntKind.i64 (Cu.p (advU (Cu.mk d p e a) (IntKind.wrap IntKind.i64 n0)))), AV.imm (IV.int IntKind.i64 (Cu.e (advU (Cu.mk d p e a) (IntKind.wrap IntKind.i64 n0)))), AV.imm (IV.int IntKind.i64 (Cu.a (advU (Cu.mk d p e a) (IntKind.wrap IntKind.i64 n0))))]], AV.agg [AV.imm (IV.bytes d), AV.imm (IV.int IntKind.i64 p), AV.imm (IV.int IntKind.i64 e), AV.imm (IV.int IntKind.i64 a)], AV.imm (IV.int IntKind.i64 (0 : Int)), AV.ptr (3 : Nat) (0 : Nat), AV.imm (IV.int IntKind.u64 n0), AV.imm (IV.int IntKind.i64 (IntKind.wrap IntKind.i64 n0)), AV.tup [AV.row (6 : Nat) (0 : Nat), AV.agg [AV.imm (IV.bytes (Cu.d (advU (Cu.mk d p e a) (IntKind.wrap IntKind.i64 n0)))), AV.imm (IV.int IntKind.i64 (Cu.p (advU (Cu.mk d p e a) (IntKind.wrap
 IntKind.i64 n0)))), AV.imm (IV.int IntKind.i64 (Cu.e (advU (Cu.mk d p e a) (IntKind.wrap IntKind.i64 n0)))), AV.imm (IV.int IntKind.i64 (Cu.a (advU (Cu.mk d p e a) (IntKind.wrap IntKind.i64 n0))))]], AV.imm (IV.bytes (takeU (Cu.mk d p e a) (IntKind.wrap IntKind.i64 n0))), AV.agg [AV.imm (IV.bytes (Cu.d (advU (Cu.mk d p e a) (IntKind.wrap IntKind.i64 n0)))), AV.imm (IV.int IntKind.i64 (Cu.p (advU (Cu.mk d p e a) (IntKind.wrap IntKind.i64 n0)))), AV.imm (IV.int IntKind.i64 (Cu.e (advU (Cu.mk d p e a) (IntKind.wrap IntKind.i64 n0)))), AV.imm (IV.int IntKind.i64 (Cu.a (advU (Cu.mk d p e a) (IntKind.wrap IntKind.i64 n0))))], AV.row (5 : Nat) (0 : Nat), AV.imm (IV.bytes (takeU (Cu.mk d p e a) (IntKind.wrap IntKind.i64 n0))), AV.full (IV.sl (1 : Nat) [[IV.bytes (takeU (Cu.mk d p e a) (IntKind.wrap IntKind.i64 n0))]]), AV.row (5 : Nat) (1 : Nat), AV.agg [AV.imm (IV.bytes (Cu.d (advU (Cu.mk d p e a) (IntKind.wrap IntKind.i64 n0)))), AV.imm (IV.int IntKind.i64 (Cu.p (advU (Cu.mk d p e a)
 (IntKind.wrap IntKind.i64 n0)))), AV.imm (IV.int IntKind.i64 (Cu.e (advU (Cu.mk d p e a) (IntKind.wrap IntKind.i64 n0)))), AV.imm (IV.int IntKind.i64 (Cu.a (advU (Cu.mk d p e a) (IntKind.wrap IntKind.i64 n0))))], AV.dead, AV.dead, AV.dead, AV.dead, AV.dead, AV.dead, AV.dead, AV.dead, AV.dead, AV.dead, AV.dead, AV.dead, AV.dead, AV.dead, AV.dead, AV.dead, AV.dead, AV.dead, AV.dead, AV.dead, AV.dead, AV.dead, AV.dead, AV.dead, AV.dead, AV.dead, AV.dead, AV.dead, AV.dead, AV.dead, AV.dead, AV.dead, AV.dead, AV.dead, AV.dead, AV.dead, AV.dead, AV.dead, AV.dead, AV.dead, AV.dead, AV.dead, AV.dead, AV.dead, AV.dead, AV.dead, AV.dead, AV.dead, AV.dead, AV.dead, AV.dead, AV.dead, AV.dead, AV.dead, AV.dead, AV.dead, AV.dead, AV.dead, AV.dead, AV.dead, AV.dead, AV.dead, AV.dead, AV.dead] [((0 : Nat), Ob.mk true (0 : Nat) (AObj.cells [AV.imm (IV.val (Value.slice none (0 : Nat) (0 : Nat))), AV.imm (IV.val (Value.slice none (0 : Nat) (0 : Nat))), AV.imm (IV.val (Value.slice none (0 : Nat) (0 :
 Nat))), AV.imm (IV.val (Value.slice none (0 : Nat) (0 : Nat))), AV.imm (IV.val (Value.slice none (0 : Nat) (0 : Nat))), AV.imm (IV.val (Value.slice none (0 : Nat) (0 : Nat))), AV.imm (IV.val (Value.slice none (0 : Nat) (0 : Nat)))])), ((1 : Nat), Ob.mk true (0 : Nat) (AObj.cells [AV.imm (IV.val (Value.slice none (0 : Nat) (0 : Nat))), AV.imm (IV.int IntKind.i64 (0 : Int)), AV.imm (IV.int IntKind.i64 (0 : Int)), AV.imm (IV.int IntKind.i64 (0 : Int))])), ((2 : Nat), Ob.mk true (0 : Nat) (AObj.cells [AV.imm (IV.val (Value.slice none (0 : Nat) (0 : Nat))), AV.imm (IV.val (Value.slice none (0 : Nat) (0 : Nat))), AV.imm (IV.val (Value.slice none (0 : Nat) (0 : Nat))), AV.imm (IV.val (Value.slice none (0 : Nat) (0 : Nat))), AV.imm (IV.val (Value.slice none (0 : Nat) (0 : Nat))), AV.imm (IV.val (Value.slice none (0 : Nat) (0 : Nat))), AV.imm (IV.val (Value.slice none (0 : Nat) (0 : Nat)))])), ((3 : Nat), Ob.mk true (0 : Nat) (AObj.cells [AV.imm (IV.int IntKind.u64 n0), AV.imm (IV.int
 IntKind.u64 n1), AV.imm (IV.int IntKind.u64 n2), AV.imm (IV.int IntKind.u64 n3), AV.imm (IV.int IntKind.u64 n4), AV.imm (IV.int IntKind.u64 n5), AV.imm (IV.int IntKind.u64 n6)])), ((4 : Nat), Ob.mk true (0 : Nat) (AObj.cells [AV.imm (IV.bytes (Cu.d (advU (Cu.mk d p e a) (IntKind.wrap IntKind.i64 n0)))), AV.imm (IV.int IntKind.i64 (Cu.p (advU (Cu.mk d p e a) (IntKind.wrap IntKind.i64 n0)))), AV.imm (IV.int IntKind.i64 (Cu.e (advU (Cu.mk d p e a) (IntKind.wrap IntKind.i64 n0)))), AV.imm (IV.int IntKind.i64 (Cu.a (advU (Cu.mk d p e a) (IntKind.wrap IntKind.i64 n0))))])), ((5 : Nat), Ob.mk true (1 : Nat) (AObj.row (IV.sl (1 : Nat) (xs ++ [[IV.bytes (takeU (Cu.mk d p e a) (IntKind.wrap IntKind.i64 n0))]])))), ((6 : Nat), Ob.mk false (0 : Nat) (AObj.row (IV.bytes (takeU (Cu.mk d p e a) (IntKind.wrap IntKind.i64 n0))))), ((7 : Nat), Ob.mk true (0 : Nat) (AObj.cells [AV.imm (IV.bytes (Cu.d (advU (Cu.mk d p e a) (IntKind.wrap IntKind.i64 n0)))), AV.imm (IV.int IntKind.i64 (Cu.p (advU (Cu.mk d p
 e a) (IntKind.wrap IntKind.i64 n0)))), AV.imm (IV.int IntKind.i64 (Cu.e (advU (Cu.mk d p e a) (IntKind.wrap IntKind.i64 n0)))), AV.imm (IV.int IntKind.i64 (Cu.a (advU (Cu.mk d p e a) (IntKind.wrap IntKind.i64 n0))))]))] (8 : Nat) [])) ∧ okU (Cu.mk d p e a) ∧ (List.length xs + List.length [[IV.bytes (takeU (Cu.mk d p e a) (IntKind.wrap IntKind.i64 n0))]]) * (24 : Nat) ≤ (140737488355328 : Nat) ∧ List.length xs + List.length [[IV.bytes (takeU (Cu.mk d p e a) (IntKind.wrap IntKind.i64 n0))]] ≤ (140737488355328 : Nat) ∧ k AX.normal (St.mk [AV.dead, AV.dead, AV.imm (IV.int IntKind.i64 s), AV.imm (IV.int IntKind.i64 at'), AV.dead, AV.dead, AV.dead, AV.dead, AV.ptr (0 : Nat) (0 : Nat), AV.ptr (1 : Nat) (0 : Nat), AV.ptr (2 : Nat) (0 : Nat), AV.ptr (3 : Nat) (0 : Nat), AV.row (5 : Nat) (1 : Nat), AV.ptr (4 : Nat) (0 : Nat), AV.imm (IV.int IntKind.i64 (1 : Int)), AV.imm (IV.bytes (takeU (Cu.mk d p e a) (IntKind.wrap IntKind.i64 n0))), AV.ptr (6 : Nat) (0 : Nat), AV.dead, AV.dead, AV.dead,
 AV.dead, AV.dead, AV.dead, AV.dead, AV.dead, AV.dead, AV.dead, AV.dead, AV.dead, AV.dead, AV.dead, AV.dead, AV.dead, AV.dead, AV.dead, AV.dead, AV.dead, AV.dead, AV.dead, AV.dead, AV.dead, AV.dead, AV.dead, AV.dead, AV.dead, AV.dead, AV.imm (IV.int IntKind.i64 (0 : Int)), AV.imm (IV.bool true), AV.imm (IV.int IntKind.i64 (0 : Int)), AV.imm (IV.int IntKind.i64 (1 : Int)), AV.tup [AV.row (7 : Nat) (0 : Nat), AV.agg [AV.imm (IV.bytes (Cu.d (advU (Cu.mk d p e a) (IntKind.wrap IntKind.i64 n0)))), AV.imm (IV.int IntKind.i64 (Cu.p (advU (Cu.mk d p e a) (IntKind.wrap IntKind.i64 n0)))), AV.imm (IV.int IntKind.i64 (Cu.e (advU (Cu.mk d p e a) (IntKind.wrap IntKind.i64 n0)))), AV.imm (IV.int IntKind.i64 (Cu.a (advU (Cu.mk d p e a) (IntKind.wrap IntKind.i64 n0))))]], AV.agg [AV.imm (IV.bytes d), AV.imm (IV.int IntKind.i64 p), AV.imm (IV.int IntKind.i64 e), AV.imm (IV.int IntKind.i64 a)], AV.imm (IV.int IntKind.i64 (0 : Int)), AV.ptr (3 : Nat) (0 : Nat), AV.imm (IV.int IntKind.u64 n0), AV.imm
 (IV.int IntKind.i64 (IntKind.wrap IntKind.i64 n0)), AV.tup [AV.row (7 : Nat) (0 : Nat), AV.agg [AV.imm (IV.bytes (Cu.d (advU (Cu.mk d p e a) (IntKind.wrap IntKind.i64 n0)))), AV.imm (IV.int IntKind.i64 (Cu.p (advU (Cu.mk d p e a) (IntKind.wrap IntKind.i64 n0)))), AV.imm (IV.int IntKind.i64 (Cu.e (advU (Cu.mk d p e a) (IntKind.wrap IntKind.i64 n0)))), AV.imm (IV.int IntKind.i64 (Cu.a (advU (Cu.mk d p e a) (IntKind.wrap IntKind.i64 n0))))]], AV.imm (IV.bytes (takeU (Cu.mk d p e a) (IntKind.wrap IntKind.i64 n0))), AV.agg [AV.imm (IV.bytes (Cu.d (advU (Cu.mk d p e a) (IntKind.wrap IntKind.i64 n0)))), AV.imm (IV.int IntKind.i64 (Cu.p (advU (Cu.mk d p e a) (IntKind.wrap IntKind.i64 n0)))), AV.imm (IV.int IntKind.i64 (Cu.e (advU (Cu.mk d p e a) (IntKind.wrap IntKind.i64 n0)))), AV.imm (IV.int IntKind.i64 (Cu.a (advU (Cu.mk d p e a) (IntKind.wrap IntKind.i64 n0))))], AV.row (5 : Nat) (0 : Nat), AV.imm (IV.bytes (takeU (Cu.mk d p e a) (IntKind.wrap IntKind.i64 n0))), AV.full (IV.sl (1 : Nat)
 [[IV.bytes (takeU (Cu.mk d p e a) (IntKind.wrap IntKind.i64 n0))]]), AV.row (5 : Nat) (1 : Nat), AV.agg [AV.imm (IV.bytes (Cu.d (advU (Cu.mk d p e a) (IntKind.wrap IntKind.i64 n0)))), AV.imm (IV.int IntKind.i64 (Cu.p (advU (Cu.mk d p e a) (IntKind.wrap IntKind.i64 n0)))), AV.imm (IV.int IntKind.i64 (Cu.e (advU (Cu.mk d p e a) (IntKind.wrap IntKind.i64 n0)))), AV.imm (IV.int IntKind.i64 (Cu.a (advU (Cu.mk d p e a) (IntKind.wrap IntKind.i64 n0))))], AV.dead, AV.dead, AV.dead, AV.dead, AV.dead, AV.dead, AV.dead, AV.dead, AV.dead, AV.dead, AV.dead, AV.dead, AV.dead, AV.dead, AV.dead, AV.dead, AV.dead, AV.dead, AV.dead, AV.dead, AV.dead, AV.dead, AV.dead, AV.dead, AV.dead, AV.dead, AV.dead, AV.dead, AV.dead, AV.dead, AV.dead, AV.dead, AV.dead, AV.dead, AV.dead, AV.dead, AV.dead, AV.dead, AV.dead, AV.dead, AV.dead, AV.dead, AV.dead, AV.dead, AV.dead, AV.dead, AV.dead, AV.dead, AV.dead, AV.dead, AV.dead, AV.dead, AV.dead, AV.dead, AV.dead, AV.dead, AV.dead, AV.dead, AV.dead, AV.dead, AV.dead,
 AV.dead, AV.dead, AV.dead] [((0 : Nat), Ob.mk true (0 : Nat) (AObj.cells [AV.imm (IV.val (Value.slice none (0 : Nat) (0 : Nat))), AV.imm (IV.val (Value.slice none (0 : Nat) (0 : Nat))), AV.imm (IV.val (Value.slice none (0 : Nat) (0 : Nat))), AV.imm (IV.val (Value.slice none (0 : Nat) (0 : Nat))), AV.imm (IV.val (Value.slice none (0 : Nat) (0 : Nat))), AV.imm (IV.val (Value.slice none (0 : Nat) (0 : Nat))), AV.imm (IV.val (Value.slice none (0 : Nat) (0 : Nat)))])), ((1 : Nat), Ob.mk true (0 : Nat) (AObj.cells [AV.imm (IV.val (Value.slice none (0 : Nat) (0 : Nat))), AV.imm (IV.int IntKind.i64 (0 : Int)), AV.imm (IV.int IntKind.i64 (0 : Int)), AV.imm (IV.int IntKind.i64 (0 : Int))])), ((2 : Nat), Ob.mk true (0 : Nat) (AObj.cells [AV.imm (IV.val (Value.slice none (0 : Nat) (0 : Nat))), AV.imm (IV.val (Value.slice none (0 : Nat) (0 : Nat))), AV.imm (IV.val (Value.slice none (0 : Nat) (0 : Nat))), AV.imm (IV.val (Value.slice none (0 : Nat) (0 : Nat))), AV.imm (IV.val (Value.slice none (0 :
 Nat) (0 : Nat))), AV.imm (IV.val (Value.slice none (0 : Nat) (0 : Nat))), AV.imm (IV.val (Value.slice none (0 : Nat) (0 : Nat)))])), ((3 : Nat), Ob.mk true (0 : Nat) (AObj.cells [AV.imm (IV.int IntKind.u64 n0), AV.imm (IV.int IntKind.u64 n1), AV.imm (IV.int IntKind.u64 n2), AV.imm (IV.int IntKind.u64 n3), AV.imm (IV.int IntKind.u64 n4), AV.imm (IV.int IntKind.u64 n5), AV.imm (IV.int IntKind.u64 n6)])), ((4 : Nat), Ob.mk true (0 : Nat) (AObj.cells [AV.imm (IV.bytes (Cu.d (advU (Cu.mk d p e a) (IntKind.wrap IntKind.i64 n0)))), AV.imm (IV.int IntKind.i64 (Cu.p (advU (Cu.mk d p e a) (IntKind.wrap IntKind.i64 n0)))), AV.imm (IV.int IntKind.i64 (Cu.e (advU (Cu.mk d p e a) (IntKind.wrap IntKind.i64 n0)))), AV.imm (IV.int IntKind.i64 (Cu.a (advU (Cu.mk d p e a) (IntKind.wrap IntKind.i64 n0))))])), ((5 : Nat), Ob.mk true (1 : Nat) (AObj.row (IV.sl (1 : Nat) (xs ++ [[IV.bytes (takeU (Cu.mk d p e a) (IntKind.wrap IntKind.i64 n0))]])))), ((6 : Nat), Ob.mk true (0 : Nat) (AObj.cells [AV.imm
 (IV.bytes (Cu.d (advU (Cu.mk d p e a) (IntKind.wrap IntKind.i64 n0)))), AV.imm (IV.int IntKind.i64 (Cu.p (advU (Cu.mk d p e a) (IntKind.wrap IntKind.i64 n0)))), AV.imm (IV.int IntKind.i64 (Cu.e (advU (Cu.mk d p e a) (IntKind.wrap IntKind.i64 n0)))), AV.imm (IV.int IntKind.i64 (Cu.a (advU (Cu.mk d p e a) (IntKind.wrap IntKind.i64 n0))))])), ((7 : Nat), Ob.mk false (0 : Nat) (AObj.row (IV.bytes (takeU (Cu.mk d p e a) (IntKind.wrap IntKind.i64 n0)))))] (8 : Nat) [])) := by kernel_rfl
theorem f13_lp1 (n0 : Int) (n1 : Int) (n2 : Int) (n3 : Int) (n4 : Int) (n5 : Int) (n6 : Int) (s : Int) (at' : Int) (d : List
  UInt8) (p : Int) (e : Int) (a : Int) (xs : List
  (List
    IV)) (k : AX →
  St → Prop) : evCode K3h (loopB (bodyOf Tryd.f13) (0 : Nat)) (h13x n0 n1 n2 n3 n4 n5 n6 s at' d p e a xs (1 : Int)) k =
  ((okU (Cu.mk d p e a) ∧ (List.length xs + List.length [[IV.bytes (takeU (Cu.mk d p e a) (IntKind.wrap IntKind.i64 n1))]]) * (24 : Nat) ≤ (140737488355328 : Nat) ∧ List.length xs + List.length [[IV.bytes (takeU (Cu.mk d p e a) (IntKind.wrap IntKind.i64 n1))]] ≤ (140737488355328 : Nat) ∧ k AX.normal (St.mk [AV.dead, AV.dead, AV.imm (IV.int IntKind.i64 s), AV.imm (IV.int IntKind.i64 at'), AV.dead, AV.dead, AV.dead, AV.dead, AV.ptr (0 : Nat) (0 : Nat), AV.ptr (1 : Nat) (0 : Nat), AV.ptr (2 : Nat) (0 : Nat), AV.ptr (3 : Nat) (0 : Nat), AV.row (5 : Nat) (1 : Nat), AV.ptr (4 : Nat) (0 : Nat), AV.imm (IV.int IntKind.i64 (2 : Int)), AV.imm (IV.bytes (takeU (Cu.mk d p e a) (IntKind.wrap IntKind.i64 n1))), AV.ptr (7 : Nat) (0 : Nat), AV.dead, AV.dead, AV.dead, AV.dead, AV.dead, AV.dead, AV.dead, AV.dead, AV.dead, AV.dead, AV.dead, AV.dead, AV.dead, AV.dead, AV.dead, AV.dead, AV.dead, AV.dead, AV.dead, AV.dead, AV.dead, AV.dead, AV.dead, AV.dead, AV.dead, AV.dead, AV.dead, AV.dead, AV.dead, AV.imm
 (IV.int IntKind.i64 (1 : Int)), AV.imm (IV.bool true), AV.imm (IV.int IntKind.i64 (1 : Int)), AV.imm (IV.int IntKind.i64 (2 : Int)), AV.tup [AV.row (6 : Nat) (0 : Nat), AV.agg [AV.imm (IV.bytes (Cu.d (advU (Cu.mk d p e a) (IntKind.wrap IntKind.i64 n1)))), AV.imm (IV.int IntKind.i64 (Cu.p (advU (Cu.mk d p e a) (IntKind.wrap IntKind.i64 n1)))), AV.imm (IV.int IntKind.i64 (Cu.e (advU (Cu.mk d p e a) (IntKind.wrap IntKind.i64 n1)))), AV.imm (IV.int IntKind.i64 (Cu.a (advU (Cu.mk d p e a) (IntKind.wrap IntKind.i64 n1))))]], AV.agg [AV.imm (IV.bytes d), AV.imm (IV.int IntKind.i64 p), AV.imm (IV.int IntKind.i64 e), AV.imm (IV.int IntKind.i64 a)], AV.imm (IV.int IntKind.i64 (1 : Int)), AV.ptr (3 : Nat) (1 : Nat), AV.imm (IV.int IntKind.u64 n1), AV.imm (IV.int IntKind.i64 (IntKind.wrap IntKind.i64 n1)), AV.tup [AV.row (6 : Nat) (0 : Nat), AV.agg [AV.imm (IV.bytes (Cu.d (advU (Cu.mk d p e a) (IntKind.wrap IntKind.i64 n1)))), AV.imm (IV.int IntKind.i64 (Cu.p (advU (Cu.mk d p e a) (IntKind.wrap
 IntKind.i64 n1)))), AV.imm (IV.int IntKind.i64 (Cu.e (advU (Cu.mk d p e a) (IntKind.wrap IntKind.i64 n1)))), AV.imm (IV.int IntKind.i64 (Cu.a (advU (Cu.mk d p e a) (IntKind.wrap IntKind.i64 n1))))]], AV.imm (IV.bytes (takeU (Cu.mk d p e a) (IntKind.wrap IntKind.i64 n1))), AV.agg [AV.imm (IV.bytes (Cu.d (advU (Cu.mk d p e a) (IntKind.wrap IntKind.i64 n1)))), AV.imm (IV.int IntKind.i64 (Cu.p (advU (Cu.mk d p e a) (IntKind.wrap IntKind.i64 n1)))), AV.imm (IV.int IntKind.i64 (Cu.e (advU (Cu.mk d p e a) (IntKind.wrap IntKind.i64 n1)))), AV.imm (IV.int IntKind.i64 (Cu.a (advU (Cu.mk d p e a) (IntKind.wrap IntKind.i64 n1))))], AV.row (5 : Nat) (0 : Nat), AV.imm (IV.bytes (takeU (Cu.mk d p e a) (IntKind.wrap IntKind.i64 n1))), AV.full (IV.sl (1 : Nat) [[IV.bytes (takeU (Cu.mk d p e a) (IntKind.wrap IntKind.i64 n1))]]), AV.row (5 : Nat) (1 : Nat), AV.agg [AV.imm (IV.bytes (Cu.d (advU (Cu.mk d p e a) (IntKind.wrap IntKind.i64 n1)))), AV.imm (IV.int IntKind.i64 (Cu.p (advU (Cu.mk d p e a)
 (IntKind.wrap IntKind.i64 n1)))), AV.imm (IV.int IntKind.i64 (Cu.e (advU (Cu.mk d p e a) (IntKind.wrap IntKind.i64 n1)))), AV.imm (IV.int IntKind.i64 (Cu.a (advU (Cu.mk d p e a) (IntKind.wrap IntKind.i64 n1))))], AV.dead, AV.dead, AV.dead, AV.dead, AV.dead, AV.dead, AV.dead, AV.dead, AV.dead, AV.dead, AV.dead, AV.dead, AV.dead, AV.dead, AV.dead, AV.dead, AV.dead, AV.dead, AV.dead, AV.dead, AV.dead, AV.dead, AV.dead, AV.dead, AV.dead, AV.dead, AV.dead, AV.dead, AV.dead, AV.dead, AV.dead, AV.dead, AV.dead, AV.dead, AV.dead, AV.dead, AV.dead, AV.dead, AV.dead, AV.dead, AV.dead, AV.dead, AV.dead, AV.dead, AV.dead, AV.dead, AV.dead, AV.dead, AV.dead, AV.dead, AV.dead, AV.dead, AV.dead, AV.dead, AV.dead, AV.dead, AV.dead, AV.dead, AV.dead, AV.dead, AV.dead, AV.dead, AV.dead, AV.dead] [((0 : Nat), Ob.mk true (0 : Nat) (AObj.cells [AV.imm (IV.val (Value.slice none (0 : Nat) (0 : Nat))), AV.imm (IV.val (Value.slice none (0 : Nat) (0 : Nat))), AV.imm (IV.val (Value.slice none (0 : Nat) (0 :
 Nat))), AV.imm (IV.val (Value.slice none (0 : Nat) (0 : Nat))), AV.imm (IV.val (Value.slice none (0 : Nat) (0 : Nat))), AV.imm (IV.val (Value.slice none (0 : Nat) (0 : Nat))), AV.imm (IV.val (Value.slice none (0 : Nat) (0 : Nat)))])), ((1 : Nat), Ob.mk true (0 : Nat) (AObj.cells [AV.imm (IV.val (Value.slice none (0 : Nat) (0 : Nat))), AV.imm (IV.int IntKind.i64 (0 : Int)), AV.imm (IV.int IntKind.i64 (0 : Int)), AV.imm (IV.int IntKind.i64 (0 : Int))])), ((2 : Nat), Ob.mk true (0 : Nat) (AObj.cells [AV.imm (IV.val (Value.slice none (0 : Nat) (0 : Nat))), AV.imm (IV.val (Value.slice none (0 : Nat) (0 : Nat))), AV.imm (IV.val (Value.slice none (0 : Nat) (0 : Nat))), AV.imm (IV.val (Value.slice none (0 : Nat) (0 : Nat))), AV.imm (IV.val (Value.slice none (0 : Nat) (0 : Nat))), AV.imm (IV.val (Value.slice none (0 : Nat) (0 : Nat))), AV.imm (IV.val (Value.slice none (0 : Nat) (0 : Nat)))])), ((3 : Nat), Ob.mk true (0 : Nat) (AObj.cells [AV.imm (IV.int IntKind.u64 n0), AV.imm (IV.int
 IntKind.u64 n1), AV.imm (IV.int IntKind.u64 n2), AV.imm (IV.int IntKind.u64 n3), AV.imm (IV.int IntKind.u64 n4), AV.imm (IV.int IntKind.u64 n5), AV.imm (IV.int IntKind.u64 n6)])), ((4 : Nat), Ob.mk true (0 : Nat) (AObj.cells [AV.imm (IV.bytes (Cu.d (advU (Cu.mk d p e a) (IntKind.wrap IntKind.i64 n1)))), AV.imm (IV.int IntKind.i64 (Cu.p (advU (Cu.mk d p e a) (IntKind.wrap IntKind.i64 n1)))), AV.imm (IV.int IntKind.i64 (Cu.e (advU (Cu.mk d p e a) (IntKind.wrap IntKind.i64 n1)))), AV.imm (IV.int IntKind.i64 (Cu.a (advU (Cu.mk d p e a) (IntKind.wrap IntKind.i64 n1))))])), ((5 : Nat), Ob.mk true (1 : Nat) (AObj.row (IV.sl (1 : Nat) (xs ++ [[IV.bytes (takeU (Cu.mk d p e a) (IntKind.wrap IntKind.i64 n1))]])))), ((6 : Nat), Ob.mk false (0 : Nat) (AObj.row (IV.bytes (takeU (Cu.mk d p e a) (IntKind.wrap IntKind.i64 n1))))), ((7 : Nat), Ob.mk true (0 : Nat) (AObj.cells [AV.imm (IV.bytes (Cu.d (advU (Cu.mk d p e a) (IntKind.wrap IntKind.i64 n1)))), AV.imm (IV.int IntKind.i64 (Cu.p (advU (Cu.mk d p
 e a) (IntKind.wrap IntKind.i64 n1)))), AV.imm (IV.int IntKind.i64 (Cu.e (advU (Cu.mk d p e a) (IntKind.wrap IntKind.i64 n1)))), AV.imm (IV.int IntKind.i64 (Cu.a (advU (Cu.mk d p e a) (IntKind.wrap IntKind.i64 n1))))]))] (8 : Nat) [])) ∧ okU (Cu.mk d p e a) ∧ (List.length xs + List.length [[IV.bytes (takeU (Cu.mk d p e a) (IntKind.wrap IntKind.i64 n1))]]) * (24 : Nat) ≤ (140737488355328 : Nat) ∧ List.length xs + List.length [[IV.bytes (takeU (Cu.mk d p e a) (IntKind.wrap IntKind.i64 n1))]] ≤ (140737488355328 : Nat) ∧ k AX.normal (St.mk [AV.dead, AV.dead, AV.imm (IV.int IntKind.i64 s), AV.imm (IV.int IntKind.i64 at'), AV.dead, AV.dead, AV.dead, AV.dead, AV.ptr (0 : Nat) (0 : Nat), AV.ptr (1 : Nat) (0 : Nat), AV.ptr (2 : Nat) (0 : Nat), AV.ptr (3 : Nat) (0 : Nat), AV.row (5 : Nat) (1 : Nat), AV.ptr (4 : Nat) (0 : Nat), AV.imm (IV.int IntKind.i64 (2 : Int)), AV.imm (IV.bytes (takeU (Cu.mk d p e a) (IntKind.wrap IntKind.i64 n1))), AV.ptr (6 : Nat) (0 : Nat), AV.dead, AV.dead, AV.dead,
 AV.dead, AV.dead, AV.dead, AV.dead, AV.dead, AV.dead, AV.dead, AV.dead, AV.dead, AV.dead, AV.dead, AV.dead, AV.dead, AV.dead, AV.dead, AV.dead, AV.dead, AV.dead, AV.dead, AV.dead, AV.dead, AV.dead, AV.dead, AV.dead, AV.dead, AV.dead, AV.imm (IV.int IntKind.i64 (1 : Int)), AV.imm (IV.bool true), AV.imm (IV.int IntKind.i64 (1 : Int)), AV.imm (IV.int IntKind.i64 (2 : Int)), AV.tup [AV.row (7 : Nat) (0 : Nat), AV.agg [AV.imm (IV.bytes (Cu.d (advU (Cu.mk d p e a) (IntKind.wrap IntKind.i64 n1)))), AV.imm (IV.int IntKind.i64 (Cu.p (advU (Cu.mk d p e a) (IntKind.wrap IntKind.i64 n1)))), AV.imm (IV.int IntKind.i64 (Cu.e (advU (Cu.mk d p e a) (IntKind.wrap IntKind.i64 n1)))), AV.imm (IV.int IntKind.i64 (Cu.a (advU (Cu.mk d p e a) (IntKind.wrap IntKind.i64 n1))))]], AV.agg [AV.imm (IV.bytes d), AV.imm (IV.int IntKind.i64 p), AV.imm (IV.int IntKind.i64 e), AV.imm (IV.int IntKind.i64 a)], AV.imm (IV.int IntKind.i64 (1 : Int)), AV.ptr (3 : Nat) (1 : Nat), AV.imm (IV.int IntKind.u64 n1), AV.imm
 (IV.int IntKind.i64 (IntKind.wrap IntKind.i64 n1)), AV.tup [AV.row (7 : Nat) (0 : Nat), AV.agg [AV.imm (IV.bytes (Cu.d (advU (Cu.mk d p e a) (IntKind.wrap IntKind.i64 n1)))), AV.imm (IV.int IntKind.i64 (Cu.p (advU (Cu.mk d p e a) (IntKind.wrap IntKind.i64 n1)))), AV.imm (IV.int IntKind.i64 (Cu.e (advU (Cu.mk d p e a) (IntKind.wrap IntKind.i64 n1)))), AV.imm (IV.int IntKind.i64 (Cu.a (advU (Cu.mk d p e a) (IntKind.wrap IntKind.i64 n1))))]], AV.imm (IV.bytes (takeU (Cu.mk d p e a) (IntKind.wrap IntKind.i64 n1))), AV.agg [AV.imm (IV.bytes (Cu.d (advU (Cu.mk d p e a) (IntKind.wrap IntKind.i64 n1)))), AV.imm (IV.int IntKind.i64 (Cu.p (advU (Cu.mk d p e a) (IntKind.wrap IntKind.i64 n1)))), AV.imm (IV.int IntKind.i64 (Cu.e (advU (Cu.mk d p e a) (IntKind.wrap IntKind.i64 n1)))), AV.imm (IV.int IntKind.i64 (Cu.a (advU (Cu.mk d p e a) (IntKind.wrap IntKind.i64 n1))))], AV.row (5 : Nat) (0 : Nat), AV.imm (IV.bytes (takeU (Cu.mk d p e a) (IntKind.wrap IntKind.i64 n1))), AV.full (IV.sl (1 : Nat)
 [[IV.bytes (takeU (Cu.mk d p e a) (IntKind.wrap IntKind.i64 n1))]]), AV.row (5 : Nat) (1 : Nat), AV.agg [AV.imm (IV.bytes (Cu.d (advU (Cu.mk d p e a) (IntKind.wrap IntKind.i64 n1)))), AV.imm (IV.int IntKind.i64 (Cu.p (advU (Cu.mk d p e a) (IntKind.wrap IntKind.i64 n1)))), AV.imm (IV.int IntKind.i64 (Cu.e (advU (Cu.mk d p e a) (IntKind.wrap IntKind.i64 n1)))), AV.imm (IV.int IntKind.i64 (Cu.a (advU (Cu.mk d p e a) (IntKind.wrap IntKind.i64 n1))))], AV.dead, AV.dead, AV.dead, AV.dead, AV.dead, AV.dead, AV.dead, AV.dead, AV.dead, AV.dead, AV.dead, AV.dead, AV.dead, AV.dead, AV.dead, AV.dead, AV.dead, AV.dead, AV.dead, AV.dead, AV.dead, AV.dead, AV.dead, AV.dead, AV.dead, AV.dead, AV.dead, AV.dead, AV.dead, AV.dead, AV.dead, AV.dead, AV.dead, AV.dead, AV.dead, AV.dead, AV.dead, AV.dead, AV.dead, AV.dead, AV.dead, AV.dead, AV.dead, AV.dead, AV.dead, AV.dead, AV.dead, AV.dead, AV.dead, AV.dead, AV.dead, AV.dead, AV.dead, AV.dead, AV.dead, AV.dead, AV.dead, AV.dead, AV.dead, AV.dead, AV.dead,
 AV.dead, AV.dead, AV.dead] [((0 : Nat), Ob.mk true (0 : Nat) (AObj.cells [AV.imm (IV.val (Value.slice none (0 : Nat) (0 : Nat))), AV.imm (IV.val (Value.slice none (0 : Nat) (0 : Nat))), AV.imm (IV.val (Value.slice none (0 : Nat) (0 : Nat))), AV.imm (IV.val (Value.slice none (0 : Nat) (0 : Nat))), AV.imm (IV.val (Value.slice none (0 : Nat) (0 : Nat))), AV.imm (IV.val (Value.slice none (0 : Nat) (0 : Nat))), AV.imm (IV.val (Value.slice none (0 : Nat) (0 : Nat)))])), ((1 : Nat), Ob.mk true (0 : Nat) (AObj.cells [AV.imm (IV.val (Value.slice none (0 : Nat) (0 : Nat))), AV.imm (IV.int IntKind.i64 (0 : Int)), AV.imm (IV.int IntKind.i64 (0 : Int)), AV.imm (IV.int IntKind.i64 (0 : Int))])), ((2 : Nat), Ob.mk true (0 : Nat) (AObj.cells [AV.imm (IV.val (Value.slice none (0 : Nat) (0 : Nat))), AV.imm (IV.val (Value.slice none (0 : Nat) (0 : Nat))), AV.imm (IV.val (Value.slice none (0 : Nat) (0 : Nat))), AV.imm (IV.val (Value.slice none (0 : Nat) (0 : Nat))), AV.imm (IV.val (Value.slice none (0 :
 Nat) (0 : Nat))), AV.imm (IV.val (Value.slice none (0 : Nat) (0 : Nat))), AV.imm (IV.val (Value.slice none (0 : Nat) (0 : Nat)))])), ((3 : Nat), Ob.mk true (0 : Nat) (AObj.cells [AV.imm (IV.int IntKind.u64 n0), AV.imm (IV.int IntKind.u64 n1), AV.imm (IV.int IntKind.u64 n2), AV.imm (IV.int IntKind.u64 n3), AV.imm (IV.int IntKind.u64 n4), AV.imm (IV.int IntKind.u64 n5), AV.imm (IV.int IntKind.u64 n6)])), ((4 : Nat), Ob.mk true (0 : Nat) (AObj.cells [AV.imm (IV.bytes (Cu.d (advU (Cu.mk d p e a) (IntKind.wrap IntKind.i64 n1)))), AV.imm (IV.int IntKind.i64 (Cu.p (advU (Cu.mk d p e a) (IntKind.wrap IntKind.i64 n1)))), AV.imm (IV.int IntKind.i64 (Cu.e (advU (Cu.mk d p e a) (IntKind.wrap IntKind.i64 n1)))), AV.imm (IV.int IntKind.i64 (Cu.a (advU (Cu.mk d p e a) (IntKind.wrap IntKind.i64 n1))))])), ((5 : Nat), Ob.mk true (1 : Nat) (AObj.row (IV.sl (1 : Nat) (xs ++ [[IV.bytes (takeU (Cu.mk d p e a) (IntKind.wrap IntKind.i64 n1))]])))), ((6 : Nat), Ob.mk true (0 : Nat) (AObj.cells [AV.imm
 (IV.bytes (Cu.d (advU (Cu.mk d p e a) (IntKind.wrap IntKind.i64 n1)))), AV.imm (IV.int IntKind.i64 (Cu.p (advU (Cu.mk d p e a) (IntKind.wrap IntKind.i64 n1)))), AV.imm (IV.int IntKind.i64 (Cu.e (advU (Cu.mk d p e a) (IntKind.wrap IntKind.i64 n1)))), AV.imm (IV.int IntKind.i64 (Cu.a (advU (Cu.mk d p e a) (IntKind.wrap IntKind.i64 n1))))])), ((7 : Nat), Ob.mk false (0 : Nat) (AObj.row (IV.bytes (takeU (Cu.mk d p e a) (IntKind.wrap IntKind.i64 n1)))))] (8 : Nat) [])) := by kernel_rfl
theorem f13_lp2 (n0 : Int) (n1 : Int) (n2 : Int) (n3 : Int) (n4 : Int) (n5 : Int) (n6 : Int) (s : Int) (at' : Int) (d : List
  UInt8) (p : Int) (e : Int) (a : Int) (xs : List
  (List
    IV)) (k : AX →
  St → Prop) : evCode K3h (loopB (bodyOf Tryd.f13) (0 : Nat)) (h13x n0 n1 n2 n3 n4 n5 n6 s at' d p e a xs (2 : Int)) k =
  ((okU (Cu.mk d p e a) ∧ (List.length xs + List.length [[IV.bytes (takeU (Cu.mk d p e a) (IntKind.wrap IntKind.i64 n2))]]) * (24 : Nat) ≤ (140737488355328 : Nat) ∧ List.length xs + List.length [[IV.bytes (takeU (Cu.mk d p e a) (IntKind.wrap IntKind.i64 n2))]] ≤ (140737488355328 : Nat) ∧ k AX.normal (St.mk [AV.dead, AV.dead, AV.imm (IV.int IntKind.i64 s), AV.imm (IV.int IntKind.i64 at'), AV.dead, AV.dead, AV.dead, AV.dead, AV.ptr (0 : Nat) (0 : Nat), AV.ptr (1 : Nat) (0 : Nat), AV.ptr (2 : Nat) (0 : Nat), AV.ptr (3 : Nat) (0 : Nat), AV.row (5 : Nat) (1 : Nat), AV.ptr (4 : Nat) (0 : Nat), AV.imm (IV.int IntKind.i64 (3 : Int)), AV.imm (IV.bytes (takeU (Cu.mk d p e a) (IntKind.wrap IntKind.i64 n2))), AV.ptr (7 : Nat) (0 : Nat), AV.dead, AV.dead, AV.dead, AV.dead, AV.dead, AV.dead, AV.dead, AV.dead, AV.dead, AV.dead, AV.dead, AV.dead, AV.dead, AV.dead, AV.dead, AV.dead, AV.dead, AV.dead, AV.dead, AV.dead, AV.dead, AV.dead, AV.dead, AV.dead, AV.dead, AV.dead, AV.dead, AV.dead, AV.dead, AV.imm
 (IV.int IntKind.i64 (2 : Int)), AV.imm (IV.bool true), AV.imm (IV.int IntKind.i64 (2 : Int)), AV.imm (IV.int IntKind.i64 (3 : Int)), AV.tup [AV.row (6 : Nat) (0 : Nat), AV.agg [AV.imm (IV.bytes (Cu.d (advU (Cu.mk d p e a) (IntKind.wrap IntKind.i64 n2)))), AV.imm (IV.int IntKind.i64 (Cu.p (advU (Cu.mk d p e a) (IntKind.wrap IntKind.i64 n2)))), AV.imm (IV.int IntKind.i64 (Cu.e (advU (Cu.mk d p e a) (IntKind.wrap IntKind.i64 n2)))), AV.imm (IV.int IntKind.i64 (Cu.a (advU (Cu.mk d p e a) (IntKind.wrap IntKind.i64 n2))))]], AV.agg [AV.imm (IV.bytes d), AV.imm (IV.int IntKind.i64 p), AV.imm (IV.int IntKind.i64 e), AV.imm (IV.int IntKind.i64 a)], AV.imm (IV.int IntKind.i64 (2 : Int)), AV.ptr (3 : Nat) (2 : Nat), AV.imm (IV.int IntKind.u64 n2), AV.imm (IV.int IntKind.i64 (IntKind.wrap IntKind.i64 n2)), AV.tup [AV.row (6 : Nat) (0 : Nat), AV.agg [AV.imm (IV.bytes (Cu.d (advU (Cu.mk d p e a) (IntKind.wrap IntKind.i64 n2)))), AV.imm (IV.int IntKind.i64 (Cu.p (advU (Cu.mk d p e a) (IntKind.wrap
 IntKind.i64 n2)))), AV.imm (IV.int IntKind.i64 (Cu.e (advU (Cu.mk d p e a) (IntKind.wrap IntKind.i64 n2)))), AV.imm (IV.int IntKind.i64 (Cu.a (advU (Cu.mk d p e a) (IntKind.wrap IntKind.i64 n2))))]], AV.imm (IV.bytes (takeU (Cu.mk d p e a) (IntKind.wrap IntKind.i64 n2))), AV.agg [AV.imm (IV.bytes (Cu.d (advU (Cu.mk d p e a) (IntKind.wrap IntKind.i64 n2)))), AV.imm (IV.int IntKind.i64 (Cu.p (advU (Cu.mk d p e a) (IntKind.wrap IntKind.i64 n2)))), AV.imm (IV.int IntKind.i64 (Cu.e (advU (Cu.mk d p e a) (IntKind.wrap IntKind.i64 n2)))), AV.imm (IV.int IntKind.i64 (Cu.a (advU (Cu.mk d p e a) (IntKind.wrap IntKind.i64 n2))))], AV.row (5 : Nat) (0 : Nat), AV.imm (IV.bytes (takeU (Cu.mk d p e a) (IntKind.wrap IntKind.i64 n2))), AV.full (IV.sl (1 : Nat) [[IV.bytes (takeU (Cu.mk d p e a) (IntKind.wrap IntKind.i64 n2))]]), AV.row (5 : Nat) (1 : Nat), AV.agg [AV.imm (IV.bytes (Cu.d (advU (Cu.mk d p e a) (IntKind.wrap IntKind.i64 n2)))), AV.imm (IV.int IntKind.i64 (Cu.p (advU (Cu.mk d p e a)
 (IntKind.wrap IntKind.i64 n2)))), AV.imm (IV.int IntKind.i64 (Cu.e (advU (Cu.mk d p e a) (IntKind.wrap IntKind.i64 n2)))), AV.imm (IV.int IntKind.i64 (Cu.a (advU (Cu.mk d p e a) (IntKind.wrap IntKind.i64 n2))))], AV.dead, AV.dead, AV.dead, AV.dead, AV.dead, AV.dead, AV.dead, AV.dead, AV.dead, AV.dead, AV.dead, AV.dead, AV.dead, AV.dead, AV.dead, AV.dead, AV.dead, AV.dead, AV.dead, AV.dead, AV.dead, AV.dead, AV.dead, AV.dead, AV.dead, AV.dead, AV.dead, AV.dead, AV.dead, AV.dead, AV.dead, AV.dead, AV.dead, AV.dead, AV.dead, AV.dead, AV.dead, AV.dead, AV.dead, AV.dead, AV.dead, AV.dead, AV.dead, AV.dead, AV.dead, AV.dead, AV.dead, AV.dead, AV.dead, AV.dead, AV.dead, AV.dead, AV.dead, AV.dead, AV.dead, AV.dead, AV.dead, AV.dead, AV.dead, AV.dead, AV.dead, AV.dead, AV.dead, AV.dead] [((0 : Nat), Ob.mk true (0 : Nat) (AObj.cells [AV.imm (IV.val (Value.slice none (0 : Nat) (0 : Nat))), AV.imm (IV.val (Value.slice none (0 : Nat) (0 : Nat))), AV.imm (IV.val (Value.slice none (0 : Nat) (0 :
 Nat))), AV.imm (IV.val (Value.slice none (0 : Nat) (0 : Nat))), AV.imm (IV.val (Value.slice none (0 : Nat) (0 : Nat))), AV.imm (IV.val (Value.slice none (0 : Nat) (0 : Nat))), AV.imm (IV.val (Value.slice none (0 : Nat) (0 : Nat)))])), ((1 : Nat), Ob.mk true (0 : Nat) (AObj.cells [AV.imm (IV.val (Value.slice none (0 : Nat) (0 : Nat))), AV.imm (IV.int IntKind.i64 (0 : Int)), AV.imm (IV.int IntKind.i64 (0 : Int)), AV.imm (IV.int IntKind.i64 (0 : Int))])), ((2 : Nat), Ob.mk true (0 : Nat) (AObj.cells [AV.imm (IV.val (Value.slice none (0 : Nat) (0 : Nat))), AV.imm (IV.val (Value.slice none (0 : Nat) (0 : Nat))), AV.imm (IV.val (Value.slice none (0 : Nat) (0 : Nat))), AV.imm (IV.val (Value.slice none (0 : Nat) (0 : Nat))), AV.imm (IV.val (Value.slice none (0 : Nat) (0 : Nat))), AV.imm (IV.val (Value.slice none (0 : Nat) (0 : Nat))), AV.imm (IV.val (Value.slice none (0 : Nat) (0 : Nat)))])), ((3 : Nat), Ob.mk true (0 : Nat) (AObj.cells [AV.imm (IV.int IntKind.u64 n0), AV.imm (IV.int
 IntKind.u64 n1), AV.imm (IV.int IntKind.u64 n2), AV.imm (IV.int IntKind.u64 n3), AV.imm (IV.int IntKind.u64 n4), AV.imm (IV.int IntKind.u64 n5), AV.imm (IV.int IntKind.u64 n6)])), ((4 : Nat), Ob.mk true (0 : Nat) (AObj.cells [AV.imm (IV.bytes (Cu.d (advU (Cu.mk d p e a) (IntKind.wrap IntKind.i64 n2)))), AV.imm (IV.int IntKind.i64 (Cu.p (advU (Cu.mk d p e a) (IntKind.wrap IntKind.i64 n2)))), AV.imm (IV.int IntKind.i64 (Cu.e (advU (Cu.mk d p e a) (IntKind.wrap IntKind.i64 n2)))), AV.imm (IV.int IntKind.i64 (Cu.a (advU (Cu.mk d p e a) (IntKind.wrap IntKind.i64 n2))))])), ((5 : Nat), Ob.mk true (1 : Nat) (AObj.row (IV.sl (1 : Nat) (xs ++ [[IV.bytes (takeU (Cu.mk d p e a) (IntKind.wrap IntKind.i64 n2))]])))), ((6 : Nat), Ob.mk false (0 : Nat) (AObj.row (IV.bytes (takeU (Cu.mk d p e a) (IntKind.wrap IntKind.i64 n2))))), ((7 : Nat), Ob.mk true (0 : Nat) (AObj.cells [AV.imm (IV.bytes (Cu.d (advU (Cu.mk d p e a) (IntKind.wrap IntKind.i64 n2)))), AV.imm (IV.int IntKind.i64 (Cu.p (advU (Cu.mk d p
 e a) (IntKind.wrap IntKind.i64 n2)))), AV.imm (IV.int IntKind.i64 (Cu.e (advU (Cu.mk d p e a) (IntKind.wrap IntKind.i64 n2)))), AV.imm (IV.int IntKind.i64 (Cu.a (advU (Cu.mk d p e a) (IntKind.wrap IntKind.i64 n2))))]))] (8 : Nat) [])) ∧ okU (Cu.mk d p e a) ∧ (List.length xs + List.length [[IV.bytes (takeU (Cu.mk d p e a) (IntKind.wrap IntKind.i64 n2))]]) * (24 : Nat) ≤ (140737488355328 : Nat) ∧ List.length xs + List.length [[IV.bytes (takeU (Cu.mk d p e a) (IntKind.wrap IntKind.i64 n2))]] ≤ (140737488355328 : Nat) ∧ k AX.normal (St.mk [AV.dead, AV.dead, AV.imm (IV.int IntKind.i64 s), AV.imm (IV.int IntKind.i64 at'), AV.dead, AV.dead, AV.dead, AV.dead, AV.ptr (0 : Nat) (0 : Nat), AV.ptr (1 : Nat) (0 : Nat), AV.ptr (2 : Nat) (0 : Nat), AV.ptr (3 : Nat) (0 : Nat), AV.row (5 : Nat) (1 : Nat), AV.ptr (4 : Nat) (0 : Nat), AV.imm (IV.int IntKind.i64 (3 : Int)), AV.imm (IV.bytes (takeU (Cu.mk d p e a) (IntKind.wrap IntKind.i64 n2))), AV.ptr (6 : Nat) (0 : Nat), AV.dead, AV.dead, AV.dead,
 AV.dead, AV.dead, AV.dead, AV.dead, AV.dead, AV.dead, AV.dead, AV.dead, AV.dead, AV.dead, AV.dead, AV.dead, AV.dead, AV.dead, AV.dead, AV.dead, AV.dead, AV.dead, AV.dead, AV.dead, AV.dead, AV.dead, AV.dead, AV.dead, AV.dead, AV.dead, AV.imm (IV.int IntKind.i64 (2 : Int)), AV.imm (IV.bool true), AV.imm (IV.int IntKind.i64 (2 : Int)), AV.imm (IV.int IntKind.i64 (3 : Int)), AV.tup [AV.row (7 : Nat) (0 : Nat), AV.agg [AV.imm (IV.bytes (Cu.d (advU (Cu.mk d p e a) (IntKind.wrap IntKind.i64 n2)))), AV.imm (IV.int IntKind.i64 (Cu.p (advU (Cu.mk d p e a) (IntKind.wrap IntKind.i64 n2)))), AV.imm (IV.int IntKind.i64 (Cu.e (advU (Cu.mk d p e a) (IntKind.wrap IntKind.i64 n2)))), AV.imm (IV.int IntKind.i64 (Cu.a (advU (Cu.mk d p e a) (IntKind.wrap IntKind.i64 n2))))]], AV.agg [AV.imm (IV.bytes d), AV.imm (IV.int IntKind.i64 p), AV.imm (IV.int IntKind.i64 e), AV.imm (IV.int IntKind.i64 a)], AV.imm (IV.int IntKind.i64 (2 : Int)), AV.ptr (3 : Nat) (2 : Nat), AV.imm (IV.int IntKind.u64 n2), AV.imm
 (IV.int IntKind.i64 (IntKind.wrap IntKind.i64 n2)), AV.tup [AV.row (7 : Nat) (0 : Nat), AV.agg [AV.imm (IV.bytes (Cu.d (advU (Cu.mk d p e a) (IntKind.wrap IntKind.i64 n2)))), AV.imm (IV.int IntKind.i64 (Cu.p (advU (Cu.mk d p e a) (IntKind.wrap IntKind.i64 n2)))), AV.imm (IV.int IntKind.i64 (Cu.e (advU (Cu.mk d p e a) (IntKind.wrap IntKind.i64 n2)))), AV.imm (IV.int IntKind.i64 (Cu.a (advU (Cu.mk d p e a) (IntKind.wrap IntKind.i64 n2))))]], AV.imm (IV.bytes (takeU (Cu.mk d p e a) (IntKind.wrap IntKind.i64 n2))), AV.agg [AV.imm (IV.bytes (Cu.d (advU (Cu.mk d p e a) (IntKind.wrap IntKind.i64 n2)))), AV.imm (IV.int IntKind.i64 (Cu.p (advU (Cu.mk d p e a) (IntKind.wrap IntKind.i64 n2)))), AV.imm (IV.int IntKind.i64 (Cu.e (advU (Cu.mk d p e a) (IntKind.wrap IntKind.i64 n2)))), AV.imm (IV.int IntKind.i64 (Cu.a (advU (Cu.mk d p e a) (IntKind.wrap IntKind.i64 n2))))], AV.row (5 : Nat) (0 : Nat), AV.imm (IV.bytes (takeU (Cu.mk d p e a) (IntKind.wrap IntKind.i64 n2))), AV.full (IV.sl (1 : Nat)
 [[IV.bytes (takeU (Cu.mk d p e a) (IntKind.wrap IntKind.i64 n2))]]), AV.row (5 : Nat) (1 : Nat), AV.agg [AV.imm (IV.bytes (Cu.d (advU (Cu.mk d p e a) (IntKind.wrap IntKind.i64 n2)))), AV.imm (IV.int IntKind.i64 (Cu.p (advU (Cu.mk d p e a) (IntKind.wrap IntKind.i64 n2)))), AV.imm (IV.int IntKind.i64 (Cu.e (advU (Cu.mk d p e a) (IntKind.wrap IntKind.i64 n2)))), AV.imm (IV.int IntKind.i64 (Cu.a (advU (Cu.mk d p e a) (IntKind.wrap IntKind.i64 n2))))], AV.dead, AV.dead, AV.dead, AV.dead, AV.dead, AV.dead, AV.dead, AV.dead, AV.dead, AV.dead, AV.dead, AV.dead, AV.dead, AV.dead, AV.dead, AV.dead, AV.dead, AV.dead, AV.dead, AV.dead, AV.dead, AV.dead, AV.dead, AV.dead, AV.dead, AV.dead, AV.dead, AV.dead, AV.dead, AV.dead, AV.dead, AV.dead, AV.dead, AV.dead, AV.dead, AV.dead, AV.dead, AV.dead, AV.dead, AV.dead, AV.dead, AV.dead, AV.dead, AV.dead, AV.dead, AV.dead, AV.dead, AV.dead, AV.dead, AV.dead, AV.dead, AV.dead, AV.dead, AV.dead, AV.dead, AV.dead, AV.dead, AV.dead, AV.dead, AV.dead, AV.dead,
 AV.dead, AV.dead, AV.dead] [((0 : Nat), Ob.mk true (0 : Nat) (AObj.cells [AV.imm (IV.val (Value.slice none (0 : Nat) (0 : Nat))), AV.imm (IV.val (Value.slice none (0 : Nat) (0 : Nat))), AV.imm (IV.val (Value.slice none (0 : Nat) (0 : Nat))), AV.imm (IV.val (Value.slice none (0 : Nat) (0 : Nat))), AV.imm (IV.val (Value.slice none (0 : Nat) (0 : Nat))), AV.imm (IV.val (Value.slice none (0 : Nat) (0 : Nat))), AV.imm (IV.val (Value.slice none (0 : Nat) (0 : Nat)))])), ((1 : Nat), Ob.mk true (0 : Nat) (AObj.cells [AV.imm (IV.val (Value.slice none (0 : Nat) (0 : Nat))), AV.imm (IV.int IntKind.i64 (0 : Int)), AV.imm (IV.int IntKind.i64 (0 : Int)), AV.imm (IV.int IntKind.i64 (0 : Int))])), ((2 : Nat), Ob.mk true (0 : Nat) (AObj.cells [AV.imm (IV.val (Value.slice none (0 : Nat) (0 : Nat))), AV.imm (IV.val (Value.slice none (0 : Nat) (0 : Nat))), AV.imm (IV.val (Value.slice none (0 : Nat) (0 : Nat))), AV.imm (IV.val (Value.slice none (0 : Nat) (0 : Nat))), AV.imm (IV.val (Value.slice none (0 :
 Nat) (0 : Nat))), AV.imm (IV.val (Value.slice none (0 : Nat) (0 : Nat))), AV.imm (IV.val (Value.slice none (0 : Nat) (0 : Nat)))])), ((3 : Nat), Ob.mk true (0 : Nat) (AObj.cells [AV.imm (IV.int IntKind.u64 n0), AV.imm (IV.int IntKind.u64 n1), AV.imm (IV.int IntKind.u64 n2), AV.imm (IV.int IntKind.u64 n3), AV.imm (IV.int IntKind.u64 n4), AV.imm (IV.int IntKind.u64 n5), AV.imm (IV.int IntKind.u64 n6)])), ((4 : Nat), Ob.mk true (0 : Nat) (AObj.cells [AV.imm (IV.bytes (Cu.d (advU (Cu.mk d p e a) (IntKind.wrap IntKind.i64 n2)))), AV.imm (IV.int IntKind.i64 (Cu.p (advU (Cu.mk d p e a) (IntKind.wrap IntKind.i64 n2)))), AV.imm (IV.int IntKind.i64 (Cu.e (advU (Cu.mk d p e a) (IntKind.wrap IntKind.i64 n2)))), AV.imm (IV.int IntKind.i64 (Cu.a (advU (Cu.mk d p e a) (IntKind.wrap IntKind.i64 n2))))])), ((5 : Nat), Ob.mk true (1 : Nat) (AObj.row (IV.sl (1 : Nat) (xs ++ [[IV.bytes (takeU (Cu.mk d p e a) (IntKind.wrap IntKind.i64 n2))]])))), ((6 : Nat), Ob.mk true (0 : Nat) (AObj.cells [AV.imm
 (IV.bytes (Cu.d (advU (Cu.mk d p e a) (IntKind.wrap IntKind.i64 n2)))), AV.imm (IV.int IntKind.i64 (Cu.p (advU (Cu.mk d p e a) (IntKind.wrap IntKind.i64 n2)))), AV.imm (IV.int IntKind.i64 (Cu.e (advU (Cu.mk d p e a) (IntKind.wrap IntKind.i64 n2)))), AV.imm (IV.int IntKind.i64 (Cu.a (advU (Cu.mk d p e a) (IntKind.wrap IntKind.i64 n2))))])), ((7 : Nat), Ob.mk false (0 : Nat) (AObj.row (IV.bytes (takeU (Cu.mk d p e a) (IntKind.wrap IntKind.i64 n2)))))] (8 : Nat) [])) := by kernel_rfl
theorem f13_lp3 (n0 : Int) (n1 : Int) (n2 : Int) (n3 : Int) (n4 : Int) (n5 : Int) (n6 : Int) (s : Int) (at' : Int) (d : List
  UInt8) (p : Int) (e : Int) (a : Int) (xs : List
  (List
    IV)) (k : AX →
  St → Prop) : evCode K3h (loopB (bodyOf Tryd.f13) (0 : Nat)) (h13x n0 n1 n2 n3 n4 n5 n6 s at' d p e a xs (3 : Int)) k =
  ((okU (Cu.mk d p e a) ∧ (List.length xs + List.length [[IV.bytes (takeU (Cu.mk d p e a) (IntKind.wrap IntKind.i64 n3))]]) * (24 : Nat) ≤ (140737488355328 : Nat) ∧ List.length xs + List.length [[IV.bytes (takeU (Cu.mk d p e a) (IntKind.wrap IntKind.i64 n3))]] ≤ (140737488355328 : Nat) ∧ k AX.normal (St.mk [AV.dead, AV.dead, AV.imm (IV.int IntKind.i64 s), AV.imm (IV.int IntKind.i64 at'), AV.dead, AV.dead, AV.dead, AV.dead, AV.ptr (0 : Nat) (0 : Nat), AV.ptr (1 : Nat) (0 : Nat), AV.ptr (2 : Nat) (0 : Nat), AV.ptr (3 : Nat) (0 : Nat), AV.row (5 : Nat) (1 : Nat), AV.ptr (4 : Nat) (0 : Nat), AV.imm (IV.int IntKind.i64 (4 : Int)), AV.imm (IV.bytes (takeU (Cu.mk d p e a) (IntKind.wrap IntKind.i64 n3))), AV.ptr (7 : Nat) (0 : Nat), AV.dead, AV.dead, AV.dead, AV.dead, AV.dead, AV.dead, AV.dead, AV.dead, AV.dead, AV.dead, AV.dead, AV.dead, AV.dead, AV.dead, AV.dead, AV.dead, AV.dead, AV.dead, AV.dead, AV.dead, AV.dead, AV.dead, AV.dead, AV.dead, AV.dead, AV.dead, AV.dead, AV.dead, AV.dead, AV.imm
 (IV.int IntKind.i64 (3 : Int)), AV.imm (IV.bool true), AV.imm (IV.int IntKind.i64 (3 : Int)), AV.imm (IV.int IntKind.i64 (4 : Int)), AV.tup [AV.row (6 : Nat) (0 : Nat), AV.agg [AV.imm (IV.bytes (Cu.d (advU (Cu.mk d p e a) (IntKind.wrap IntKind.i64 n3)))), AV.imm (IV.int IntKind.i64 (Cu.p (advU (Cu.mk d p e a) (IntKind.wrap IntKind.i64 n3)))), AV.imm (IV.int IntKind.i64 (Cu.e (advU (Cu.mk d p e a) (IntKind.wrap IntKind.i64 n3)))), AV.imm (IV.int IntKind.i64 (Cu.a (advU (Cu.mk d p e a) (IntKind.wrap IntKind.i64 n3))))]], AV.agg [AV.imm (IV.bytes d), AV.imm (IV.int IntKind.i64 p), AV.imm (IV.int IntKind.i64 e), AV.imm (IV.int IntKind.i64 a)], AV.imm (IV.int IntKind.i64 (3 : Int)), AV.ptr (3 : Nat) (3 : Nat), AV.imm (IV.int IntKind.u64 n3), AV.imm (IV.int IntKind.i64 (IntKind.wrap IntKind.i64 n3)), AV.tup [AV.row (6 : Nat) (0 : Nat), AV.agg [AV.imm (IV.bytes (Cu.d (advU (Cu.mk d p e a) (IntKind.wrap IntKind.i64 n3)))), AV.imm (IV.int IntKind.i64 (Cu.p (advU (Cu.mk d p e a) (IntKind.wrap
 IntKind.i64 n3)))), AV.imm (IV.int IntKind.i64 (Cu.e (advU (Cu.mk d p e a) (IntKind.wrap IntKind.i64 n3)))), AV.imm (IV.int IntKind.i64 (Cu.a (advU (Cu.mk d p e a) (IntKind.wrap IntKind.i64 n3))))]], AV.imm (IV.bytes (takeU (Cu.mk d p e a) (IntKind.wrap IntKind.i64 n3))), AV.agg [AV.imm (IV.bytes (Cu.d (advU (Cu.mk d p e a) (IntKind.wrap IntKind.i64 n3)))), AV.imm (IV.int IntKind.i64 (Cu.p (advU (Cu.mk d p e a) (IntKind.wrap IntKind.i64 n3)))), AV.imm (IV.int IntKind.i64 (Cu.e (advU (Cu.mk d p e a) (IntKind.wrap IntKind.i64 n3)))), AV.imm (IV.int IntKind.i64 (Cu.a (advU (Cu.mk d p e a) (IntKind.wrap IntKind.i64 n3))))], AV.row (5 : Nat) (0 : Nat), AV.imm (IV.bytes (takeU (Cu.mk d p e a) (IntKind.wrap IntKind.i64 n3))), AV.full (IV.sl (1 : Nat) [[IV.bytes (takeU (Cu.mk d p e a) (IntKind.wrap IntKind.i64 n3))]]), AV.row (5 : Nat) (1 : Nat), AV.agg [AV.imm (IV.bytes (Cu.d (advU (Cu.mk d p e a) (IntKind.wrap IntKind.i64 n3)))), AV.imm (IV.int IntKind.i64 (Cu.p (advU (Cu.mk d p e a)
 (IntKind.wrap IntKind.i64 n3)))), AV.imm (IV.int IntKind.i64 (Cu.e (advU (Cu.mk d p e a) (IntKind.wrap IntKind.i64 n3)))), AV.imm (IV.int IntKind.i64 (Cu.a (advU (Cu.mk d p e a) (IntKind.wrap IntKind.i64 n3))))], AV.dead, AV.dead, AV.dead, AV.dead, AV.dead, AV.dead, AV.dead, AV.dead, AV.dead, AV.dead, AV.dead, AV.dead, AV.dead, AV.dead, AV.dead, AV.dead, AV.dead, AV.dead, AV.dead, AV.dead, AV.dead, AV.dead, AV.dead, AV.dead, AV.dead, AV.dead, AV.dead, AV.dead, AV.dead, AV.dead, AV.dead, AV.dead, AV.dead, AV.dead, AV.dead, AV.dead, AV.dead, AV.dead, AV.dead, AV.dead, AV.dead, AV.dead, AV.dead, AV.dead, AV.dead, AV.dead, AV.dead, AV.dead, AV.dead, AV.dead, AV.dead, AV.dead, AV.dead, AV.dead, AV.dead, AV.dead, AV.dead, AV.dead, AV.dead, AV.dead, AV.dead, AV.dead, AV.dead, AV.dead] [((0 : Nat), Ob.mk true (0 : Nat) (AObj.cells [AV.imm (IV.val (Value.slice none (0 : Nat) (0 : Nat))), AV.imm (IV.val (Value.slice none (0 : Nat) (0 : Nat))), AV.imm (IV.val (Value.slice none (0 : Nat) (0 :
 Nat))), AV.imm (IV.val (Value.slice none (0 : Nat) (0 : Nat))), AV.imm (IV.val (Value.slice none (0 : Nat) (0 : Nat))), AV.imm (IV.val (Value.slice none (0 : Nat) (0 : Nat))), AV.imm (IV.val (Value.slice none (0 : Nat) (0 : Nat)))])), ((1 : Nat), Ob.mk true (0 : Nat) (AObj.cells [AV.imm (IV.val (Value.slice none (0 : Nat) (0 : Nat))), AV.imm (IV.int IntKind.i64 (0 : Int)), AV.imm (IV.int IntKind.i64 (0 : Int)), AV.imm (IV.int IntKind.i64 (0 : Int))])), ((2 : Nat), Ob.mk true (0 : Nat) (AObj.cells [AV.imm (IV.val (Value.slice none (0 : Nat) (0 : Nat))), AV.imm (IV.val (Value.slice none (0 : Nat) (0 : Nat))), AV.imm (IV.val (Value.slice none (0 : Nat) (0 : Nat))), AV.imm (IV.val (Value.slice none (0 : Nat) (0 : Nat))), AV.imm (IV.val (Value.slice none (0 : Nat) (0 : Nat))), AV.imm (IV.val (Value.slice none (0 : Nat) (0 : Nat))), AV.imm (IV.val (Value.slice none (0 : Nat) (0 : Nat)))])), ((3 : Nat), Ob.mk true (0 : Nat) (AObj.cells [AV.imm (IV.int IntKind.u64 n0), AV.imm (IV.int
 IntKind.u64 n1), AV.imm (IV.int IntKind.u64 n2), AV.imm (IV.int IntKind.u64 n3), AV.imm (IV.int IntKind.u64 n4), AV.imm (IV.int IntKind.u64 n5), AV.imm (IV.int IntKind.u64 n6)])), ((4 : Nat), Ob.mk true (0 : Nat) (AObj.cells [AV.imm (IV.bytes (Cu.d (advU (Cu.mk d p e a) (IntKind.wrap IntKind.i64 n3)))), AV.imm (IV.int IntKind.i64 (Cu.p (advU (Cu.mk d p e a) (IntKind.wrap IntKind.i64 n3)))), AV.imm (IV.int IntKind.i64 (Cu.e (advU (Cu.mk d p e a) (IntKind.wrap IntKind.i64 n3)))), AV.imm (IV.int IntKind.i64 (Cu.a (advU (Cu.mk d p e a) (IntKind.wrap IntKind.i64 n3))))])), ((5 : Nat), Ob.mk true (1 : Nat) (AObj.row (IV.sl (1 : Nat) (xs ++ [[IV.bytes (takeU (Cu.mk d p e a) (IntKind.wrap IntKind.i64 n3))]])))), ((6 : Nat), Ob.mk false (0 : Nat) (AObj.row (IV.bytes (takeU (Cu.mk d p e a) (IntKind.wrap IntKind.i64 n3))))), ((7 : Nat), Ob.mk true (0 : Nat) (AObj.cells [AV.imm (IV.bytes (Cu.d (advU (Cu.mk d p e a) (IntKind.wrap IntKind.i64 n3)))), AV.imm (IV.int IntKind.i64 (Cu.p (advU (Cu.mk d p
 e a) (IntKind.wrap IntKind.i64 n3)))), AV.imm (IV.int IntKind.i64 (Cu.e (advU (Cu.mk d p e a) (IntKind.wrap IntKind.i64 n3)))), AV.imm (IV.int IntKind.i64 (Cu.a (advU (Cu.mk d p e a) (IntKind.wrap IntKind.i64 n3))))]))] (8 : Nat) [])) ∧ okU (Cu.mk d p e a) ∧ (List.length xs + List.length [[IV.bytes (takeU (Cu.mk d p e a) (IntKind.wrap IntKind.i64 n3))]]) * (24 : Nat) ≤ (140737488355328 : Nat) ∧ List.length xs + List.length [[IV.bytes (takeU (Cu.mk d p e a) (IntKind.wrap IntKind.i64 n3))]] ≤ (140737488355328 : Nat) ∧ k AX.normal (St.mk [AV.dead, AV.dead, AV.imm (IV.int IntKind.i64 s), AV.imm (IV.int IntKind.i64 at'), AV.dead, AV.dead, AV.dead, AV.dead, AV.ptr (0 : Nat) (0 : Nat), AV.ptr (1 : Nat) (0 : Nat), AV.ptr (2 : Nat) (0 : Nat), AV.ptr (3 : Nat) (0 : Nat), AV.row (5 : Nat) (1 : Nat), AV.ptr (4 : Nat) (0 : Nat), AV.imm (IV.int IntKind.i64 (4 : Int)), AV.imm (IV.bytes (takeU (Cu.mk d p e a) (IntKind.wrap IntKind.i64 n3))), AV.ptr (6 : Nat) (0 : Nat), AV.dead, AV.dead, AV.dead,
 AV.dead, AV.dead, AV.dead, AV.dead, AV.dead, AV.dead, AV.dead, AV.dead, AV.dead, AV.dead, AV.dead, AV.dead, AV.dead, AV.dead, AV.dead, AV.dead, AV.dead, AV.dead, AV.dead, AV.dead, AV.dead, AV.dead, AV.dead, AV.dead, AV.dead, AV.dead, AV.imm (IV.int IntKind.i64 (3 : Int)), AV.imm (IV.bool true), AV.imm (IV.int IntKind.i64 (3 : Int)), AV.imm (IV.int IntKind.i64 (4 : Int)), AV.tup [AV.row (7 : Nat) (0 : Nat), AV.agg [AV.imm (IV.bytes (Cu.d (advU (Cu.mk d p e a) (IntKind.wrap IntKind.i64 n3)))), AV.imm (IV.int IntKind.i64 (Cu.p (advU (Cu.mk d p e a) (IntKind.wrap IntKind.i64 n3)))), AV.imm (IV.int IntKind.i64 (Cu.e (advU (Cu.mk d p e a) (IntKind.wrap IntKind.i64 n3)))), AV.imm (IV.int IntKind.i64 (Cu.a (advU (Cu.mk d p e a) (IntKind.wrap IntKind.i64 n3))))]], AV.agg [AV.imm (IV.bytes d), AV.imm (IV.int IntKind.i64 p), AV.imm (IV.int IntKind.i64 e), AV.imm (IV.int IntKind.i64 a)], AV.imm (IV.int IntKind.i64 (3 : Int)), AV.ptr (3 : Nat) (3 : Nat), AV.imm (IV.int IntKind.u64 n3), AV.imm
 (IV.int IntKind.i64 (IntKind.wrap IntKind.i64 n3)), AV.tup [AV.row (7 : Nat) (0 : Nat), AV.agg [AV.imm (IV.bytes (Cu.d (advU (Cu.mk d p e a) (IntKind.wrap IntKind.i64 n3)))), AV.imm (IV.int IntKind.i64 (Cu.p (advU (Cu.mk d p e a) (IntKind.wrap IntKind.i64 n3)))), AV.imm (IV.int IntKind.i64 (Cu.e (advU (Cu.mk d p e a) (IntKind.wrap IntKind.i64 n3)))), AV.imm (IV.int IntKind.i64 (Cu.a (advU (Cu.mk d p e a) (IntKind.wrap IntKind.i64 n3))))]], AV.imm (IV.bytes (takeU (Cu.mk d p e a) (IntKind.wrap IntKind.i64 n3))), AV.agg [AV.imm (IV.bytes (Cu.d (advU (Cu.mk d p e a) (IntKind.wrap IntKind.i64 n3)))), AV.imm (IV.int IntKind.i64 (Cu.p (advU (Cu.mk d p e a) (IntKind.wrap IntKind.i64 n3)))), AV.imm (IV.int IntKind.i64 (Cu.e (advU (Cu.mk d p e a) (IntKind.wrap IntKind.i64 n3)))), AV.imm (IV.int IntKind.i64 (Cu.a (advU (Cu.mk d p e a) (IntKind.wrap IntKind.i64 n3))))], AV.row (5 : Nat) (0 : Nat), AV.imm (IV.bytes (takeU (Cu.mk d p e a) (IntKind.wrap IntKind.i64 n3))), AV.full (IV.sl (1 : Nat)
 [[IV.bytes (takeU (Cu.mk d p e a) (IntKind.wrap IntKind.i64 n3))]]), AV.row (5 : Nat) (1 : Nat), AV.agg [AV.imm (IV.bytes (Cu.d (advU (Cu.mk d p e a) (IntKind.wrap IntKind.i64 n3)))), AV.imm (IV.int IntKind.i64 (Cu.p (advU (Cu.mk d p e a) (IntKind.wrap IntKind.i64 n3)))), AV.imm (IV.int IntKind.i64 (Cu.e (advU (Cu.mk d p e a) (IntKind.wrap IntKind.i64 n3)))), AV.imm (IV.int IntKind.i64 (Cu.a (advU (Cu.mk d p e a) (IntKind.wrap IntKind.i64 n3))))], AV.dead, AV.dead, AV.dead, AV.dead, AV.dead, AV.dead, AV.dead, AV.dead, AV.dead, AV.dead, AV.dead, AV.dead, AV.dead, AV.dead, AV.dead, AV.dead, AV.dead, AV.dead, AV.dead, AV.dead, AV.dead, AV.dead, AV.dead, AV.dead, AV.dead, AV.dead, AV.dead, AV.dead, AV.dead, AV.dead, AV.dead, AV.dead, AV.dead, AV.dead, AV.dead, AV.dead, AV.dead, AV.dead, AV.dead, AV.dead, AV.dead, AV.dead, AV.dead, AV.dead, AV.dead, AV.dead, AV.dead, AV.dead, AV.dead, AV.dead, AV.dead, AV.dead, AV.dead, AV.dead, AV.dead, AV.dead, AV.dead, AV.dead, AV.dead, AV.dead, AV.dead,
 AV.dead, AV.dead, AV.dead] [((0 : Nat), Ob.mk true (0 : Nat) (AObj.cells [AV.imm (IV.val (Value.slice none (0 : Nat) (0 : Nat))), AV.imm (IV.val (Value.slice none (0 : Nat) (0 : Nat))), AV.imm (IV.val (Value.slice none (0 : Nat) (0 : Nat))), AV.imm (IV.val (Value.slice none (0 : Nat) (0 : Nat))), AV.imm (IV.val (Value.slice none (0 : Nat) (0 : Nat))), AV.imm (IV.val (Value.slice none (0 : Nat) (0 : Nat))), AV.imm (IV.val (Value.slice none (0 : Nat) (0 : Nat)))])), ((1 : Nat), Ob.mk true (0 : Nat) (AObj.cells [AV.imm (IV.val (Value.slice none (0 : Nat) (0 : Nat))), AV.imm (IV.int IntKind.i64 (0 : Int)), AV.imm (IV.int IntKind.i64 (0 : Int)), AV.imm (IV.int IntKind.i64 (0 : Int))])), ((2 : Nat), Ob.mk true (0 : Nat) (AObj.cells [AV.imm (IV.val (Value.slice none (0 : Nat) (0 : Nat))), AV.imm (IV.val (Value.slice none (0 : Nat) (0 : Nat))), AV.imm (IV.val (Value.slice none (0 : Nat) (0 : Nat))), AV.imm (IV.val (Value.slice none (0 : Nat) (0 : Nat))), AV.imm (IV.val (Value.slice none (0 :
 Nat) (0 : Nat))), AV.imm (IV.val (Value.slice none (0 : Nat) (0 : Nat))), AV.imm (IV.val (Value.slice none (0 : Nat) (0 : Nat)))])), ((3 : Nat), Ob.mk true (0 : Nat) (AObj.cells [AV.imm (IV.int IntKind.u64 n0), AV.imm (IV.int IntKind.u64 n1), AV.imm (IV.int IntKind.u64 n2), AV.imm (IV.int IntKind.u64 n3), AV.imm (IV.int IntKind.u64 n4), AV.imm (IV.int IntKind.u64 n5), AV.imm (IV.int IntKind.u64 n6)])), ((4 : Nat), Ob.mk true (0 : Nat) (AObj.cells [AV.imm (IV.bytes (Cu.d (advU (Cu.mk d p e a) (IntKind.wrap IntKind.i64 n3)))), AV.imm (IV.int IntKind.i64 (Cu.p (advU (Cu.mk d p e a) (IntKind.wrap IntKind.i64 n3)))), AV.imm (IV.int IntKind.i64 (Cu.e (advU (Cu.mk d p e a) (IntKind.wrap IntKind.i64 n3)))), AV.imm (IV.int IntKind.i64 (Cu.a (advU (Cu.mk d p e a) (IntKind.wrap IntKind.i64 n3))))])), ((5 : Nat), Ob.mk true (1 : Nat) (AObj.row (IV.sl (1 : Nat) (xs ++ [[IV.bytes (takeU (Cu.mk d p e a) (IntKind.wrap IntKind.i64 n3))]])))), ((6 : Nat), Ob.mk true (0 : Nat) (AObj.cells [AV.imm
 (IV.bytes (Cu.d (advU (Cu.mk d p e a) (IntKind.wrap IntKind.i64 n3)))), AV.imm (IV.int IntKind.i64 (Cu.p (advU (Cu.mk d p e a) (IntKind.wrap IntKind.i64 n3)))), AV.imm (IV.int IntKind.i64 (Cu.e (advU (Cu.mk d p e a) (IntKind.wrap IntKind.i64 n3)))), AV.imm (IV.int IntKind.i64 (Cu.a (advU (Cu.mk d p e a) (IntKind.wrap IntKind.i64 n3))))])), ((7 : Nat), Ob.mk false (0 : Nat) (AObj.row (IV.bytes (takeU (Cu.mk d p e a) (IntKind.wrap IntKind.i64 n3)))))] (8 : Nat) [])) := by kernel_rfl
theorem f13_lp4 (n0 : Int) (n1 : Int) (n2 : Int) (n3 : Int) (n4 : Int) (n5 : Int) (n6 : Int) (s : Int) (at' : Int) (d : List
  UInt8) (p : Int) (e : Int) (a : Int) (xs : List
  (List
    IV)) (k : AX →
  St → Prop) : evCode K3h (loopB (bodyOf Tryd.f13) (0 : Nat)) (h13x n0 n1 n2 n3 n4 n5 n6 s at' d p e a xs (4 : Int)) k =
  ((okU (Cu.mk d p e a) ∧ (List.length xs + List.length [[IV.bytes (takeU (Cu.mk d p e a) (IntKind.wrap IntKind.i64 n4))]]) * (24 : Nat) ≤ (140737488355328 : Nat) ∧ List.length xs + List.length [[IV.bytes (takeU (Cu.mk d p e a) (IntKind.wrap IntKind.i64 n4))]] ≤ (140737488355328 : Nat) ∧ k AX.normal (St.mk [AV.dead, AV.dead, AV.imm (IV.int IntKind.i64 s), AV.imm (IV.int IntKind.i64 at'), AV.dead, AV.dead, AV.dead, AV.dead, AV.ptr (0 : Nat) (0 : Nat), AV.ptr (1 : Nat) (0 : Nat), AV.ptr (2 : Nat) (0 : Nat), AV.ptr (3 : Nat) (0 : Nat), AV.row (5 : Nat) (1 : Nat), AV.ptr (4 : Nat) (0 : Nat), AV.imm (IV.int IntKind.i64 (5 : Int)), AV.imm (IV.bytes (takeU (Cu.mk d p e a) (IntKind.wrap IntKind.i64 n4))), AV.ptr (7 : Nat) (0 : Nat), AV.dead, AV.dead, AV.dead, AV.dead, AV.dead, AV.dead, AV.dead, AV.dead, AV.dead, AV.dead, AV.dead, AV.dead, AV.dead, AV.dead, AV.dead, AV.dead, AV.dead, AV.dead, AV.dead, AV.dead, AV.dead, AV.dead, AV.dead, AV.dead, AV.dead, AV.dead, AV.dead, AV.dead, AV.dead, AV.imm
 (IV.int IntKind.i64 (4 : Int)), AV.imm (IV.bool true), AV.imm (IV.int IntKind.i64 (4 : Int)), AV.imm (IV.int IntKind.i64 (5 : Int)), AV.tup [AV.row (6 : Nat) (0 : Nat), AV.agg [AV.imm (IV.bytes (Cu.d (advU (Cu.mk d p e a) (IntKind.wrap IntKind.i64 n4)))), AV.imm (IV.int IntKind.i64 (Cu.p (advU (Cu.mk d p e a) (IntKind.wrap IntKind.i64 n4)))), AV.imm (IV.int IntKind.i64 (Cu.e (advU (Cu.mk d p e a) (IntKind.wrap IntKind.i64 n4)))), AV.imm (IV.int IntKind.i64 (Cu.a (advU (Cu.mk d p e a) (IntKind.wrap IntKind.i64 n4))))]], AV.agg [AV.imm (IV.bytes d), AV.imm (IV.int IntKind.i64 p), AV.imm (IV.int IntKind.i64 e), AV.imm (IV.int IntKind.i64 a)], AV.imm (IV.int IntKind.i64 (4 : Int)), AV.ptr (3 : Nat) (4 : Nat), AV.imm (IV.int IntKind.u64 n4), AV.imm (IV.int IntKind.i64 (IntKind.wrap IntKind.i64 n4)), AV.tup [AV.row (6 : Nat) (0 : Nat), AV.agg [AV.imm (IV.bytes (Cu.d (advU (Cu.mk d p e a) (IntKind.wrap IntKind.i64 n4)))), AV.imm (IV.int IntKind.i64 (Cu.p (advU (Cu.mk d p e a) (IntKind.wrap
 IntKind.i64 n4)))), AV.imm (IV.int IntKind.i64 (Cu.e (advU (Cu.mk d p e a) (IntKind.wrap IntKind.i64 n4)))), AV.imm (IV.int IntKind.i64 (Cu.a (advU (Cu.mk d p e a) (IntKind.wrap IntKind.i64 n4))))]], AV.imm (IV.bytes (takeU (Cu.mk d p e a) (IntKind.wrap IntKind.i64 n4))), AV.agg [AV.imm (IV.bytes (Cu.d (advU (Cu.mk d p e a) (IntKind.wrap IntKind.i64 n4)))), AV.imm (IV.int IntKind.i64 (Cu.p (advU (Cu.mk d p e a) (IntKind.wrap IntKind.i64 n4)))), AV.imm (IV.int IntKind.i64 (Cu.e (advU (Cu.mk d p e a) (IntKind.wrap IntKind.i64 n4)))), AV.imm (IV.int IntKind.i64 (Cu.a (advU (Cu.mk d p e a) (IntKind.wrap IntKind.i64 n4))))], AV.row (5 : Nat) (0 : Nat), AV.imm (IV.bytes (takeU (Cu.mk d p e a) (IntKind.wrap IntKind.i64 n4))), AV.full (IV.sl (1 : Nat) [[IV.bytes (takeU (Cu.mk d p e a) (IntKind.wrap IntKind.i64 n4))]]), AV.row (5 : Nat) (1 : Nat), AV.agg [AV.imm (IV.bytes (Cu.d (advU (Cu.mk d p e a) (IntKind.wrap IntKind.i64 n4)))), AV.imm (IV.int IntKind.i64 (Cu.p (advU (Cu.mk d p e a)
 (IntKind.wrap IntKind.i64 n4)))), AV.imm (IV.int IntKind.i64 (Cu.e (advU (Cu.mk d p e a) (IntKind.wrap IntKind.i64 n4)))), AV.imm (IV.int IntKind.i64 (Cu.a (advU (Cu.mk d p e a) (IntKind.wrap IntKind.i64 n4))))], AV.dead, AV.dead, AV.dead, AV.dead, AV.dead, AV.dead, AV.dead, AV.dead, AV.dead, AV.dead, AV.dead, AV.dead, AV.dead, AV.dead, AV.dead, AV.dead, AV.dead, AV.dead, AV.dead, AV.dead, AV.dead, AV.dead, AV.dead, AV.dead, AV.dead, AV.dead, AV.dead, AV.dead, AV.dead, AV.dead, AV.dead, AV.dead, AV.dead, AV.dead, AV.dead, AV.dead, AV.dead, AV.dead, AV.dead, AV.dead, AV.dead, AV.dead, AV.dead, AV.dead, AV.dead, AV.dead, AV.dead, AV.dead, AV.dead, AV.dead, AV.dead, AV.dead, AV.dead, AV.dead, AV.dead, AV.dead, AV.dead, AV.dead, AV.dead, AV.dead, AV.dead, AV.dead, AV.dead, AV.dead] [((0 : Nat), Ob.mk true (0 : Nat) (AObj.cells [AV.imm (IV.val (Value.slice none (0 : Nat) (0 : Nat))), AV.imm (IV.val (Value.slice none (0 : Nat) (0 : Nat))), AV.imm (IV.val (Value.slice none (0 : Nat) (0 :
 Nat))), AV.imm (IV.val (Value.slice none (0 : Nat) (0 : Nat))), AV.imm (IV.val (Value.slice none (0 : Nat) (0 : Nat))), AV.imm (IV.val (Value.slice none (0 : Nat) (0 : Nat))), AV.imm (IV.val (Value.slice none (0 : Nat) (0 : Nat)))])), ((1 : Nat), Ob.mk true (0 : Nat) (AObj.cells [AV.imm (IV.val (Value.slice none (0 : Nat) (0 : Nat))), AV.imm (IV.int IntKind.i64 (0 : Int)), AV.imm (IV.int IntKind.i64 (0 : Int)), AV.imm (IV.int IntKind.i64 (0 : Int))])), ((2 : Nat), Ob.mk true (0 : Nat) (AObj.cells [AV.imm (IV.val (Value.slice none (0 : Nat) (0 : Nat))), AV.imm (IV.val (Value.slice none (0 : Nat) (0 : Nat))), AV.imm (IV.val (Value.slice none (0 : Nat) (0 : Nat))), AV.imm (IV.val (Value.slice none (0 : Nat) (0 : Nat))), AV.imm (IV.val (Value.slice none (0 : Nat) (0 : Nat))), AV.imm (IV.val (Value.slice none (0 : Nat) (0 : Nat))), AV.imm (IV.val (Value.slice none (0 : Nat) (0 : Nat)))])), ((3 : Nat), Ob.mk true (0 : Nat) (AObj.cells [AV.imm (IV.int IntKind.u64 n0), AV.imm (IV.int
 IntKind.u64 n1), AV.imm (IV.int IntKind.u64 n2), AV.imm (IV.int IntKind.u64 n3), AV.imm (IV.int IntKind.u64 n4), AV.imm (IV.int IntKind.u64 n5), AV.imm (IV.int IntKind.u64 n6)])), ((4 : Nat), Ob.mk true (0 : Nat) (AObj.cells [AV.imm (IV.bytes (Cu.d (advU (Cu.mk d p e a) (IntKind.wrap IntKind.i64 n4)))), AV.imm (IV.int IntKind.i64 (Cu.p (advU (Cu.mk d p e a) (IntKind.wrap IntKind.i64 n4)))), AV.imm (IV.int IntKind.i64 (Cu.e (advU (Cu.mk d p e a) (IntKind.wrap IntKind.i64 n4)))), AV.imm (IV.int IntKind.i64 (Cu.a (advU (Cu.mk d p e a) (IntKind.wrap IntKind.i64 n4))))])), ((5 : Nat), Ob.mk true (1 : Nat) (AObj.row (IV.sl (1 : Nat) (xs ++ [[IV.bytes (takeU (Cu.mk d p e a) (IntKind.wrap IntKind.i64 n4))]])))), ((6 : Nat), Ob.mk false (0 : Nat) (AObj.row (IV.bytes (takeU (Cu.mk d p e a) (IntKind.wrap IntKind.i64 n4))))), ((7 : Nat), Ob.mk true (0 : Nat) (AObj.cells [AV.imm (IV.bytes (Cu.d (advU (Cu.mk d p e a) (IntKind.wrap IntKind.i64 n4)))), AV.imm (IV.int IntKind.i64 (Cu.p (advU (Cu.mk d p
 e a) (IntKind.wrap IntKind.i64 n4)))), AV.imm (IV.int IntKind.i64 (Cu.e (advU (Cu.mk d p e a) (IntKind.wrap IntKind.i64 n4)))), AV.imm (IV.int IntKind.i64 (Cu.a (advU (Cu.mk d p e a) (IntKind.wrap IntKind.i64 n4))))]))] (8 : Nat) [])) ∧ okU (Cu.mk d p e a) ∧ (List.length xs + List.length [[IV.bytes (takeU (Cu.mk d p e a) (IntKind.wrap IntKind.i64 n4))]]) * (24 : Nat) ≤ (140737488355328 : Nat) ∧ List.length xs + List.length [[IV.bytes (takeU (Cu.mk d p e a) (IntKind.wrap IntKind.i64 n4))]] ≤ (140737488355328 : Nat) ∧ k AX.normal (St.mk [AV.dead, AV.dead, AV.imm (IV.int IntKind.i64 s), AV.imm (IV.int IntKind.i64 at'), AV.dead, AV.dead, AV.dead, AV.dead, AV.ptr (0 : Nat) (0 : Nat), AV.ptr (1 : Nat) (0 : Nat), AV.ptr (2 : Nat) (0 : Nat), AV.ptr (3 : Nat) (0 : Nat), AV.row (5 : Nat) (1 : Nat), AV.ptr (4 : Nat) (0 : Nat), AV.imm (IV.int IntKind.i64 (5 : Int)), AV.imm (IV.bytes (takeU (Cu.mk d p e a) (IntKind.wrap IntKind.i64 n4))), AV.ptr (6 : Nat) (0 : Nat), AV.dead, AV.dead, AV.dead,
 AV.dead, AV.dead, AV.dead, AV.dead, AV.dead, AV.dead, AV.dead, AV.dead, AV.dead, AV.dead, AV.dead, AV.dead, AV.dead, AV.dead, AV.dead, AV.dead, AV.dead, AV.dead, AV.dead, AV.dead, AV.dead, AV.dead, AV.dead, AV.dead, AV.dead, AV.dead, AV.imm (IV.int IntKind.i64 (4 : Int)), AV.imm (IV.bool true), AV.imm (IV.int IntKind.i64 (4 : Int)), AV.imm (IV.int IntKind.i64 (5 : Int)), AV.tup [AV.row (7 : Nat) (0 : Nat), AV.agg [AV.imm (IV.bytes (Cu.d (advU (Cu.mk d p e a) (IntKind.wrap IntKind.i64 n4)))), AV.imm (IV.int IntKind.i64 (Cu.p (advU (Cu.mk d p e a) (IntKind.wrap IntKind.i64 n4)))), AV.imm (IV.int IntKind.i64 (Cu.e (advU (Cu.mk d p e a) (IntKind.wrap IntKind.i64 n4)))), AV.imm (IV.int IntKind.i64 (Cu.a (advU (Cu.mk d p e a) (IntKind.wrap IntKind.i64 n4))))]], AV.agg [AV.imm (IV.bytes d), AV.imm (IV.int IntKind.i64 p), AV.imm (IV.int IntKind.i64 e), AV.imm (IV.int IntKind.i64 a)], AV.imm (IV.int IntKind.i64 (4 : Int)), AV.ptr (3 : Nat) (4 : Nat), AV.imm (IV.int IntKind.u64 n4), AV.imm
 (IV.int IntKind.i64 (IntKind.wrap IntKind.i64 n4)), AV.tup [AV.row (7 : Nat) (0 : Nat), AV.agg [AV.imm (IV.bytes (Cu.d (advU (Cu.mk d p e a) (IntKind.wrap IntKind.i64 n4)))), AV.imm (IV.int IntKind.i64 (Cu.p (advU (Cu.mk d p e a) (IntKind.wrap IntKind.i64 n4)))), AV.imm (IV.int IntKind.i64 (Cu.e (advU (Cu.mk d p e a) (IntKind.wrap IntKind.i64 n4)))), AV.imm (IV.int IntKind.i64 (Cu.a (advU (Cu.mk d p e a) (IntKind.wrap IntKind.i64 n4))))]], AV.imm (IV.bytes (takeU (Cu.mk d p e a) (IntKind.wrap IntKind.i64 n4))), AV.agg [AV.imm (IV.bytes (Cu.d (advU (Cu.mk d p e a) (IntKind.wrap IntKind.i64 n4)))), AV.imm (IV.int IntKind.i64 (Cu.p (advU (Cu.mk d p e a) (IntKind.wrap IntKind.i64 n4)))), AV.imm (IV.int IntKind.i64 (Cu.e (advU (Cu.mk d p e a) (IntKind.wrap IntKind.i64 n4)))), AV.imm (IV.int IntKind.i64 (Cu.a (advU (Cu.mk d p e a) (IntKind.wrap IntKind.i64 n4))))], AV.row (5 : Nat) (0 : Nat), AV.imm (IV.bytes (takeU (Cu.mk d p e a) (IntKind.wrap IntKind.i64 n4))), AV.full (IV.sl (1 : Nat)
 [[IV.bytes (takeU (Cu.mk d p e a) (IntKind.wrap IntKind.i64 n4))]]), AV.row (5 : Nat) (1 : Nat), AV.agg [AV.imm (IV.bytes (Cu.d (advU (Cu.mk d p e a) (IntKind.wrap IntKind.i64 n4)))), AV.imm (IV.int IntKind.i64 (Cu.p (advU (Cu.mk d p e a) (IntKind.wrap IntKind.i64 n4)))), AV.imm (IV.int IntKind.i64 (Cu.e (advU (Cu.mk d p e a) (IntKind.wrap IntKind.i64 n4)))), AV.imm (IV.int IntKind.i64 (Cu.a (advU (Cu.mk d p e a) (IntKind.wrap IntKind.i64 n4))))], AV.dead, AV.dead, AV.dead, AV.dead, AV.dead, AV.dead, AV.dead, AV.dead, AV.dead, AV.dead, AV.dead, AV.dead, AV.dead, AV.dead, AV.dead, AV.dead, AV.dead, AV.dead, AV.dead, AV.dead, AV.dead, AV.dead, AV.dead, AV.dead, AV.dead, AV.dead, AV.dead, AV.dead, AV.dead, AV.dead, AV.dead, AV.dead, AV.dead, AV.dead, AV.dead, AV.dead, AV.dead, AV.dead, AV.dead, AV.dead, AV.dead, AV.dead, AV.dead, AV.dead, AV.dead, AV.dead, AV.dead, AV.dead, AV.dead, AV.dead, AV.dead, AV.dead, AV.dead, AV.dead, AV.dead, AV.dead, AV.dead, AV.dead, AV.dead, AV.dead, AV.dead,
 AV.dead, AV.dead, AV.dead] [((0 : Nat), Ob.mk true (0 : Nat) (AObj.cells [AV.imm (IV.val (Value.slice none (0 : Nat) (0 : Nat))), AV.imm (IV.val (Value.slice none (0 : Nat) (0 : Nat))), AV.imm (IV.val (Value.slice none (0 : Nat) (0 : Nat))), AV.imm (IV.val (Value.slice none (0 : Nat) (0 : Nat))), AV.imm (IV.val (Value.slice none (0 : Nat) (0 : Nat))), AV.imm (IV.val (Value.slice none (0 : Nat) (0 : Nat))), AV.imm (IV.val (Value.slice none (0 : Nat) (0 : Nat)))])), ((1 : Nat), Ob.mk true (0 : Nat) (AObj.cells [AV.imm (IV.val (Value.slice none (0 : Nat) (0 : Nat))), AV.imm (IV.int IntKind.i64 (0 : Int)), AV.imm (IV.int IntKind.i64 (0 : Int)), AV.imm (IV.int IntKind.i64 (0 : Int))])), ((2 : Nat), Ob.mk true (0 : Nat) (AObj.cells [AV.imm (IV.val (Value.slice none (0 : Nat) (0 : Nat))), AV.imm (IV.val (Value.slice none (0 : Nat) (0 : Nat))), AV.imm (IV.val (Value.slice none (0 : Nat) (0 : Nat))), AV.imm (IV.val (Value.slice none (0 : Nat) (0 : Nat))), AV.imm (IV.val (Value.slice none (0 :
 Nat) (0 : Nat))), AV.imm (IV.val (Value.slice none (0 : Nat) (0 : Nat))), AV.imm (IV.val (Value.slice none (0 : Nat) (0 : Nat)))])), ((3 : Nat), Ob.mk true (0 : Nat) (AObj.cells [AV.imm (IV.int IntKind.u64 n0), AV.imm (IV.int IntKind.u64 n1), AV.imm (IV.int IntKind.u64 n2), AV.imm (IV.int IntKind.u64 n3), AV.imm (IV.int IntKind.u64 n4), AV.imm (IV.int IntKind.u64 n5), AV.imm (IV.int IntKind.u64 n6)])), ((4 : Nat), Ob.mk true (0 : Nat) (AObj.cells [AV.imm (IV.bytes (Cu.d (advU (Cu.mk d p e a) (IntKind.wrap IntKind.i64 n4)))), AV.imm (IV.int IntKind.i64 (Cu.p (advU (Cu.mk d p e a) (IntKind.wrap IntKind.i64 n4)))), AV.imm (IV.int IntKind.i64 (Cu.e (advU (Cu.mk d p e a) (IntKind.wrap IntKind.i64 n4)))), AV.imm (IV.int IntKind.i64 (Cu.a (advU (Cu.mk d p e a) (IntKind.wrap IntKind.i64 n4))))])), ((5 : Nat), Ob.mk true (1 : Nat) (AObj.row (IV.sl (1 : Nat) (xs ++ [[IV.bytes (takeU (Cu.mk d p e a) (IntKind.wrap IntKind.i64 n4))]])))), ((6 : Nat), Ob.mk true (0 : Nat) (AObj.cells [AV.imm
 (IV.bytes (Cu.d (advU (Cu.mk d p e a) (IntKind.wrap IntKind.i64 n4)))), AV.imm (IV.int IntKind.i64 (Cu.p (advU (Cu.mk d p e a) (IntKind.wrap IntKind.i64 n4)))), AV.imm (IV.int IntKind.i64 (Cu.e (advU (Cu.mk d p e a) (IntKind.wrap IntKind.i64 n4)))), AV.imm (IV.int IntKind.i64 (Cu.a (advU (Cu.mk d p e a) (IntKind.wrap IntKind.i64 n4))))])), ((7 : Nat), Ob.mk false (0 : Nat) (AObj.row (IV.bytes (takeU (Cu.mk d p e a) (IntKind.wrap IntKind.i64 n4)))))] (8 : Nat) [])) := by kernel_rfl
theorem f13_lp5 (n0 : Int) (n1 : Int) (n2 : Int) (n3 : Int) (n4 : Int) (n5 : Int) (n6 : Int) (s : Int) (at' : Int) (d : List
  UInt8) (p : Int) (e : Int) (a : Int) (xs : List
  (List
    IV)) (k : AX →
  St → Prop) : evCode K3h (loopB (bodyOf Tryd.f13) (0 : Nat)) (h13x n0 n1 n2 n3 n4 n5 n6 s at' d p e a xs (5 : Int)) k =
  ((okU (Cu.mk d p e a) ∧ (List.length xs + List.length [[IV.bytes (takeU (Cu.mk d p e a) (IntKind.wrap IntKind.i64 n5))]]) * (24 : Nat) ≤ (140737488355328 : Nat) ∧ List.length xs + List.length [[IV.bytes (takeU (Cu.mk d p e a) (IntKind.wrap IntKind.i64 n5))]] ≤ (140737488355328 : Nat) ∧ k AX.normal (St.mk [AV.dead, AV.dead, AV.imm (IV.int IntKind.i64 s), AV.imm (IV.int IntKind.i64 at'), AV.dead, AV.dead, AV.dead, AV.dead, AV.ptr (0 : Nat) (0 : Nat), AV.ptr (1 : Nat) (0 : Nat), AV.ptr (2 : Nat) (0 : Nat), AV.ptr (3 : Nat) (0 : Nat), AV.row (5 : Nat) (1 : Nat), AV.ptr (4 : Nat) (0 : Nat), AV.imm (IV.int IntKind.i64 (6 : Int)), AV.imm (IV.bytes (takeU (Cu.mk d p e a) (IntKind.wrap IntKind.i64 n5))), AV.ptr (7 : Nat) (0 : Nat), AV.dead, AV.dead, AV.dead, AV.dead, AV.dead, AV.dead, AV.dead, AV.dead, AV.dead, AV.dead, AV.dead, AV.dead, AV.dead, AV.dead, AV.dead, AV.dead, AV.dead, AV.dead, AV.dead, AV.dead, AV.dead, AV.dead, AV.dead, AV.dead, AV.dead, AV.dead, AV.dead, AV.dead, AV.dead, AV.imm
 (IV.int IntKind.i64 (5 : Int)), AV.imm (IV.bool true), AV.imm (IV.int IntKind.i64 (5 : Int)), AV.imm (IV.int IntKind.i64 (6 : Int)), AV.tup [AV.row (6 : Nat) (0 : Nat), AV.agg [AV.imm (IV.bytes (Cu.d (advU (Cu.mk d p e a) (IntKind.wrap IntKind.i64 n5)))), AV.imm (IV.int IntKind.i64 (Cu.p (advU (Cu.mk d p e a) (IntKind.wrap IntKind.i64 n5)))), AV.imm (IV.int IntKind.i64 (Cu.e (advU (Cu.mk d p e a) (IntKind.wrap IntKind.i64 n5)))), AV.imm (IV.int IntKind.i64 (Cu.a (advU (Cu.mk d p e a) (IntKind.wrap IntKind.i64 n5))))]], AV.agg [AV.imm (IV.bytes d), AV.imm (IV.int IntKind.i64 p), AV.imm (IV.int IntKind.i64 e), AV.imm (IV.int IntKind.i64 a)], AV.imm (IV.int IntKind.i64 (5 : Int)), AV.ptr (3 : Nat) (5 : Nat), AV.imm (IV.int IntKind.u64 n5), AV.imm (IV.int IntKind.i64 (IntKind.wrap IntKind.i64 n5)), AV.tup [AV.row (6 : Nat) (0 : Nat), AV.agg [AV.imm (IV.bytes (Cu.d (advU (Cu.mk d p e a) (IntKind.wrap IntKind.i64 n5)))), AV.imm (IV.int IntKind.i64 (Cu.p (advU (Cu.mk d p e a) (IntKind.wrap
 IntKind.i64 n5)))), AV.imm (IV.int IntKind.i64 (Cu.e (advU (Cu.mk d p e a) (IntKind.wrap IntKind.i64 n5)))), AV.imm (IV.int IntKind.i64 (Cu.a (advU (Cu.mk d p e a) (IntKind.wrap IntKind.i64 n5))))]], AV.imm (IV.bytes (takeU (Cu.mk d p e a) (IntKind.wrap IntKind.i64 n5))), AV.agg [AV.imm (IV.bytes (Cu.d (advU (Cu.mk d p e a) (IntKind.wrap IntKind.i64 n5)))), AV.imm (IV.int IntKind.i64 (Cu.p (advU (Cu.mk d p e a) (IntKind.wrap IntKind.i64 n5)))), AV.imm (IV.int IntKind.i64 (Cu.e (advU (Cu.mk d p e a) (IntKind.wrap IntKind.i64 n5)))), AV.imm (IV.int IntKind.i64 (Cu.a (advU (Cu.mk d p e a) (IntKind.wrap IntKind.i64 n5))))], AV.row (5 : Nat) (0 : Nat), AV.imm (IV.bytes (takeU (Cu.mk d p e a) (IntKind.wrap IntKind.i64 n5))), AV.full (IV.sl (1 : Nat) [[IV.bytes (takeU (Cu.mk d p e a) (IntKind.wrap IntKind.i64 n5))]]), AV.row (5 : Nat) (1 : Nat), AV.agg [AV.imm (IV.bytes (Cu.d (advU (Cu.mk d p e a) (IntKind.wrap IntKind.i64 n5)))), AV.imm (IV.int IntKind.i64 (Cu.p (advU (Cu.mk d p e a)
 (IntKind.wrap IntKind.i64 n5)))), AV.imm (IV.int IntKind.i64 (Cu.e (advU (Cu.mk d p e a) (IntKind.wrap IntKind.i64 n5)))), AV.imm (IV.int IntKind.i64 (Cu.a (advU (Cu.mk d p e a) (IntKind.wrap IntKind.i64 n5))))], AV.dead, AV.dead, AV.dead, AV.dead, AV.dead, AV.dead, AV.dead, AV.dead, AV.dead, AV.dead, AV.dead, AV.dead, AV.dead, AV.dead, AV.dead, AV.dead, AV.dead, AV.dead, AV.dead, AV.dead, AV.dead, AV.dead, AV.dead, AV.dead, AV.dead, AV.dead, AV.dead, AV.dead, AV.dead, AV.dead, AV.dead, AV.dead, AV.dead, AV.dead, AV.dead, AV.dead, AV.dead, AV.dead, AV.dead, AV.dead, AV.dead, AV.dead, AV.dead, AV.dead, AV.dead, AV.dead, AV.dead, AV.dead, AV.dead, AV.dead, AV.dead, AV.dead, AV.dead, AV.dead, AV.dead, AV.dead, AV.dead, AV.dead, AV.dead, AV.dead, AV.dead, AV.dead, AV.dead, AV.dead] [((0 : Nat), Ob.mk true (0 : Nat) (AObj.cells [AV.imm (IV.val (Value.slice none (0 : Nat) (0 : Nat))), AV.imm (IV.val (Value.slice none (0 : Nat) (0 : Nat))), AV.imm (IV.val (Value.slice none (0 : Nat) (0 :
 Nat))), AV.imm (IV.val (Value.slice none (0 : Nat) (0 : Nat))), AV.imm (IV.val (Value.slice none (0 : Nat) (0 : Nat))), AV.imm (IV.val (Value.slice none (0 : Nat) (0 : Nat))), AV.imm (IV.val (Value.slice none (0 : Nat) (0 : Nat)))])), ((1 : Nat), Ob.mk true (0 : Nat) (AObj.cells [AV.imm (IV.val (Value.slice none (0 : Nat) (0 : Nat))), AV.imm (IV.int IntKind.i64 (0 : Int)), AV.imm (IV.int IntKind.i64 (0 : Int)), AV.imm (IV.int IntKind.i64 (0 : Int))])), ((2 : Nat), Ob.mk true (0 : Nat) (AObj.cells [AV.imm (IV.val (Value.slice none (0 : Nat) (0 : Nat))), AV.imm (IV.val (Value.slice none (0 : Nat) (0 : Nat))), AV.imm (IV.val (Value.slice none (0 : Nat) (0 : Nat))), AV.imm (IV.val (Value.slice none (0 : Nat) (0 : Nat))), AV.imm (IV.val (Value.slice none (0 : Nat) (0 : Nat))), AV.imm (IV.val (Value.slice none (0 : Nat) (0 : Nat))), AV.imm (IV.val (Value.slice none (0 : Nat) (0 : Nat)))])), ((3 : Nat), Ob.mk true (0 : Nat) (AObj.cells [AV.imm (IV.int IntKind.u64 n0), AV.imm (IV.int
 IntKind.u64 n1), AV.imm (IV.int IntKind.u64 n2), AV.imm (IV.int IntKind.u64 n3), AV.imm (IV.int IntKind.u64 n4), AV.imm (IV.int IntKind.u64 n5), AV.imm (IV.int IntKind.u64 n6)])), ((4 : Nat), Ob.mk true (0 : Nat) (AObj.cells [AV.imm (IV.bytes (Cu.d (advU (Cu.mk d p e a) (IntKind.wrap IntKind.i64 n5)))), AV.imm (IV.int IntKind.i64 (Cu.p (advU (Cu.mk d p e a) (IntKind.wrap IntKind.i64 n5)))), AV.imm (IV.int IntKind.i64 (Cu.e (advU (Cu.mk d p e a) (IntKind.wrap IntKind.i64 n5)))), AV.imm (IV.int IntKind.i64 (Cu.a (advU (Cu.mk d p e a) (IntKind.wrap IntKind.i64 n5))))])), ((5 : Nat), Ob.mk true (1 : Nat) (AObj.row (IV.sl (1 : Nat) (xs ++ [[IV.bytes (takeU (Cu.mk d p e a) (IntKind.wrap IntKind.i64 n5))]])))), ((6 : Nat), Ob.mk false (0 : Nat) (AObj.row (IV.bytes (takeU (Cu.mk d p e a) (IntKind.wrap IntKind.i64 n5))))), ((7 : Nat), Ob.mk true (0 : Nat) (AObj.cells [AV.imm (IV.bytes (Cu.d (advU (Cu.mk d p e a) (IntKind.wrap IntKind.i64 n5)))), AV.imm (IV.int IntKind.i64 (Cu.p (advU (Cu.mk d p
 e a) (IntKind.wrap IntKind.i64 n5)))), AV.imm (IV.int IntKind.i64 (Cu.e (advU (Cu.mk d p e a) (IntKind.wrap IntKind.i64 n5)))), AV.imm (IV.int IntKind.i64 (Cu.a (advU (Cu.mk d p e a) (IntKind.wrap IntKind.i64 n5))))]))] (8 : Nat) [])) ∧ okU (Cu.mk d p e a) ∧ (List.length xs + List.length [[IV.bytes (takeU (Cu.mk d p e a) (IntKind.wrap IntKind.i64 n5))]]) * (24 : Nat) ≤ (140737488355328 : Nat) ∧ List.length xs + List.length [[IV.bytes (takeU (Cu.mk d p e a) (IntKind.wrap IntKind.i64 n5))]] ≤ (140737488355328 : Nat) ∧ k AX.normal (St.mk [AV.dead, AV.dead, AV.imm (IV.int IntKind.i64 s), AV.imm (IV.int IntKind.i64 at'), AV.dead, AV.dead, AV.dead, AV.dead, AV.ptr (0 : Nat) (0 : Nat), AV.ptr (1 : Nat) (0 : Nat), AV.ptr (2 : Nat) (0 : Nat), AV.ptr (3 : Nat) (0 : Nat), AV.row (5 : Nat) (1 : Nat), AV.ptr (4 : Nat) (0 : Nat), AV.imm (IV.int IntKind.i64 (6 : Int)), AV.imm (IV.bytes (takeU (Cu.mk d p e a) (IntKind.wrap IntKind.i64 n5))), AV.ptr (6 : Nat) (0 : Nat), AV.dead, AV.dead, AV.dead,
 AV.dead, AV.dead, AV.dead, AV.dead, AV.dead, AV.dead, AV.dead, AV.dead, AV.dead, AV.dead, AV.dead, AV.dead, AV.dead, AV.dead, AV.dead, AV.dead, AV.dead, AV.dead, AV.dead, AV.dead, AV.dead, AV.dead, AV.dead, AV.dead, AV.dead, AV.dead, AV.imm (IV.int IntKind.i64 (5 : Int)), AV.imm (IV.bool true), AV.imm (IV.int IntKind.i64 (5 : Int)), AV.imm (IV.int IntKind.i64 (6 : Int)), AV.tup [AV.row (7 : Nat) (0 : Nat), AV.agg [AV.imm (IV.bytes (Cu.d (advU (Cu.mk d p e a) (IntKind.wrap IntKind.i64 n5)))), AV.imm (IV.int IntKind.i64 (Cu.p (advU (Cu.mk d p e a) (IntKind.wrap IntKind.i64 n5)))), AV.imm (IV.int IntKind.i64 (Cu.e (advU (Cu.mk d p e a) (IntKind.wrap IntKind.i64 n5)))), AV.imm (IV.int IntKind.i64 (Cu.a (advU (Cu.mk d p e a) (IntKind.wrap IntKind.i64 n5))))]], AV.agg [AV.imm (IV.bytes d), AV.imm (IV.int IntKind.i64 p), AV.imm (IV.int IntKind.i64 e), AV.imm (IV.int IntKind.i64 a)], AV.imm (IV.int IntKind.i64 (5 : Int)), AV.ptr (3 : Nat) (5 : Nat), AV.imm (IV.int IntKind.u64 n5), AV.imm
 (IV.int IntKind.i64 (IntKind.wrap IntKind.i64 n5)), AV.tup [AV.row (7 : Nat) (0 : Nat), AV.agg [AV.imm (IV.bytes (Cu.d (advU (Cu.mk d p e a) (IntKind.wrap IntKind.i64 n5)))), AV.imm (IV.int IntKind.i64 (Cu.p (advU (Cu.mk d p e a) (IntKind.wrap IntKind.i64 n5)))), AV.imm (IV.int IntKind.i64 (Cu.e (advU (Cu.mk d p e a) (IntKind.wrap IntKind.i64 n5)))), AV.imm (IV.int IntKind.i64 (Cu.a (advU (Cu.mk d p e a) (IntKind.wrap IntKind.i64 n5))))]], AV.imm (IV.bytes (takeU (Cu.mk d p e a) (IntKind.wrap IntKind.i64 n5))), AV.agg [AV.imm (IV.bytes (Cu.d (advU (Cu.mk d p e a) (IntKind.wrap IntKind.i64 n5)))), AV.imm (IV.int IntKind.i64 (Cu.p (advU (Cu.mk d p e a) (IntKind.wrap IntKind.i64 n5)))), AV.imm (IV.int IntKind.i64 (Cu.e (advU (Cu.mk d p e a) (IntKind.wrap IntKind.i64 n5)))), AV.imm (IV.int IntKind.i64 (Cu.a (advU (Cu.mk d p e a) (IntKind.wrap IntKind.i64 n5))))], AV.row (5 : Nat) (0 : Nat), AV.imm (IV.bytes (takeU (Cu.mk d p e a) (IntKind.wrap IntKind.i64 n5))), AV.full (IV.sl (1 : Nat)
 [[IV.bytes (takeU (Cu.mk d p e a) (IntKind.wrap IntKind.i64 n5))]]), AV.row (5 : Nat) (1 : Nat), AV.agg [AV.imm (IV.bytes (Cu.d (advU (Cu.mk d p e a) (IntKind.wrap IntKind.i64 n5)))), AV.imm (IV.int IntKind.i64 (Cu.p (advU (Cu.mk d p e a) (IntKind.wrap IntKind.i64 n5)))), AV.imm (IV.int IntKind.i64 (Cu.e (advU (Cu.mk d p e a) (IntKind.wrap IntKind.i64 n5)))), AV.imm (IV.int IntKind.i64 (Cu.a (advU (Cu.mk d p e a) (IntKind.wrap IntKind.i64 n5))))], AV.dead, AV.dead, AV.dead, AV.dead, AV.dead, AV.dead, AV.dead, AV.dead, AV.dead, AV.dead, AV.dead, AV.dead, AV.dead, AV.dead, AV.dead, AV.dead, AV.dead, AV.dead, AV.dead, AV.dead, AV.dead, AV.dead, AV.dead, AV.dead, AV.dead, AV.dead, AV.dead, AV.dead, AV.dead, AV.dead, AV.dead, AV.dead, AV.dead, AV.dead, AV.dead, AV.dead, AV.dead, AV.dead, AV.dead, AV.dead, AV.dead, AV.dead, AV.dead, AV.dead, AV.dead, AV.dead, AV.dead, AV.dead, AV.dead, AV.dead, AV.dead, AV.dead, AV.dead, AV.dead, AV.dead, AV.dead, AV.dead, AV.dead, AV.dead, AV.dead, AV.dead,
 AV.dead, AV.dead, AV.dead] [((0 : Nat), Ob.mk true (0 : Nat) (AObj.cells [AV.imm (IV.val (Value.slice none (0 : Nat) (0 : Nat))), AV.imm (IV.val (Value.slice none (0 : Nat) (0 : Nat))), AV.imm (IV.val (Value.slice none (0 : Nat) (0 : Nat))), AV.imm (IV.val (Value.slice none (0 : Nat) (0 : Nat))), AV.imm (IV.val (Value.slice none (0 : Nat) (0 : Nat))), AV.imm (IV.val (Value.slice none (0 : Nat) (0 : Nat))), AV.imm (IV.val (Value.slice none (0 : Nat) (0 : Nat)))])), ((1 : Nat), Ob.mk true (0 : Nat) (AObj.cells [AV.imm (IV.val (Value.slice none (0 : Nat) (0 : Nat))), AV.imm (IV.int IntKind.i64 (0 : Int)), AV.imm (IV.int IntKind.i64 (0 : Int)), AV.imm (IV.int IntKind.i64 (0 : Int))])), ((2 : Nat), Ob.mk true (0 : Nat) (AObj.cells [AV.imm (IV.val (Value.slice none (0 : Nat) (0 : Nat))), AV.imm (IV.val (Value.slice none (0 : Nat) (0 : Nat))), AV.imm (IV.val (Value.slice none (0 : Nat) (0 : Nat))), AV.imm (IV.val (Value.slice none (0 : Nat) (0 : Nat))), AV.imm (IV.val (Value.slice none (0 :
 Nat) (0 : Nat))), AV.imm (IV.val (Value.slice none (0 : Nat) (0 : Nat))), AV.imm (IV.val (Value.slice none (0 : Nat) (0 : Nat)))])), ((3 : Nat), Ob.mk true (0 : Nat) (AObj.cells [AV.imm (IV.int IntKind.u64 n0), AV.imm (IV.int IntKind.u64 n1), AV.imm (IV.int IntKind.u64 n2), AV.imm (IV.int IntKind.u64 n3), AV.imm (IV.int IntKind.u64 n4), AV.imm (IV.int IntKind.u64 n5), AV.imm (IV.int IntKind.u64 n6)])), ((4 : Nat), Ob.mk true (0 : Nat) (AObj.cells [AV.imm (IV.bytes (Cu.d (advU (Cu.mk d p e a) (IntKind.wrap IntKind.i64 n5)))), AV.imm (IV.int IntKind.i64 (Cu.p (advU (Cu.mk d p e a) (IntKind.wrap IntKind.i64 n5)))), AV.imm (IV.int IntKind.i64 (Cu.e (advU (Cu.mk d p e a) (IntKind.wrap IntKind.i64 n5)))), AV.imm (IV.int IntKind.i64 (Cu.a (advU (Cu.mk d p e a) (IntKind.wrap IntKind.i64 n5))))])), ((5 : Nat), Ob.mk true (1 : Nat) (AObj.row (IV.sl (1 : Nat) (xs ++ [[IV.bytes (takeU (Cu.mk d p e a) (IntKind.wrap IntKind.i64 n5))]])))), ((6 : Nat), Ob.mk true (0 : Nat) (AObj.cells [AV.imm
 (IV.bytes (Cu.d (advU (Cu.mk d p e a) (IntKind.wrap IntKind.i64 n5)))), AV.imm (IV.int IntKind.i64 (Cu.p (advU (Cu.mk d p e a) (IntKind.wrap IntKind.i64 n5)))), AV.imm (IV.int IntKind.i64 (Cu.e (advU (Cu.mk d p e a) (IntKind.wrap IntKind.i64 n5)))), AV.imm (IV.int IntKind.i64 (Cu.a (advU (Cu.mk d p e a) (IntKind.wrap IntKind.i64 n5))))])), ((7 : Nat), Ob.mk false (0 : Nat) (AObj.row (IV.bytes (takeU (Cu.mk d p e a) (IntKind.wrap IntKind.i64 n5)))))] (8 : Nat) [])) := by kernel_rfl
theorem f13_lp6 (n0 : Int) (n1 : Int) (n2 : Int) (n3 : Int) (n4 : Int) (n5 : Int) (n6 : Int) (s : Int) (at' : Int) (d : List
  UInt8) (p : Int) (e : Int) (a : Int) (xs : List
  (List
    IV)) (k : AX →
  St → Prop) : evCode K3h (loopB (bodyOf Tryd.f13) (0 : Nat)) (h13x n0 n1 n2 n3 n4 n5 n6 s at' d p e a xs (6 : Int)) k =
  ((okU (Cu.mk d p e a) ∧ (List.length xs + List.length [[IV.bytes (takeU (Cu.mk d p e a) (IntKind.wrap IntKind.i64 n6))]]) * (24 : Nat) ≤ (140737488355328 : Nat) ∧ List.length xs + List.length [[IV.bytes (takeU (Cu.mk d p e a) (IntKind.wrap IntKind.i64 n6))]] ≤ (140737488355328 : Nat) ∧ k AX.normal (St.mk [AV.dead, AV.dead, AV.imm (IV.int IntKind.i64 s), AV.imm (IV.int IntKind.i64 at'), AV.dead, AV.dead, AV.dead, AV.dead, AV.ptr (0 : Nat) (0 : Nat), AV.ptr (1 : Nat) (0 : Nat), AV.ptr (2 : Nat) (0 : Nat), AV.ptr (3 : Nat) (0 : Nat), AV.row (5 : Nat) (1 : Nat), AV.ptr (4 : Nat) (0 : Nat), AV.imm (IV.int IntKind.i64 (7 : Int)), AV.imm (IV.bytes (takeU (Cu.mk d p e a) (IntKind.wrap IntKind.i64 n6))), AV.ptr (7 : Nat) (0 : Nat), AV.dead, AV.dead, AV.dead, AV.dead, AV.dead, AV.dead, AV.dead, AV.dead, AV.dead, AV.dead, AV.dead, AV.dead, AV.dead, AV.dead, AV.dead, AV.dead, AV.dead, AV.dead, AV.dead, AV.dead, AV.dead, AV.dead, AV.dead, AV.dead, AV.dead, AV.dead, AV.dead, AV.dead, AV.dead, AV.imm
 (IV.int IntKind.i64 (6 : Int)), AV.imm (IV.bool true), AV.imm (IV.int IntKind.i64 (6 : Int)), AV.imm (IV.int IntKind.i64 (7 : Int)), AV.tup [AV.row (6 : Nat) (0 : Nat), AV.agg [AV.imm (IV.bytes (Cu.d (advU (Cu.mk d p e a) (IntKind.wrap IntKind.i64 n6)))), AV.imm (IV.int IntKind.i64 (Cu.p (advU (Cu.mk d p e a) (IntKind.wrap IntKind.i64 n6)))), AV.imm (IV.int IntKind.i64 (Cu.e (advU (Cu.mk d p e a) (IntKind.wrap IntKind.i64 n6)))), AV.imm (IV.int IntKind.i64 (Cu.a (advU (Cu.mk d p e a) (IntKind.wrap IntKind.i64 n6))))]], AV.agg [AV.imm (IV.bytes d), AV.imm (IV.int IntKind.i64 p), AV.imm (IV.int IntKind.i64 e), AV.imm (IV.int IntKind.i64 a)], AV.imm (IV.int IntKind.i64 (6 : Int)), AV.ptr (3 : Nat) (6 : Nat), AV.imm (IV.int IntKind.u64 n6), AV.imm (IV.int IntKind.i64 (IntKind.wrap IntKind.i64 n6)), AV.tup [AV.row (6 : Nat) (0 : Nat), AV.agg [AV.imm (IV.bytes (Cu.d (advU (Cu.mk d p e a) (IntKind.wrap IntKind.i64 n6)))), AV.imm (IV.int IntKind.i64 (Cu.p (advU (Cu.mk d p e a) (IntKind.wrap
 IntKind.i64 n6)))), AV.imm (IV.int IntKind.i64 (Cu.e (advU (Cu.mk d p e a) (IntKind.wrap IntKind.i64 n6)))), AV.imm (IV.int IntKind.i64 (Cu.a (advU (Cu.mk d p e a) (IntKind.wrap IntKind.i64 n6))))]], AV.imm (IV.bytes (takeU (Cu.mk d p e a) (IntKind.wrap IntKind.i64 n6))), AV.agg [AV.imm (IV.bytes (Cu.d (advU (Cu.mk d p e a) (IntKind.wrap IntKind.i64 n6)))), AV.imm (IV.int IntKind.i64 (Cu.p (advU (Cu.mk d p e a) (IntKind.wrap IntKind.i64 n6)))), AV.imm (IV.int IntKind.i64 (Cu.e (advU (Cu.mk d p e a) (IntKind.wrap IntKind.i64 n6)))), AV.imm (IV.int IntKind.i64 (Cu.a (advU (Cu.mk d p e a) (IntKind.wrap IntKind.i64 n6))))], AV.row (5 : Nat) (0 : Nat), AV.imm (IV.bytes (takeU (Cu.mk d p e a) (IntKind.wrap IntKind.i64 n6))), AV.full (IV.sl (1 : Nat) [[IV.bytes (takeU (Cu.mk d p e a) (IntKind.wrap IntKind.i64 n6))]]), AV.row (5 : Nat) (1 : Nat), AV.agg [AV.imm (IV.bytes (Cu.d (advU (Cu.mk d p e a) (IntKind.wrap IntKind.i64 n6)))), AV.imm (IV.int IntKind.i64 (Cu.p (advU (Cu.mk d p e a)
 (IntKind.wrap IntKind.i64 n6)))), AV.imm (IV.int IntKind.i64 (Cu.e (advU (Cu.mk d p e a) (IntKind.wrap IntKind.i64 n6)))), AV.imm (IV.int IntKind.i64 (Cu.a (advU (Cu.mk d p e a) (IntKind.wrap IntKind.i64 n6))))], AV.dead, AV.dead, AV.dead, AV.dead, AV.dead, AV.dead, AV.dead, AV.dead, AV.dead, AV.dead, AV.dead, AV.dead, AV.dead, AV.dead, AV.dead, AV.dead, AV.dead, AV.dead, AV.dead, AV.dead, AV.dead, AV.dead, AV.dead, AV.dead, AV.dead, AV.dead, AV.dead, AV.dead, AV.dead, AV.dead, AV.dead, AV.dead, AV.dead, AV.dead, AV.dead, AV.dead, AV.dead, AV.dead, AV.dead, AV.dead, AV.dead, AV.dead, AV.dead, AV.dead, AV.dead, AV.dead, AV.dead, AV.dead, AV.dead, AV.dead, AV.dead, AV.dead, AV.dead, AV.dead, AV.dead, AV.dead, AV.dead, AV.dead, AV.dead, AV.dead, AV.dead, AV.dead, AV.dead, AV.dead] [((0 : Nat), Ob.mk true (0 : Nat) (AObj.cells [AV.imm (IV.val (Value.slice none (0 : Nat) (0 : Nat))), AV.imm (IV.val (Value.slice none (0 : Nat) (0 : Nat))), AV.imm (IV.val (Value.slice none (0 : Nat) (0 :
 Nat))), AV.imm (IV.val (Value.slice none (0 : Nat) (0 : Nat))), AV.imm (IV.val (Value.slice none (0 : Nat) (0 : Nat))), AV.imm (IV.val (Value.slice none (0 : Nat) (0 : Nat))), AV.imm (IV.val (Value.slice none (0 : Nat) (0 : Nat)))])), ((1 : Nat), Ob.mk true (0 : Nat) (AObj.cells [AV.imm (IV.val (Value.slice none (0 : Nat) (0 : Nat))), AV.imm (IV.int IntKind.i64 (0 : Int)), AV.imm (IV.int IntKind.i64 (0 : Int)), AV.imm (IV.int IntKind.i64 (0 : Int))])), ((2 : Nat), Ob.mk true (0 : Nat) (AObj.cells [AV.imm (IV.val (Value.slice none (0 : Nat) (0 : Nat))), AV.imm (IV.val (Value.slice none (0 : Nat) (0 : Nat))), AV.imm (IV.val (Value.slice none (0 : Nat) (0 : Nat))), AV.imm (IV.val (Value.slice none (0 : Nat) (0 : Nat))), AV.imm (IV.val (Value.slice none (0 : Nat) (0 : Nat))), AV.imm (IV.val (Value.slice none (0 : Nat) (0 : Nat))), AV.imm (IV.val (Value.slice none (0 : Nat) (0 : Nat)))])), ((3 : Nat), Ob.mk true (0 : Nat) (AObj.cells [AV.imm (IV.int IntKind.u64 n0), AV.imm (IV.int
 IntKind.u64 n1), AV.imm (IV.int IntKind.u64 n2), AV.imm (IV.int IntKind.u64 n3), AV.imm (IV.int IntKind.u64 n4), AV.imm (IV.int IntKind.u64 n5), AV.imm (IV.int IntKind.u64 n6)])), ((4 : Nat), Ob.mk true (0 : Nat) (AObj.cells [AV.imm (IV.bytes (Cu.d (advU (Cu.mk d p e a) (IntKind.wrap IntKind.i64 n6)))), AV.imm (IV.int IntKind.i64 (Cu.p (advU (Cu.mk d p e a) (IntKind.wrap IntKind.i64 n6)))), AV.imm (IV.int IntKind.i64 (Cu.e (advU (Cu.mk d p e a) (IntKind.wrap IntKind.i64 n6)))), AV.imm (IV.int IntKind.i64 (Cu.a (advU (Cu.mk d p e a) (IntKind.wrap IntKind.i64 n6))))])), ((5 : Nat), Ob.mk true (1 : Nat) (AObj.row (IV.sl (1 : Nat) (xs ++ [[IV.bytes (takeU (Cu.mk d p e a) (IntKind.wrap IntKind.i64 n6))]])))), ((6 : Nat), Ob.mk false (0 : Nat) (AObj.row (IV.bytes (takeU (Cu.mk d p e a) (IntKind.wrap IntKind.i64 n6))))), ((7 : Nat), Ob.mk true (0 : Nat) (AObj.cells [AV.imm (IV.bytes (Cu.d (advU (Cu.mk d p e a) (IntKind.wrap IntKind.i64 n6)))), AV.imm (IV.int IntKind.i64 (Cu.p (advU (Cu.mk d p
 e a) (IntKind.wrap IntKind.i64 n6)))), AV.imm (IV.int IntKind.i64 (Cu.e (advU (Cu.mk d p e a) (IntKind.wrap IntKind.i64 n6)))), AV.imm (IV.int IntKind.i64 (Cu.a (advU (Cu.mk d p e a) (IntKind.wrap IntKind.i64 n6))))]))] (8 : Nat) [])) ∧ okU (Cu.mk d p e a) ∧ (List.length xs + List.length [[IV.bytes (takeU (Cu.mk d p e a) (IntKind.wrap IntKind.i64 n6))]]) * (24 : Nat) ≤ (140737488355328 : Nat) ∧ List.length xs + List.length [[IV.bytes (takeU (Cu.mk d p e a) (IntKind.wrap IntKind.i64 n6))]] ≤ (140737488355328 : Nat) ∧ k AX.normal (St.mk [AV.dead, AV.dead, AV.imm (IV.int IntKind.i64 s), AV.imm (IV.int IntKind.i64 at'), AV.dead, AV.dead, AV.dead, AV.dead, AV.ptr (0 : Nat) (0 : Nat), AV.ptr (1 : Nat) (0 : Nat), AV.ptr (2 : Nat) (0 : Nat), AV.ptr (3 : Nat) (0 : Nat), AV.row (5 : Nat) (1 : Nat), AV.ptr (4 : Nat) (0 : Nat), AV.imm (IV.int IntKind.i64 (7 : Int)), AV.imm (IV.bytes (takeU (Cu.mk d p e a) (IntKind.wrap IntKind.i64 n6))), AV.ptr (6 : Nat) (0 : Nat), AV.dead, AV.dead, AV.dead,
 AV.dead, AV.dead, AV.dead, AV.dead, AV.dead, AV.dead, AV.dead, AV.dead, AV.dead, AV.dead, AV.dead, AV.dead, AV.dead, AV.dead, AV.dead, AV.dead, AV.dead, AV.dead, AV.dead, AV.dead, AV.dead, AV.dead, AV.dead, AV.dead, AV.dead, AV.dead, AV.imm (IV.int IntKind.i64 (6 : Int)), AV.imm (IV.bool true), AV.imm (IV.int IntKind.i64 (6 : Int)), AV.imm (IV.int IntKind.i64 (7 : Int)), AV.tup [AV.row (7 : Nat) (0 : Nat), AV.agg [AV.imm (IV.bytes (Cu.d (advU (Cu.mk d p e a) (IntKind.wrap IntKind.i64 n6)))), AV.imm (IV.int IntKind.i64 (Cu.p (advU (Cu.mk d p e a) (IntKind.wrap IntKind.i64 n6)))), AV.imm (IV.int IntKind.i64 (Cu.e (advU (Cu.mk d p e a) (IntKind.wrap IntKind.i64 n6)))), AV.imm (IV.int IntKind.i64 (Cu.a (advU (Cu.mk d p e a) (IntKind.wrap IntKind.i64 n6))))]], AV.agg [AV.imm (IV.bytes d), AV.imm (IV.int IntKind.i64 p), AV.imm (IV.int IntKind.i64 e), AV.imm (IV.int IntKind.i64 a)], AV.imm (IV.int IntKind.i64 (6 : Int)), AV.ptr (3 : Nat) (6 : Nat), AV.imm (IV.int IntKind.u64 n6), AV.imm
 (IV.int IntKind.i64 (IntKind.wrap IntKind.i64 n6)), AV.tup [AV.row (7 : Nat) (0 : Nat), AV.agg [AV.imm (IV.bytes (Cu.d (advU (Cu.mk d p e a) (IntKind.wrap IntKind.i64 n6)))), AV.imm (IV.int IntKind.i64 (Cu.p (advU (Cu.mk d p e a) (IntKind.wrap IntKind.i64 n6)))), AV.imm (IV.int IntKind.i64 (Cu.e (advU (Cu.mk d p e a) (IntKind.wrap IntKind.i64 n6)))), AV.imm (IV.int IntKind.i64 (Cu.a (advU (Cu.mk d p e a) (IntKind.wrap IntKind.i64 n6))))]], AV.imm (IV.bytes (takeU (Cu.mk d p e a) (IntKind.wrap IntKind.i64 n6))), AV.agg [AV.imm (IV.bytes (Cu.d (advU (Cu.mk d p e a) (IntKind.wrap IntKind.i64 n6)))), AV.imm (IV.int IntKind.i64 (Cu.p (advU (Cu.mk d p e a) (IntKind.wrap IntKind.i64 n6)))), AV.imm (IV.int IntKind.i64 (Cu.e (advU (Cu.mk d p e a) (IntKind.wrap IntKind.i64 n6)))), AV.imm (IV.int IntKind.i64 (Cu.a (advU (Cu.mk d p e a) (IntKind.wrap IntKind.i64 n6))))], AV.row (5 : Nat) (0 : Nat), AV.imm (IV.bytes (takeU (Cu.mk d p e a) (IntKind.wrap IntKind.i64 n6))), AV.full (IV.sl (1 : Nat)
 [[IV.bytes (takeU (Cu.mk d p e a) (IntKind.wrap IntKind.i64 n6))]]), AV.row (5 : Nat) (1 : Nat), AV.agg [AV.imm (IV.bytes (Cu.d (advU (Cu.mk d p e a) (IntKind.wrap IntKind.i64 n6)))), AV.imm (IV.int IntKind.i64 (Cu.p (advU (Cu.mk d p e a) (IntKind.wrap IntKind.i64 n6)))), AV.imm (IV.int IntKind.i64 (Cu.e (advU (Cu.mk d p e a) (IntKind.wrap IntKind.i64 n6)))), AV.imm (IV.int IntKind.i64 (Cu.a (advU (Cu.mk d p e a) (IntKind.wrap IntKind.i64 n6))))], AV.dead, AV.dead, AV.dead, AV.dead, AV.dead, AV.dead, AV.dead, AV.dead, AV.dead, AV.dead, AV.dead, AV.dead, AV.dead, AV.dead, AV.dead, AV.dead, AV.dead, AV.dead, AV.dead, AV.dead, AV.dead, AV.dead, AV.dead, AV.dead, AV.dead, AV.dead, AV.dead, AV.dead, AV.dead, AV.dead, AV.dead, AV.dead, AV.dead, AV.dead, AV.dead, AV.dead, AV.dead, AV.dead, AV.dead, AV.dead, AV.dead, AV.dead, AV.dead, AV.dead, AV.dead, AV.dead, AV.dead, AV.dead, AV.dead, AV.dead, AV.dead, AV.dead, AV.dead, AV.dead, AV.dead, AV.dead, AV.dead, AV.dead, AV.dead, AV.dead, AV.dead,
 AV.dead, AV.dead, AV.dead] [((0 : Nat), Ob.mk true (0 : Nat) (AObj.cells [AV.imm (IV.val (Value.slice none (0 : Nat) (0 : Nat))), AV.imm (IV.val (Value.slice none (0 : Nat) (0 : Nat))), AV.imm (IV.val (Value.slice none (0 : Nat) (0 : Nat))), AV.imm (IV.val (Value.slice none (0 : Nat) (0 : Nat))), AV.imm (IV.val (Value.slice none (0 : Nat) (0 : Nat))), AV.imm (IV.val (Value.slice none (0 : Nat) (0 : Nat))), AV.imm (IV.val (Value.slice none (0 : Nat) (0 : Nat)))])), ((1 : Nat), Ob.mk true (0 : Nat) (AObj.cells [AV.imm (IV.val (Value.slice none (0 : Nat) (0 : Nat))), AV.imm (IV.int IntKind.i64 (0 : Int)), AV.imm (IV.int IntKind.i64 (0 : Int)), AV.imm (IV.int IntKind.i64 (0 : Int))])), ((2 : Nat), Ob.mk true (0 : Nat) (AObj.cells [AV.imm (IV.val (Value.slice none (0 : Nat) (0 : Nat))), AV.imm (IV.val (Value.slice none (0 : Nat) (0 : Nat))), AV.imm (IV.val (Value.slice none (0 : Nat) (0 : Nat))), AV.imm (IV.val (Value.slice none (0 : Nat) (0 : Nat))), AV.imm (IV.val (Value.slice none (0 :
 Nat) (0 : Nat))), AV.imm (IV.val (Value.slice none (0 : Nat) (0 : Nat))), AV.imm (IV.val (Value.slice none (0 : Nat) (0 : Nat)))])), ((3 : Nat), Ob.mk true (0 : Nat) (AObj.cells [AV.imm (IV.int IntKind.u64 n0), AV.imm (IV.int IntKind.u64 n1), AV.imm (IV.int IntKind.u64 n2), AV.imm (IV.int IntKind.u64 n3), AV.imm (IV.int IntKind.u64 n4), AV.imm (IV.int IntKind.u64 n5), AV.imm (IV.int IntKind.u64 n6)])), ((4 : Nat), Ob.mk true (0 : Nat) (AObj.cells [AV.imm (IV.bytes (Cu.d (advU (Cu.mk d p e a) (IntKind.wrap IntKind.i64 n6)))), AV.imm (IV.int IntKind.i64 (Cu.p (advU (Cu.mk d p e a) (IntKind.wrap IntKind.i64 n6)))), AV.imm (IV.int IntKind.i64 (Cu.e (advU (Cu.mk d p e a) (IntKind.wrap IntKind.i64 n6)))), AV.imm (IV.int IntKind.i64 (Cu.a (advU (Cu.mk d p e a) (IntKind.wrap IntKind.i64 n6))))])), ((5 : Nat), Ob.mk true (1 : Nat) (AObj.row (IV.sl (1 : Nat) (xs ++ [[IV.bytes (takeU (Cu.mk d p e a) (IntKind.wrap IntKind.i64 n6))]])))), ((6 : Nat), Ob.mk true (0 : Nat) (AObj.cells [AV.imm
 (IV.bytes (Cu.d (advU (Cu.mk d p e a) (IntKind.wrap IntKind.i64 n6)))), AV.imm (IV.int IntKind.i64 (Cu.p (advU (Cu.mk d p e a) (IntKind.wrap IntKind.i64 n6)))), AV.imm (IV.int IntKind.i64 (Cu.e (advU (Cu.mk d p e a) (IntKind.wrap IntKind.i64 n6)))), AV.imm (IV.int IntKind.i64 (Cu.a (advU (Cu.mk d p e a) (IntKind.wrap IntKind.i64 n6))))])), ((7 : Nat), Ob.mk false (0 : Nat) (AObj.row (IV.bytes (takeU (Cu.mk d p e a) (IntKind.wrap IntKind.i64 n6)))))] (8 : Nat) [])) := by kernel_rfl
theorem f13z_lp (n0 : Int) (n1 : Int) (n2 : Int) (n3 : Int) (n4 : Int) (n5 : Int) (n6 : Int) (s : Int) (at' : Int) (d : List UInt8) (p : Int) (e : Int) (a : Int) (x0 : List UInt8) (x1 : List UInt8) (x2 : List UInt8) (x3 : List UInt8) (x4 : List UInt8) (x5 : List UInt8) (x6 : List UInt8) (k : AX → St → Prop) : evCode K3h (loopB (bodyOf Tryd.f13) (0 : Nat)) (h13x n0 n1 n2 n3 n4 n5 n6 s at' d p e a [[IV.bytes x0], [IV.bytes x1], [IV.bytes x2], [IV.bytes x3], [IV.bytes x4], [IV.bytes x5], [IV.bytes x6]] (7 : Int)) k = (k (AX.exit (0 : Nat)) (St.mk [.dead, .dead, .imm (.int .i64 s), .imm (.int .i64 at'), .dead, .dead, .dead, .dead, .ptr 0 0, .ptr 1 0, .ptr 2 0, .ptr 3 0, AV.row (5 : Nat) (0 : Nat), .ptr 4 0, .imm (.int .i64 7), .dead, .dead, .dead, .dead, .dead, .dead, .dead, .dead, .dead, .dead, .dead, .dead, .dead, .dead, .dead, .dead, .dead, .dead, .dead, .dead, .dead, .dead, .dead, .dead, .dead, .dead, .dead, .dead, .dead, .dead, .dead, .imm (.int .i64 7), .imm (.bool false), .dead, .dead, .dead, .dead, .dead, .dead, .dead, .dead, .dead, .dead, .dead, .dead, .dead, .dead, .dead, .dead, .dead, .dead, .dead, .dead, .dead, .dead, .dead, .dead, .dead, .dead, .dead, .dead, .dead, .dead,
 .dead, .dead, .dead, .dead, .dead, .dead, .dead, .dead, .dead, .dead, .dead, .dead, .dead, .dead, .dead, .dead, .dead, .dead, .dead, .dead, .dead, .dead, .dead, .dead, .dead, .dead, .dead, .dead, .dead, .dead, .dead, .dead, .dead, .dead, .dead, .dead, .dead, .dead, .dead, .dead, .dead, .dead, .dead, .dead, .dead, .dead, .dead, .dead, .dead, .dead] [(0, Ob.mk true 0 (AObj.cells [.imm (.val (Value.slice none (0 : Nat) (0 : Nat))), .imm (.val (Value.slice none (0 : Nat) (0 : Nat))), .imm (.val (Value.slice none (0 : Nat) (0 : Nat))), .imm (.val (Value.slice none (0 : Nat) (0 : Nat))), .imm (.val (Value.slice none (0 : Nat) (0 : Nat))), .imm (.val (Value.slice none (0 : Nat) (0 : Nat))), .imm (.val (Value.slice none (0 : Nat) (0 : Nat)))])), (1, Ob.mk true 0 (AObj.cells [.imm (.val (Value.slice none (0 : Nat) (0 : Nat))), .imm (.int .i64 0), .imm (.int .i64 0), .imm (.int .i64 0)])), (2, Ob.mk true 0 (AObj.cells [.imm (.val (Value.slice none (0 : Nat) (0 : Nat))), .imm (.val (Value.slice none (0 : Nat) (0 : Nat))), .imm (.val (Value.slice none (0 : Nat) (0 : Nat))), .imm (.val (Value.slice none (0 : Nat) (0 : Nat))), .imm (.val (Value.slice none (0 : Nat) (0 : Nat))), .imm (.val
 (Value.slice none (0 : Nat) (0 : Nat))), .imm (.val (Value.slice none (0 : Nat) (0 : Nat)))])), (3, Ob.mk true 0 (AObj.cells [.imm (.int IntKind.u64 n0), .imm (.int IntKind.u64 n1), .imm (.int IntKind.u64 n2), .imm (.int IntKind.u64 n3), .imm (.int IntKind.u64 n4), .imm (.int IntKind.u64 n5), .imm (.int IntKind.u64 n6)])), (4, Ob.mk true 0 (AObj.cells [.imm (.bytes d), .imm (.int .i64 p), .imm (.int .i64 e), .imm (.int .i64 a)])), (5, Ob.mk true 0 (AObj.row (IV.sl (1 : Nat) [[IV.bytes x0], [IV.bytes x1], [IV.bytes x2], [IV.bytes x3], [IV.bytes x4], [IV.bytes x5], [IV.bytes x6]])))] (6 : Nat) [])) := by kernel_rfl
theorem f13_out (n0 : Int) (n1 : Int) (n2 : Int) (n3 : Int) (n4 : Int) (n5 : Int) (n6 : Int) (s : Int) (at' : Int) (d : List UInt8) (p : Int) (e : Int) (a : Int) (x0 : List UInt8) (x1 : List UInt8) (x2 : List UInt8) (x3 : List UInt8) (x4 : List UInt8) (x5 : List UInt8) (x6 : List UInt8) (K : List AV → Prop) : loopK K3h (bodyOf Tryd.f13) (0 : Nat) (finK K3h Tryd.f13 K) (AX.exit (0 : Nat)) (St.mk (let y := let y := let y := let y := let y := [.dead, .dead, .dead, .dead]; AV.dead :: AV.dead :: AV.dead :: AV.dead :: y; let y := AV.dead :: AV.dead :: AV.dead :: AV.dead :: y; AV.dead :: AV.dead :: AV.dead :: AV.dead :: y; let y := let y := AV.dead :: AV.dead :: AV.dead :: AV.dead :: y; AV.dead :: AV.dead :: AV.dead :: AV.dead :: y; let y := AV.dead :: AV.dead :: AV.dead :: AV.dead :: y; AV.dead :: AV.dead :: AV.dead :: AV.dead :: y; let y := let y := let y := AV.dead :: AV.dead :: AV.dead :: AV.dead :: y; AV.dead :: AV.dead :: AV.dead :: AV.dead :: y; let y := AV.dead :: AV.dead :: AV.dead :: AV.dead :: y; AV.dead :: AV.dead :: AV.dead :: AV.dead :: y; let y := let y := AV.dead :: AV.dead :: AV.dead :: AV.dead :: y; AV.dead :: AV.dead :: AV.dead :: AV.dead :: y; let y := AV.dead ::
 AV.dead :: AV.dead :: AV.dead :: y; AV.dead :: AV.dead :: AV.dead :: AV.dead :: y; let y := let y := let y := let y := AV.dead :: AV.dead :: AV.dead :: AV.dead :: y; AV.dead :: AV.dead :: AV.dead :: AV.dead :: y; let y := AV.dead :: AV.dead :: AV.dead :: AV.dead :: y; AV.dead :: AV.dead :: AV.dead :: AV.dead :: y; let y := let y := AV.dead :: AV.dead :: AV.imm (.int .i64 7) :: AV.imm (.bool false) :: y; AV.dead :: AV.dead :: AV.dead :: AV.dead :: y; let y := AV.dead :: AV.dead :: AV.dead :: AV.dead :: y; AV.dead :: AV.dead :: AV.dead :: AV.dead :: y; let y := let y := let y := AV.dead :: AV.dead :: AV.dead :: AV.dead :: y; AV.dead :: AV.dead :: AV.dead :: AV.dead :: y; let y := AV.dead :: AV.dead :: AV.dead :: AV.dead :: y; AV.dead :: AV.dead :: AV.dead :: AV.dead :: y; let y := let y := AV.row (5 : Nat) (0 : Nat) :: AV.ptr 4 0 :: AV.imm (.int .i64 7) :: AV.dead :: y; AV.ptr 0 0 :: AV.ptr 1 0 :: AV.ptr 2 0 :: AV.ptr 3 0 :: y; let y := AV.dead :: AV.dead :: AV.dead :: AV.dead :: y; AV.dead :: AV.dead :: AV.imm (.int .i64 s) :: AV.imm (.int .i64 at') :: y) [(0, Ob.mk true 0 (AObj.cells [.imm (.val (Value.slice none (0 : Nat) (0 : Nat))), .imm (.val (Value.slice none (0 : Nat) (0 :
 Nat))), .imm (.val (Value.slice none (0 : Nat) (0 : Nat))), .imm (.val (Value.slice none (0 : Nat) (0 : Nat))), .imm (.val (Value.slice none (0 : Nat) (0 : Nat))), .imm (.val (Value.slice none (0 : Nat) (0 : Nat))), .imm (.val (Value.slice none (0 : Nat) (0 : Nat)))])), (1, Ob.mk true 0 (AObj.cells [.imm (.val (Value.slice none (0 : Nat) (0 : Nat))), .imm (.int .i64 0), .imm (.int .i64 0), .imm (.int .i64 0)])), (2, Ob.mk true 0 (AObj.cells [.imm (.val (Value.slice none (0 : Nat) (0 : Nat))), .imm (.val (Value.slice none (0 : Nat) (0 : Nat))), .imm (.val (Value.slice none (0 : Nat) (0 : Nat))), .imm (.val (Value.slice none (0 : Nat) (0 : Nat))), .imm (.val (Value.slice none (0 : Nat) (0 : Nat))), .imm (.val (Value.slice none (0 : Nat) (0 : Nat))), .imm (.val (Value.slice none (0 : Nat) (0 : Nat)))])), (3, Ob.mk true 0 (AObj.cells [.imm (.int IntKind.u64 n0), .imm (.int IntKind.u64 n1), .imm (.int IntKind.u64 n2), .imm (.int IntKind.u64 n3), .imm (.int IntKind.u64 n4), .imm (.int IntKind.u64 n5), .imm (.int IntKind.u64 n6)])), (4, Ob.mk true 0 (AObj.cells [.imm (.bytes d), .imm (.int .i64 p), .imm (.int .i64 e), .imm (.int .i64 a)])), (5, Ob.mk true 0 (AObj.row (IV.sl (1 : Nat)
 [[IV.bytes x0], [IV.bytes x1], [IV.bytes x2], [IV.bytes x3], [IV.bytes x4], [IV.bytes x5], [IV.bytes x6]])))] (6 : Nat) []) = ((0 : Int) ≤ 0 ∧ (0 : Int) < (↑(List.length [[IV.bytes x0], [IV.bytes x1], [IV.bytes x2], [IV.bytes x3], [IV.bytes x4], [IV.bytes x5], [IV.bytes x6]]) : Int) ∧ kcells (List.getD [[IV.bytes x0], [IV.bytes x1], [IV.bytes x2], [IV.bytes x3], [IV.bytes x4], [IV.bytes x5], [IV.bytes x6]] (0 : Int).toNat []) (0 : Nat) [CK.any] = List.getD [[IV.bytes x0], [IV.bytes x1], [IV.bytes x2], [IV.bytes x3], [IV.bytes x4], [IV.bytes x5], [IV.bytes x6]] (0 : Int).toNat [] ∧ sz48 s ∧ (↑(List.length x0) : Int) ≤ big' ∧ (0 : Int) ≤ 1 ∧ (1 : Int) < (↑(List.length [[IV.bytes x0], [IV.bytes x1], [IV.bytes x2], [IV.bytes x3], [IV.bytes x4], [IV.bytes x5], [IV.bytes x6]]) : Int) ∧ kcells (List.getD [[IV.bytes x0], [IV.bytes x1], [IV.bytes x2], [IV.bytes x3], [IV.bytes x4], [IV.bytes x5], [IV.bytes x6]] (1 : Int).toNat []) (0 : Nat) [CK.any] = List.getD [[IV.bytes x0], [IV.bytes x1], [IV.bytes x2], [IV.bytes x3], [IV.bytes x4], [IV.bytes x5], [IV.bytes x6]] (1 : Int).toNat [] ∧ (0 : Int) ≤ 2 ∧ (2 : Int) < (↑(List.length [[IV.bytes x0], [IV.bytes x1], [IV.bytes x2], [IV.bytes x3],
 [IV.bytes x4], [IV.bytes x5], [IV.bytes x6]]) : Int) ∧ kcells (List.getD [[IV.bytes x0], [IV.bytes x1], [IV.bytes x2], [IV.bytes x3], [IV.bytes x4], [IV.bytes x5], [IV.bytes x6]] (2 : Int).toNat []) (0 : Nat) [CK.any] = List.getD [[IV.bytes x0], [IV.bytes x1], [IV.bytes x2], [IV.bytes x3], [IV.bytes x4], [IV.bytes x5], [IV.bytes x6]] (2 : Int).toNat [] ∧ (↑(List.length x2) : Int) ≤ 1000000000000 ∧ (0 : Int) ≤ 3 ∧ (3 : Int) < (↑(List.length [[IV.bytes x0], [IV.bytes x1], [IV.bytes x2], [IV.bytes x3], [IV.bytes x4], [IV.bytes x5], [IV.bytes x6]]) : Int) ∧ kcells (List.getD [[IV.bytes x0], [IV.bytes x1], [IV.bytes x2], [IV.bytes x3], [IV.bytes x4], [IV.bytes x5], [IV.bytes x6]] (3 : Int).toNat []) (0 : Nat) [CK.any] = List.getD [[IV.bytes x0], [IV.bytes x1], [IV.bytes x2], [IV.bytes x3], [IV.bytes x4], [IV.bytes x5], [IV.bytes x6]] (3 : Int).toNat [] ∧ (0 : Int) ≤ 4 ∧ (4 : Int) < (↑(List.length [[IV.bytes x0], [IV.bytes x1], [IV.bytes x2], [IV.bytes x3], [IV.bytes x4], [IV.bytes x5], [IV.bytes x6]]) : Int) ∧ kcells (List.getD [[IV.bytes x0], [IV.bytes x1], [IV.bytes x2], [IV.bytes x3], [IV.bytes x4], [IV.bytes x5], [IV.bytes x6]] (4 : Int).toNat []) (0 : Nat) [CK.any] = List.getD
 [[IV.bytes x0], [IV.bytes x1], [IV.bytes x2], [IV.bytes x3], [IV.bytes x4], [IV.bytes x5], [IV.bytes x6]] (4 : Int).toNat [] ∧ sz48 s ∧ (↑(List.length x4) : Int) ≤ big' ∧ (0 : Int) ≤ 5 ∧ (5 : Int) < (↑(List.length [[IV.bytes x0], [IV.bytes x1], [IV.bytes x2], [IV.bytes x3], [IV.bytes x4], [IV.bytes x5], [IV.bytes x6]]) : Int) ∧ kcells (List.getD [[IV.bytes x0], [IV.bytes x1], [IV.bytes x2], [IV.bytes x3], [IV.bytes x4], [IV.bytes x5], [IV.bytes x6]] (5 : Int).toNat []) (0 : Nat) [CK.any] = List.getD [[IV.bytes x0], [IV.bytes x1], [IV.bytes x2], [IV.bytes x3], [IV.bytes x4], [IV.bytes x5], [IV.bytes x6]] (5 : Int).toNat [] ∧ (↑(List.length x5) : Int) ≤ big' ∧ (0 : Int) ≤ 6 ∧ (6 : Int) < (↑(List.length [[IV.bytes x0], [IV.bytes x1], [IV.bytes x2], [IV.bytes x3], [IV.bytes x4], [IV.bytes x5], [IV.bytes x6]]) : Int) ∧ kcells (List.getD [[IV.bytes x0], [IV.bytes x1], [IV.bytes x2], [IV.bytes x3], [IV.bytes x4], [IV.bytes x5], [IV.bytes x6]] (6 : Int).toNat []) (0 : Nat) [CK.any] = List.getD [[IV.bytes x0], [IV.bytes x1], [IV.bytes x2], [IV.bytes x3], [IV.bytes x4], [IV.bytes x5], [IV.bytes x6]] (6 : Int).toNat [] ∧ (↑(List.length x6) : Int) ≤ big' ∧ brn (!(true && decOk x2 && indOk x5 &&
 indOk x6)) (K [.agg [AV.new (IV.ints IntKind.i64 []), AV.new (IV.bytes []), AV.new (IV.sl (3 : Nat) []), AV.new (IV.bytes []), AV.new (IV.sl (2 : Nat) []), AV.new (IV.bools []), AV.new (IV.bools [])], .agg [.imm (.bytes (Cu.d (failU (Cu.mk d p e a) (10 : Int) at'))), .imm (.int .i64 (Cu.p (failU (Cu.mk d p e a) (10 : Int) at'))), .imm (.int .i64 (Cu.e (failU (Cu.mk d p e a) (10 : Int) at'))), .imm (.int .i64 (Cu.a (failU (Cu.mk d p e a) (10 : Int) at')))]]) (K [.agg [AV.new (IV.ints IntKind.i64 (decI x0 s.toNat (List.length x0 / s.toNat))), .imm (.bytes x1), AV.new (IV.sl (3 : Nat) (List.map cellsT (dec x2))), .imm (.bytes x3), AV.new (IV.sl (2 : Nat) (List.map cellsL (decL x4 s.toNat (List.length x4 / (s.toNat + 4))))), AV.new (IV.bools (decO x5)), AV.new (IV.bools (decO x6))], .agg [.imm (.bytes d), .imm (.int .i64 p), .imm (.int .i64 e), .imm (.int .i64 a)]])) := by kernel_rfl
end Z19
set_option maxRecDepth 100000
namespace Z19
open Go Go.AE Go.Proofs D6
attribute [local irreducible] loopK evCode evSpec loopB norm
theorem take_round {d : List UInt8} {p a o n : Int} (hp : 0 ≤ p) (ho : 0 ≤ o) (hn : 0 ≤ n) (hle : p + o + n ≤ d.length) : takeU ⟨d, p + o, 0, a⟩ n = pt (d.drop p.toNat) o n ∧ advU ⟨d, p + o, 0, a⟩ n = ⟨d, p + (o + n), 0, a⟩ := by
  have hr : restU ⟨d, p + o, 0, a⟩ = (d.length : Int) - (p + o) := by unfold restU; rw [if_pos rfl]
  have hok : advOk ⟨d, p + o, 0, a⟩ n = true := by unfold advOk; rw [hr]; exact decide_eq_true ⟨rfl, hn, by omega⟩
  refine ⟨?_, ?_⟩
  · unfold takeU pt
    rw [hok, if_pos rfl, List.drop_drop]
    congr 2
    show (p + o).toNat = p.toNat + o.toNat
    omega
  · unfold advU
    rw [hr, if_pos rfl, if_pos ⟨hn, by omega⟩]
    show (⟨d, p + o + n, 0, a⟩ : Cu) = _
    rw [Int.add_assoc]
def pcs (D : List UInt8) (h : Hd) (s : Int) : Nat → List (List IV)
  | 0 => []
  | 1 => [[.bytes (b0 D h s)]]
  | 2 => [[.bytes (b0 D h s)], [.bytes (b1 D h s)]]
  | 3 => [[.bytes (b0 D h s)], [.bytes (b1 D h s)], [.bytes (b2 D h s)]]
  | 4 => [[.bytes (b0 D h s)], [.bytes (b1 D h s)], [.bytes (b2 D h s)], [.bytes (b3 D h s)]]
  | 5 => [[.bytes (b0 D h s)], [.bytes (b1 D h s)], [.bytes (b2 D h s)], [.bytes (b3 D h s)], [.bytes (b4 D h s)]]
  | 6 => [[.bytes (b0 D h s)], [.bytes (b1 D h s)], [.bytes (b2 D h s)], [.bytes (b3 D h s)], [.bytes (b4 D h s)], [.bytes (b5 D h s)]]
  | _ => [[.bytes (b0 D h s)], [.bytes (b1 D h s)], [.bytes (b2 D h s)], [.bytes (b3 D h s)], [.bytes (b4 D h s)], [.bytes (b5 D h s)], [.bytes (b6 D h s)]]
def oI (p : Int) (h : Hd) (s : Int) : Nat → Int
  | 0 => p
  | 1 => p + o1 h s
  | 2 => p + o2 h s
  | 3 => p + o3 h s
  | 4 => p + o4 h s
  | 5 => p + o5 h s
  | 6 => p + o6 h s
  | _ => p + o7 h s
def I13 (d : List UInt8) (p a : Int) (h : Hd) (s at' : Int) (i : Nat) : St :=
  h13x (l0 h s) (l1 h) (l2 h) (l3 h) (l4 h s) (l5 h) (l6 h) s at' d (oI p h s i) 0 a (pcs (d.drop p.toNat) h s i) i
def q13 : Plan := ⟨[], msk [2, 3, 8, 9, 10, 11, 12, 13, 14] 0 128, [0, 1, 2, 3, 4, 5]⟩
theorem f13_ok' (d : List UInt8) (p e a v iu is l t ty c s at' : Int) (hu : okU ⟨d, p, e, a⟩) (hh : okH ⟨v, iu, is, l, t, ty, c⟩) (hs : sz48 s) :
    evSpec K3h Tryd.f13 [curAV d p e a, hdAV v iu is l t ty c, i64 s, i64 at'] (fun r => lmap AE.settle r = [(decU ⟨d, p, e, a⟩ ⟨v, iu, is, l, t, ty, c⟩ s at').1.av, (decU ⟨d, p, e, a⟩ ⟨v, iu, is, l, t, ty, c⟩ s at').2.av]) := by
  have hu' := hu
  obtain ⟨hp0, hp1, hd⟩ := hu
  simp only at hp0 hp1 hd
  obtain ⟨q0, q1, q2, q3, q4, q5, q6, q7⟩ := sum_pos hh hs
  have hbig : big' = 1000000000000 := rfl
  refine Eq.mpr (f13_in d p e a v iu is l t ty c s at' _) ?_
  generalize hH : (⟨v, iu, is, l, t, ty, c⟩ : Hd) = h at *
  refine brn_intro (fun he => ?_) (fun he => ?_)
  · have he' : e ≠ 0 := by simpa using he
    have : decU ⟨d, p, e, a⟩ h s at' = (zB, ⟨d, p, e, a⟩) := by unfold decU; rw [if_neg (show ¬ e = 0 from he')]
    rw [this]
    rfl
  have he' : e = 0 := by simpa using he
  subst he'
  have hr : restU ⟨d, p, 0, a⟩ = (d.length : Int) - p := by unfold restU; rw [if_pos rfl]
  have hw : IntKind.wrap .i64 ((d.length : Int) - p) = (d.length : Int) - p := wrap64 (by omega) (by omega)
  have hw2 : IntKind.wrap .u64 ((d.length : Int) - p) = (d.length : Int) - p := wrapU (by omega) (by omega)
  rw [hw, hw2]
  have main : ∀ X : Prop, (sumU h s ≤ (d.length : Int) - p → X) → brn (decide (sumU h s > (d.length : Int) - p)) (lmap AE.settle [AV.agg [AV.new (IV.ints IntKind.i64 []), AV.new (IV.bytes []), AV.new (IV.sl 3 []), AV.new (IV.bytes []), AV.new (IV.sl 2 []), AV.new (IV.bools []), AV.new (IV.bools [])],
      AV.agg [AV.imm (IV.bytes (failU ⟨d, p, 0, a⟩ 1 d.length).d), AV.imm (IV.int IntKind.i64 (failU ⟨d, p, 0, a⟩ 1 d.length).p), AV.imm (IV.int IntKind.i64 (failU ⟨d, p, 0, a⟩ 1 d.length).e), AV.imm (IV.int IntKind.i64 (failU ⟨d, p, 0, a⟩ 1 d.length).a)]] = [(decU ⟨d, p, 0, a⟩ h s at').1.av, (decU ⟨d, p, 0, a⟩ h s at').2.av]) X := by
    intro X hX
    refine brn_intro (fun hb => ?_) (fun hb => hX ?_)
    · have hb' : ¬ sumU h s ≤ restU ⟨d, p, 0, a⟩ := by
        rw [hr]
        have : sumU h s > (d.length : Int) - p := by simpa using hb
        omega
      have : decU ⟨d, p, 0, a⟩ h s at' = (zB, ⟨d, p, 1, d.length⟩) := by
        unfold decU fitsD
        rw [if_pos rfl, if_neg (by simpa using hb')]
      rw [this]
      have : failU ⟨d, p, 0, a⟩ 1 d.length = ⟨d, p, 1, d.length⟩ := by unfold failU; rw [if_pos ⟨rfl, by decide⟩]
      rw [this]
      rfl
    · have : ¬ sumU h s > (d.length : Int) - p := by simpa using hb
      omega
  have hsum : sumU h s = l0 h s + l1 h + l2 h + l3 h + l4 h s + l5 h + l6 h := rfl
  have e1 : o1 h s = l0 h s := rfl
  have e2 : o2 h s = o1 h s + l1 h := rfl
  have e3 : o3 h s = o2 h s + l2 h := rfl
  have e4 : o4 h s = o3 h s + l3 h := rfl
  have e5 : o5 h s = o4 h s + l4 h s := rfl
  have e6 : o6 h s = o5 h s + l5 h := rfl
  have e7 : o7 h s = o6 h s + l6 h := rfl
  have loop : sumU h s ≤ (d.length : Int) - p → ∀ st, norm p13i st = some (I13 d p a h s at' 0) → LoopI K3h (bodyOf Tryd.f13) 0 st (finK K3h Tryd.f13 (fun r => lmap AE.settle r = [(decU ⟨d, p, 0, a⟩ h s at').1.av, (decU ⟨d, p, 0, a⟩ h s at').2.av])) := by
    intro hb st hst
    unfold LoopI
    refine loop_rule (I13 d p a h s at') (fun i => i ≤ 7) (fun i => 7 - i) (fun i hP K' hnorm hexit => ?_) rfl 0 p13i _ (Nat.zero_le _) hst
    have : i = 0 ∨ i = 1 ∨ i = 2 ∨ i = 3 ∨ i = 4 ∨ i = 5 ∨ i = 6 ∨ i = 7 := by omega
    rcases this with rfl | rfl | rfl | rfl | rfl | rfl | rfl | rfl
    · rw [show I13 d p a h s at' 0 = h13x (l0 h s) (l1 h) (l2 h) (l3 h) (l4 h s) (l5 h) (l6 h) s at' d p 0 a (pcs (d.drop p.toNat) h s 0) 0 from rfl, f13_lp0]
      have w : IntKind.wrap .i64 (l0 h s) = l0 h s := wrap64 (by omega) (by omega)
      have tr := take_round (d := d) (a := a) (p := p) (o := 0) (n := l0 h s) hp0 (by omega) (by omega) (by omega)
      rw [Int.add_zero, Int.zero_add] at tr
      rw [w, tr.1, tr.2]
      have ok : okU ⟨d, p, 0, a⟩ := ⟨by show 0 ≤ p; omega, by show p ≤ (d.length : Int); omega, hd⟩
      exact ⟨⟨ok, show (0 + 1) * 24 ≤ 140737488355328 by decide, show 0 + 1 ≤ 140737488355328 by decide, hnorm 1 q13 _ (by omega) (by omega) (by kernel_rfl)⟩, ok, show (0 + 1) * 24 ≤ 140737488355328 by decide, show 0 + 1 ≤ 140737488355328 by decide, hnorm 1 q13 _ (by omega) (by omega) (by kernel_rfl)⟩
    · rw [show I13 d p a h s at' 1 = h13x (l0 h s) (l1 h) (l2 h) (l3 h) (l4 h s) (l5 h) (l6 h) s at' d (p + o1 h s) 0 a (pcs (d.drop p.toNat) h s 1) 1 from rfl, f13_lp1]
      have w : IntKind.wrap .i64 (l1 h) = l1 h := wrap64 (by omega) (by omega)
      have tr := take_round (d := d) (a := a) (p := p) (o := o1 h s) (n := l1 h) hp0 (by omega) (by omega) (by omega)
      skip
      rw [w, tr.1, tr.2]
      have ok : okU ⟨d, (p + o1 h s), 0, a⟩ := ⟨by show 0 ≤ (p + o1 h s); omega, by show (p + o1 h s) ≤ (d.length : Int); omega, hd⟩
      exact ⟨⟨ok, show (1 + 1) * 24 ≤ 140737488355328 by decide, show 1 + 1 ≤ 140737488355328 by decide, hnorm 2 q13 _ (by omega) (by omega) (by kernel_rfl)⟩, ok, show (1 + 1) * 24 ≤ 140737488355328 by decide, show 1 + 1 ≤ 140737488355328 by decide, hnorm 2 q13 _ (by omega) (by omega) (by kernel_rfl)⟩
    · rw [show I13 d p a h s at' 2 = h13x (l0 h s) (l1 h) (l2 h) (l3 h) (l4 h s) (l5 h) (l6 h) s at' d (p + o2 h s) 0 a (pcs (d.drop p.toNat) h s 2) 2 from rfl, f13_lp2]
      have w : IntKind.wrap .i64 (l2 h) = l2 h := wrap64 (by omega) (by omega)
      have tr := take_round (d := d) (a := a) (p := p) (o := o2 h s) (n := l2 h) hp0 (by omega) (by omega) (by omega)
      skip
      rw [w, tr.1, tr.2]
      have ok : okU ⟨d, (p + o2 h s), 0, a⟩ := ⟨by show 0 ≤ (p + o2 h s); omega, by show (p + o2 h s) ≤ (d.length : Int); omega, hd⟩
      exact ⟨⟨ok, show (2 + 1) * 24 ≤ 140737488355328 by decide, show 2 + 1 ≤ 140737488355328 by decide, hnorm 3 q13 _ (by omega) (by omega) (by kernel_rfl)⟩, ok, show (2 + 1) * 24 ≤ 140737488355328 by decide, show 2 + 1 ≤ 140737488355328 by decide, hnorm 3 q13 _ (by omega) (by omega) (by kernel_rfl)⟩
    · rw [show I13 d p a h s at' 3 = h13x (l0 h s) (l1 h) (l2 h) (l3 h) (l4 h s) (l5 h) (l6 h) s at' d (p + o3 h s) 0 a (pcs (d.drop p.toNat) h s 3) 3 from rfl, f13_lp3]
      have w : IntKind.wrap .i64 (l3 h) = l3 h := wrap64 (by omega) (by omega)
      have tr := take_round (d := d) (a := a) (p := p) (o := o3 h s) (n := l3 h) hp0 (by omega) (by omega) (by omega)
      skip
      rw [w, tr.1, tr.2]
      have ok : okU ⟨d, (p + o3 h s), 0, a⟩ := ⟨by show 0 ≤ (p + o3 h s); omega, by show (p + o3 h s) ≤ (d.length : Int); omega, hd⟩
      exact ⟨⟨ok, show (3 + 1) * 24 ≤ 140737488355328 by decide, show 3 + 1 ≤ 140737488355328 by decide, hnorm 4 q13 _ (by omega) (by omega) (by kernel_rfl)⟩, ok, show (3 + 1) * 24 ≤ 140737488355328 by decide, show 3 + 1 ≤ 140737488355328 by decide, hnorm 4 q13 _ (by omega) (by omega) (by kernel_rfl)⟩
    · rw [show I13 d p a h s at' 4 = h13x (l0 h s) (l1 h) (l2 h) (l3 h) (l4 h s) (l5 h) (l6 h) s at' d (p + o4 h s) 0 a (pcs (d.drop p.toNat) h s 4) 4 from rfl, f13_lp4]
      have w : IntKind.wrap .i64 (l4 h s) = l4 h s := wrap64 (by omega) (by omega)
      have tr := take_round (d := d) (a := a) (p := p) (o := o4 h s) (n := l4 h s) hp0 (by omega) (by omega) (by omega)
      skip
      rw [w, tr.1, tr.2]
      have ok : okU ⟨d, (p + o4 h s), 0, a⟩ := ⟨by show 0 ≤ (p + o4 h s); omega, by show (p + o4 h s) ≤ (d.length : Int); omega, hd⟩
      exact ⟨⟨ok, show (4 + 1) * 24 ≤ 140737488355328 by decide, show 4 + 1 ≤ 140737488355328 by decide, hnorm 5 q13 _ (by omega) (by omega) (by kernel_rfl)⟩, ok, show (4 + 1) * 24 ≤ 140737488355328 by decide, show 4 + 1 ≤ 140737488355328 by decide, hnorm 5 q13 _ (by omega) (by omega) (by kernel_rfl)⟩
    · rw [show I13 d p a h s at' 5 = h13x (l0 h s) (l1 h) (l2 h) (l3 h) (l4 h s) (l5 h) (l6 h) s at' d (p + o5 h s) 0 a (pcs (d.drop p.toNat) h s 5) 5 from rfl, f13_lp5]
      have w : IntKind.wrap .i64 (l5 h) = l5 h := wrap64 (by omega) (by omega)
      have tr := take_round (d := d) (a := a) (p := p) (o := o5 h s) (n := l5 h) hp0 (by omega) (by omega) (by omega)
      skip
      rw [w, tr.1, tr.2]
      have ok : okU ⟨d, (p + o5 h s), 0, a⟩ := ⟨by show 0 ≤ (p + o5 h s); omega, by show (p + o5 h s) ≤ (d.length : Int); omega, hd⟩
      exact ⟨⟨ok, show (5 + 1) * 24 ≤ 140737488355328 by decide, show 5 + 1 ≤ 140737488355328 by decide, hnorm 6 q13 _ (by omega) (by omega) (by kernel_rfl)⟩, ok, show (5 + 1) * 24 ≤ 140737488355328 by decide, show 5 + 1 ≤ 140737488355328 by decide, hnorm 6 q13 _ (by omega) (by omega) (by kernel_rfl)⟩
    · rw [show I13 d p a h s at' 6 = h13x (l0 h s) (l1 h) (l2 h) (l3 h) (l4 h s) (l5 h) (l6 h) s at' d (p + o6 h s) 0 a (pcs (d.drop p.toNat) h s 6) 6 from rfl, f13_lp6]
      have w : IntKind.wrap .i64 (l6 h) = l6 h := wrap64 (by omega) (by omega)
      have tr := take_round (d := d) (a := a) (p := p) (o := o6 h s) (n := l6 h) hp0 (by omega) (by omega) (by omega)
      skip
      rw [w, tr.1, tr.2]
      have ok : okU ⟨d, (p + o6 h s), 0, a⟩ := ⟨by show 0 ≤ (p + o6 h s); omega, by show (p + o6 h s) ≤ (d.length : Int); omega, hd⟩
      exact ⟨⟨ok, show (6 + 1) * 24 ≤ 140737488355328 by decide, show 6 + 1 ≤ 140737488355328 by decide, hnorm 7 q13 _ (by omega) (by omega) (by kernel_rfl)⟩, ok, show (6 + 1) * 24 ≤ 140737488355328 by decide, show 6 + 1 ≤ 140737488355328 by decide, hnorm 7 q13 _ (by omega) (by omega) (by kernel_rfl)⟩
    · generalize hD : d.drop p.toNat = D at *
      have hDl : (D.length : Int) = d.length - p := by rw [← hD, List.length_drop]; omega
      rw [show I13 d p a h s at' 7 = h13x (l0 h s) (l1 h) (l2 h) (l3 h) (l4 h s) (l5 h) (l6 h) s at' d (p + o7 h s) 0 a [[.bytes (b0 D h s)], [.bytes (b1 D h s)], [.bytes (b2 D h s)], [.bytes (b3 D h s)], [.bytes (b4 D h s)], [.bytes (b5 D h s)], [.bytes (b6 D h s)]] 7 from by rw [← hD]; rfl, f13z_lp]
      refine hexit _ _ (by simp) ?_
      rw [f13_out]
      have m0 : (((b0 D h s).length : Nat) : Int) ≤ big' := by have := pt_len D (x := 0) (n := l0 h s) (by omega) (by omega) (by omega); unfold b0; omega
      have m2 : (((b2 D h s).length : Nat) : Int) ≤ 1000000000000 := by have := pt_len D (x := o2 h s) (n := l2 h) (by omega) (by omega) (by omega); unfold b2; omega
      have m4 : (((b4 D h s).length : Nat) : Int) ≤ big' := by have := pt_len D (x := o4 h s) (n := l4 h s) (by omega) (by omega) (by omega); unfold b4; omega
      have m5 : (((b5 D h s).length : Nat) : Int) ≤ big' := by have := pt_len D (x := o5 h s) (n := l5 h) (by omega) (by omega) (by omega); unfold b5; omega
      have m6 : (((b6 D h s).length : Nat) : Int) ≤ big' := by have := pt_len D (x := o6 h s) (n := l6 h) (by omega) (by omega) (by omega); unfold b6; omega
      have hf : fitsD ⟨d, p, 0, a⟩ h s = true := by unfold fitsD; rw [hr]; simpa using hb
      have z : ∀ n : Nat, (0 : Int) ≤ n := fun n => Int.natCast_nonneg n
      refine ⟨by decide, (show (0 : Int) < 7 by decide), rfl, hs, m0, by decide, (show (1 : Int) < 7 by decide), rfl, by decide, (show (2 : Int) < 7 by decide), rfl, m2, by decide, (show (3 : Int) < 7 by decide), rfl, by decide, (show (4 : Int) < 7 by decide), rfl, hs, m4, by decide, (show (5 : Int) < 7 by decide), rfl, m5, by decide, (show (6 : Int) < 7 by decide), rfl, m6, brn_intro (fun hk => ?_) (fun hk => ?_)⟩
      · have hno : okD D h s = false := by
          unfold okD
          cases h1 : decOk (b2 D h s) <;> cases h2 : indOk (b5 D h s) <;> cases h3 : indOk (b6 D h s) <;> simp_all
        have : decU ⟨d, p, 0, a⟩ h s at' = (zB, ⟨d, p + sumU h s, 10, at'⟩) := by
          unfold decU
          rw [if_pos rfl, if_pos hf]
          simp only [hD]
          rw [if_neg (by rw [hno]; decide)]
        rw [this]
        have : failU ⟨d, p + o7 h s, 0, a⟩ 10 at' = ⟨d, p + sumU h s, 10, at'⟩ := by unfold failU; rw [if_pos ⟨rfl, by decide⟩]; show (⟨d, p + o7 h s, 10, at'⟩ : Cu) = _; rw [show o7 h s = sumU h s by omega]
        rw [this]
        rfl
      · have hyes : okD D h s = true := by
          unfold okD
          cases h1 : decOk (b2 D h s) <;> cases h2 : indOk (b5 D h s) <;> cases h3 : indOk (b6 D h s) <;> simp_all
        have hdec : decU ⟨d, p, 0, a⟩ h s at' = (decB D h s, ⟨d, p + sumU h s, 0, a⟩) := by
          unfold decU
          rw [if_pos rfl, if_pos hf]
          simp only [hD]
          rw [if_pos hyes]
        rw [hdec, show o7 h s = sumU h s by omega]
        rfl
  refine ⟨⟨hh, hs, main _ (fun hb => ⟨hh, hs, loop hb _ (by kernel_rfl)⟩)⟩, hh, hs, main _ (fun hb => ⟨hh, hs, loop hb _ (by kernel_rfl)⟩)⟩
end Z19
set_option maxRecDepth 100000
namespace Z19
open Go Go.AE Go.Proofs Go.RowKit D6
attribute [local irreducible] loopK evCode evSpec loopB norm
theorem I3_ok : ∀ f fn, I3 f = some fn → Tryd.prog.funcs[f]? = some fn ∧ (fn.name == "runtime.NumGoroutine") = false := by
  intro f fn h
  unfold I3 at h
  cases h1 : Nat.beq f 30 with
  | true => rw [h1, cond_true] at h; cases h; obtain rfl := nbeq h1; exact ⟨Tryd.func30, by kernel_rfl⟩
  | false => rw [h1, cond_false] at h; cases h
theorem ok12 : ∀ args pres res, sDecode args = some (pres, res) → SpecOK Tryd.prog G16 12 args pres res := by
  intro args pres res h
  unfold sDecode at h
  split at h
  case h_2 => cases h
  cases h
  exact spec_okS (C := K3i) okF3 (inl_ok okF3 I3_ok 3) Tryd.func12 (by kernel_rfl) (by kernel_rfl) (fun hp => f12_ok' _ _ _ _ _ _ _ _ _ _ _ _ _ (hp _ (by simp)) (hp _ (by simp)) (hp _ (by simp)))
theorem ok13 : ∀ args pres res, sDecode args = some (pres, res) → SpecOK Tryd.prog G16 13 args pres res := by
  intro args pres res h
  unfold sDecode at h
  split at h
  case h_2 => cases h
  cases h
  exact spec_okS (C := K3h) okF3 noCall_ok Tryd.func13 (by kernel_rfl) (by kernel_rfl) (fun hp => f13_ok' _ _ _ _ _ _ _ _ _ _ _ _ _ (hp _ (by simp)) (hp _ (by simp)) (hp _ (by simp)))
theorem ok21 : ∀ args pres res, sEncode args = some (pres, res) → SpecOK Tryd.prog G16 21 args pres res := by
  intro args pres res h
  unfold sEncode blkS at h
  split at h
  case h_2 => cases h
  try dsimp only at h
  split at h
  case h_2 => cases h
  cases h
  exact spec_ok (C := K3h) okF3 noCall_ok Tryd.func21 (by kernel_rfl) (by kernel_rfl) (fun hp => f21_ev _ _ _ _ _ _ _ _ (hp _ (by simp)) (hp _ (by simp)) _ rfl)
theorem ok22 : ∀ args pres res, sEncode args = some (pres, res) → SpecOK Tryd.prog G16 22 args pres res := by
  intro args pres res h
  unfold sEncode blkS at h
  split at h
  case h_2 => cases h
  try dsimp only at h
  split at h
  case h_2 => cases h
  cases h
  exact mk okF3 Tryd.func22 (by kernel_rfl) (by kernel_rfl) (fun hp K hK => f22_ev _ _ _ _ _ _ _ _ (hp _ (by simp)) (hp _ (by simp)) K hK)
theorem okF4 : EOK Tryd.prog F4 G16 := addE_ok (addE_ok (addE_ok (addE_ok okF3 ok12) ok13) ok21) ok22
end Z19
set_option maxRecDepth 100000
namespace Z19
open Go Go.AE Go.Proofs D6
attribute [local irreducible] loopK evCode evSpec loopB norm
theorem sz_w (w : Bool) : ∃ n : Nat, (n = 4 ∨ n = 8) ∧ (if w = true then (8 : Int) else 4) = (n : Int) := by
  cases w
  · exact ⟨4, .inl rfl, rfl⟩
  · exact ⟨8, .inr rfl, rfl⟩
theorem u32w_small {n : Nat} (h : n ≤ 600) : u32w n = (n : Int) := by
  unfold u32w
  have : ∀ m : Int, 0 ≤ m → m ≤ 600 → IntKind.wrap .u32 m = m := fun m h0 h1 => by
    unfold IntKind.wrap
    simp only [IntKind.signed, IntKind.bits, Bool.false_and, Bool.false_eq_true, if_false]
    omega
  exact this _ (by omega) (by omega)
theorem fits_in {n : Nat} {t : Int} (hn : n = 4 ∨ n = 8) (h8 : inN 8 t) (h : fitsP t n = true) : inN n t := by
  rcases hn with rfl | rfl
  · rcases h8 with ⟨h, _⟩ | ⟨_, a, b⟩
    · cases h
    · unfold fitsP at h
      simp at h
      exact .inl ⟨rfl, h.1, h.2⟩
  · exact h8
theorem fewB_elim {T : List Int} {I : List UInt8} {X : List (List IV)} {C : List UInt8} {L : List (List IV)} {S U : List Bool} (h : fewB T I X C L S U = true) : T.length ≤ 200 ∧ I.length ≤ 200 ∧ X.length ≤ 200 ∧ C.length ≤ 600 ∧ L.length ≤ 200 ∧ S.length ≤ 200 ∧ U.length ≤ 200 := by
  unfold fewB at h
  simp only [Bool.and_eq_true, decide_eq_true_eq] at h
  omega
theorem enc_facts {T : List Int} {I : List UInt8} {X : List (List IV)} {C : List UInt8} {L : List (List IV)} {S U : List Bool} {n : Nat} {v : Int} (hn : n = 4 ∨ n = 8) (hX : okT X) (hL : okL L) (hT : ∀ t ∈ T, inN 8 t) (h : encable T I X C L S U n = true) (d : List UInt8) (hd : d.length ≤ 500) (at' : Int) :
    Fits (hdOf T X C L S U v) T I (tys X) C (lps L) S U ∧ okH (hdOf T X C L S U v) ∧ okE T I X C L S U ∧ okB T I X C L S U ∧ (encB T I (tys X) C (lps L) S U n).length ≤ 100000 ∧
    okU ⟨encB T I (tys X) C (lps L) S U n ++ d, 0, 0, 0⟩ ∧
    decU ⟨encB T I (tys X) C (lps L) S U n ++ d, 0, 0, 0⟩ (hdOf T X C L S U v) n at' = (⟨T, I, tys X, C, lps L, S, U⟩, ⟨encB T I (tys X) C (lps L) S U n ++ d, (encB T I (tys X) C (lps L) S U n).length, 0, 0⟩) := by
  unfold encable at h
  simp only [Bool.and_eq_true, decide_eq_true_eq] at h
  obtain ⟨hfl, hti, hfp, hfew⟩ := h
  obtain ⟨a1, a2, a3, a4, a5, a6, a7⟩ := fewB_elim hfew
  have lt : (tys X).length = X.length := by simp [tys]
  have ll' : (lps L).length = L.length := by simp [lps]
  have hbig : big' = 1000000000000 := rfl
  have f : Fits (hdOf T X C L S U v) T I (tys X) C (lps L) S U := by
    refine ⟨u32w_small (by omega), ?_, ?_, u32w_small (by omega), ?_, u32w_small (by omega), u32w_small (by omega)⟩
    · rw [← hti]; exact u32w_small (by omega)
    · rw [lt]; exact u32w_small (by omega)
    · rw [ll']; exact u32w_small (by omega)
  have hT' : ∀ t ∈ T, inN n t := fun t ht => by
    unfold fitP at hfp
    rw [List.all_eq_true] at hfp
    exact fits_in hn (hT t ht) (hfp t ht)
  have hL' : ∀ t ∈ lps L, inN n t.a ∧ inN 4 t.c := fun t ht => by
    unfold fitL at hfl
    rw [List.all_eq_true] at hfl
    obtain ⟨q1, q2, q3, q4⟩ := hL.2 t ht
    exact ⟨fits_in hn (.inr ⟨rfl, q1, by omega⟩) (hfl t ht), .inl ⟨rfl, q3, by omega⟩⟩
  have hlen : (encB T I (tys X) C (lps L) S U n).length ≤ 100000 := by
    have q1 : n * T.length ≤ 8 * 200 := Nat.mul_le_mul (by omega) a1
    have q2 : (n + 4) * (lps L).length ≤ 12 * 200 := Nat.mul_le_mul (by omega) (by omega)
    simp only [encB, List.length_append, encI_len, enc_len, encL_len, encO, List.length_map]
    omega
  have hh : okH (hdOf T X C L S U v) := by
    have g1 := f.t; have g2 := f.ty; have g3 := f.c; have g4 := f.l; have g5 := f.is; have g6 := f.iu
    unfold okH U32
    omega
  refine ⟨f, hh, ⟨hX, hL, by omega, by omega, by omega, by omega, by omega, by omega, by omega⟩, ⟨hX, hL, by omega, by omega, by omega, by omega, by omega, by omega, by omega⟩, hlen, ⟨Int.le_refl 0, Int.natCast_nonneg _, by show ((_ : Nat) : Int) ≤ _; rw [List.length_append]; omega⟩, ?_⟩
  obtain ⟨k1, k2⟩ := dec_encB f hn hT' hX.2 hL' d
  have hs := f.sum (n := n)
  unfold decU
  rw [if_pos rfl, if_pos (by
    unfold fitsD restU
    rw [if_pos rfl, hs]
    simp only [List.length_append]
    exact decide_eq_true (by omega))]
  simp only [Int.toNat_zero, List.drop_zero]
  rw [if_pos k1, k2, hs, Int.zero_add]
theorem sameK_refl {T : List Int} {I : List UInt8} {X : List (List IV)} {C : List UInt8} {L : List (List IV)} {S U : List Bool} : sameK T I (List.map cellsT (tys X)) C (List.map cellsL (lps L)) S U T I X C L S U = true := by
  unfold sameK
  rw [tys_map, lps_map]
  simp
set_option maxHeartbeats 1000000 in
theorem f4_ev (T : List Int) (I : List UInt8) (X : List (List IV)) (C : List UInt8) (L : List (List IV)) (S U : List Bool) (w : Bool) (d : List UInt8) (hX : okT X) (hL : okL L) (hT : ∀ t ∈ T, inN 8 t) (hTl : (T.length : Int) ≤ big) (hLl : (L.length : Int) ≤ big)
    (K : List AV → Prop) (hK : K [bo true]) : evSpec K5h Tryd.f4 [blkAV T I X C L S U, bo w, by' d] K := by
  refine Eq.mpr (f4_in T I X C L S U w d K) ?_
  obtain ⟨n, hn, hs⟩ := sz_w w
  have hs48 : sz48 (n : Int) := by rcases hn with rfl | rfl; exact .inl rfl; exact .inr rfl
  have m0 : List.map u8 [] = [] := rfl
  rw [hs, Int.toNat_natCast]
  intro E1 R1 R2 R3
  have e1 : E1 := rfl
  refine ⟨fun _ => ⟨hX, hL, hTl, hLl⟩, fun _ => hs48, brn_intro (fun _ => hK) (fun h => ?_)⟩
  have h' : encable T I X C L S U n = true ∧ d.length ≤ 500 := by
    simp only [Bool.not_true, Bool.false_or, Bool.or_eq_false_iff, Bool.not_eq_false', decide_eq_false_iff_not] at h
    exact ⟨h.1, by omega⟩
  obtain ⟨f, hh, hE, hB, hlen, hU, hD⟩ := enc_facts (v := 1) hn hX hL hT h'.1 d h'.2 0
  have hsum := f.sum (n := n)
  have p1 : (List.length (List.map u8 []) + (encB T I (tys X) C (lps L) S U n).length) * 1 ≤ 140737488355328 := by simp; omega
  have p2 : List.length (List.map u8 []) + (encB T I (tys X) C (lps L) S U n).length ≤ 140737488355328 := by simp; omega
  have p3 : (List.length (List.map u8 [] ++ encB T I (tys X) C (lps L) S U n) + d.length) * 1 ≤ 140737488355328 := by simp; omega
  have p4 : List.length (List.map u8 [] ++ encB T I (tys X) C (lps L) S U n) + d.length ≤ 140737488355328 := by simp; omega
  have pU : okU ⟨List.map u8 [] ++ encB T I (tys X) C (lps L) S U n ++ d, 0, 0, 0⟩ := hU
  have pH : okH ⟨(hdOf T X C L S U 1).v, (hdOf T X C L S U 1).iu, (hdOf T X C L S U 1).is, (hdOf T X C L S U 1).l, (hdOf T X C L S U 1).t, (hdOf T X C L S U 1).ty, (hdOf T X C L S U 1).c⟩ := hh
  have pD : decU ⟨List.map u8 [] ++ encB T I (tys X) C (lps L) S U n ++ d, 0, 0, 0⟩ ⟨(hdOf T X C L S U 1).v, (hdOf T X C L S U 1).iu, (hdOf T X C L S U 1).is, (hdOf T X C L S U 1).l, (hdOf T X C L S U 1).t, (hdOf T X C L S U 1).ty, (hdOf T X C L S U 1).c⟩ n 0 = _ := hD
  have q1 : R1 := by show _ ∧ _; repeat' (first | assumption | apply And.intro)
  have q3 : R3 := by show _ ∧ _; repeat' (first | assumption | apply And.intro)
  have q2 : R2 := by show _ ∧ _; repeat' (first | assumption | apply And.intro)
  clear_value E1 R1 R2 R3
  rw [pD]
  have hw : IntKind.wrap .u64 ((encB T I (tys X) C (lps L) S U n).length : Int) = ((encB T I (tys X) C (lps L) S U n).length : Int) := wrapU (by omega) (by omega)
  have hB' : okB T I (List.map cellsT (tys X)) C (List.map cellsL (lps L)) S U := by
    obtain ⟨b1, b2, b3, b4, b5, b6, b7, b8, b9⟩ := hB
    refine ⟨b1.1 ▸ b1, b2.1 ▸ b2, b3, b4, ?_, b6, ?_, b8, b9⟩
    · rw [← b1.1]; exact b5
    · rw [← b2.1]; exact b7
  refine ⟨hE, hs48, ?_⟩
  repeat' (first | assumption | exact fun _ => hB' | exact fun _ => hB | apply And.intro)
  have hs2 : sumU ⟨(hdOf T X C L S U 1).v, (hdOf T X C L S U 1).iu, (hdOf T X C L S U 1).is, (hdOf T X C L S U 1).l, (hdOf T X C L S U 1).t, (hdOf T X C L S U 1).ty, (hdOf T X C L S U 1).c⟩ n = ((encB T I (tys X) C (lps L) S U n).length : Int) := hsum
  simp only [hw, hs2, sameK_refl, beq_self_eq_true, Bool.and_true]
  exact hK
end Z19
set_option maxRecDepth 100000
namespace Z19
open Go Go.AE Go.Proofs D6
attribute [local irreducible] loopK evCode evSpec loopB norm
def tyB (t : Ty) : Bool := decide (-2147483648 ≤ t.o) && (decide (t.o ≤ 2147483647) && (decide (0 ≤ t.g) && decide (t.g ≤ 255)))
theorem okT_of {xs : List (List IV)} (h1 : xs = (tys xs).map cellsT) (h2 : (tys xs).all tyB = true) : okT xs := by
  refine ⟨h1, fun t ht => ?_⟩
  have := List.all_eq_true.1 h2 t ht
  unfold tyB at this
  simp only [Bool.and_eq_true, decide_eq_true_eq] at this
  exact this
theorem okL_nil : okL [] := ⟨rfl, fun t ht => by cases ht⟩
set_option maxHeartbeats 4000000 in
theorem f8_ev (K : List AV → Prop) (hK : K [bo true]) : evSpec K4h Tryd.f8 [] K := by
  refine Eq.mpr (f8_in K) ?_
  intro Q1 Q2 Q3 Q4 Q5 Q6 E1 E2 E3
  have e1 : E1 := rfl
  have e2 : E2 := rfl
  have e3 : E3 := rfl
  have u1 : okU (Cu.mk Q1 0 0 0) := by
    unfold okU
    exact of_decide_eq_true (by kernel_rfl)
  have u2 : okU (Cu.mk (List.take (Int.toNat (20 : Int) - (0 : Nat)) (List.drop (0 : Nat) Q1)) 0 0 0) := by
    unfold okU
    exact of_decide_eq_true (by kernel_rfl)
  have u3 : okU (Cu.mk (List.set (List.map u8 [] ++ Q1) (Int.toNat (20 : Int)) (u8 (2 : Int))) 0 0 0) := by
    unfold okU
    exact of_decide_eq_true (by kernel_rfl)
  have u4 : okH (Hd.mk (Hd.v Q2) (Hd.iu Q2) (Hd.is Q2) (Hd.l Q2) (Hd.t Q2) (Hd.ty Q2) (Hd.c Q2)) := by
    unfold okH U32
    exact of_decide_eq_true (by kernel_rfl)
  have s4 : sz48 4 := .inl rfl
  have s8 : sz48 8 := .inr rfl
  have t1 : okT (List.replicate (Int.toNat (1 : Int)) [IV.int IntKind.i32 (0 : Int), IV.bool false, IV.int IntKind.u8 (0 : Int)]) := okT_of (by kernel_rfl) (by kernel_rfl)
  have t2 : okT [[IV.int IntKind.i32 (0 : Int), IV.bool false, IV.int IntKind.u8 (0 : Int)], [IV.int IntKind.i32 (60 : Int), IV.bool true, IV.int IntKind.u8 (1 : Int)]] := okT_of (by kernel_rfl) (by kernel_rfl)
  have t3 : okT (List.map cellsT (Bk.X (Prod.fst Q3))) := okT_of (by kernel_rfl) (by kernel_rfl)
  have l1 : okL [] := okL_nil
  have l2 : okL (List.map cellsL (Bk.L (Prod.fst Q3))) := by
    have : List.map cellsL (Bk.L (Prod.fst Q3)) = [] := by kernel_rfl
    rw [this]; exact l1
  have x1 : okE [] [] (List.replicate (Int.toNat (1 : Int)) [IV.int IntKind.i32 (0 : Int), IV.bool false, IV.int IntKind.u8 (0 : Int)]) (List.map u8 [(0 : Int)]) [] [] [] := ⟨t1, l1, of_decide_eq_true (by kernel_rfl)⟩
  have x2 : okE [(-1 : Int)] (List.map u8 [(1 : Int)]) [[IV.int IntKind.i32 (0 : Int), IV.bool false, IV.int IntKind.u8 (0 : Int)], [IV.int IntKind.i32 (60 : Int), IV.bool true, IV.int IntKind.u8 (1 : Int)]] (List.map u8 [(0 : Int), (0 : Int)]) [] [false, true] [] := ⟨t2, l1, of_decide_eq_true (by kernel_rfl)⟩
  have b1 : okB [] [] (List.replicate (Int.toNat (1 : Int)) [IV.int IntKind.i32 (0 : Int), IV.bool false, IV.int IntKind.u8 (0 : Int)]) (List.map u8 [(0 : Int)]) [] [] [] := ⟨t1, l1, of_decide_eq_true (by kernel_rfl)⟩
  have b2 : okB [(-1 : Int)] (List.map u8 [(1 : Int)]) [[IV.int IntKind.i32 (0 : Int), IV.bool false, IV.int IntKind.u8 (0 : Int)], [IV.int IntKind.i32 (60 : Int), IV.bool true, IV.int IntKind.u8 (1 : Int)]] (List.map u8 [(0 : Int), (0 : Int)]) [] [false, true] [] := ⟨t2, l1, of_decide_eq_true (by kernel_rfl)⟩
  have b3 : okB (Bk.T (Prod.fst Q3)) (Bk.I (Prod.fst Q3)) (List.map cellsT (Bk.X (Prod.fst Q3))) (Bk.C (Prod.fst Q3)) (List.map cellsL (Bk.L (Prod.fst Q3))) (Bk.S (Prod.fst Q3)) (Bk.U (Prod.fst Q3)) := ⟨t3, l2, of_decide_eq_true (by kernel_rfl)⟩
  have c1 : (0 : Int) ≤ (20 : Int) := by decide
  have c2 : (20 : Int) ≤ (↑(List.length Q1) : Int) := of_decide_eq_true (by kernel_rfl)
  intro R1 R2 R3 R4
  have r1 : R1 := by show _ ∧ _; repeat' (first | assumption | apply And.intro)
  have r2 : R2 := by show _ ∧ _; repeat' (first | assumption | apply And.intro)
  have r3 : R3 := by show _ ∧ _; repeat' (first | assumption | apply And.intro)
  have r4 : R4 := by show _ ∧ _; repeat' (first | assumption | apply And.intro)
  clear_value E1 E2 E3 R1 R2 R3 R4
  have hb : ((↑(List.length Q1) : Int) != (21 : Int)) = false := by kernel_rfl
  rw [hb]
  repeat' (first | assumption | exact fun _ => b1 | exact fun _ => b2 | exact fun _ => b3 | exact of_decide_eq_true (by kernel_rfl) | exact fun _ => of_decide_eq_true (by kernel_rfl) | apply And.intro | show _ ∧ _)
  exact (congrArg (fun b => K [.imm (.bool b)]) (by kernel_rfl : _ = true)).mpr hK
theorem ok8 : ∀ args pres res, sAwake args = some (pres, res) → SpecOK Tryd.prog G16 8 args pres res := by
  intro args pres res h
  unfold sAwake at h
  split at h
  case h_2 => cases h
  cases h
  exact spec_ok (C := K4h) okF4 noCall_ok Tryd.func8 (by kernel_rfl) (by kernel_rfl) (fun _ => f8_ev _ rfl)
theorem okF5 : EOK Tryd.prog F5 G16 := addE_ok okF4 ok8
end Z19
namespace Go.AE
open Go.ChangeShapes Go.WideShapes Go.ChangeAt Go.RowKit
section
variable {H : Type} {enc : TypeId × Value → H} {P : Program}
theorem args_stay (hl : laidOutB P = true) {W W' : World} {sp' : Nat → Bool} : ∀ {ts : List TypeId} {vs : List Value} {ds : List (DataW H)} {ps : List MemPlace},
    lall (fun t => bif P.readableRec t then decide (t < P.types.size) else false) ts = true → DataW.TrodAll enc P W 0 (fun _ => true) true ts vs ds ps → (∀ p ∈ ps, W.sameAt W' p) → (∀ p ∈ ps, sp' p.block = true) →
    DataW.TrodAll enc P W' 0 sp' true ts vs ds ps
  | [], [], [], _, _, h, _, _ => h
  | [], _ :: _, _, _, _, h, _, _ => h.elim
  | [], [], _ :: _, _, _, h, _, _ => h.elim
  | _ :: _, [], _, _, _, h, _, _ => h.elim
  | _ :: _, _ :: _, [], _, _, h, _, _ => h.elim
  | t :: ts, v :: vs, d :: ds, ps, hc, h, hs, hp => by
    obtain ⟨p, q, h1, h2, rfl⟩ := h
    rw [lall] at hc
    cases hb : (bif P.readableRec t then decide (t < P.types.size) else false) with
    | false => rw [hb] at hc; cases hc
    | true =>
      rw [hb] at hc
      cases hr : P.readableRec t with
      | false => rw [hr] at hb; cases hb
      | true =>
        rw [hr] at hb
        exact ⟨p, q, WideElems.Trod_stays hl hr (of_decide_eq_true hb) h1 (fun x hx => hs x (by simp [hx])) (fun x hx => hp x (by simp [hx])),
          args_stay hl hc h2 (fun x hx => hs x (by simp [hx])) (fun x hx => hp x (by simp [hx])), rfl⟩
end
inductive KRep : List CK → List IV → List Value → Prop
  | nil : KRep [] [] []
  | int {k : IntKind} {n : Int} {ks : List CK} {is : List IV} {vs : List Value} : InR k n → KRep ks is vs → KRep (.int k :: ks) (.int k n :: is) (.int k n :: vs)
  | bool {b : Bool} {ks : List CK} {is : List IV} {vs : List Value} : KRep ks is vs → KRep (.bool :: ks) (.bool b :: is) (.bool b :: vs)
  | str {s : ByteArray} {ks : List CK} {is : List IV} {vs : List Value} : (bytesOf s).length ≤ 9223372036854775807 → KRep ks is vs → KRep (.str :: ks) (.str (bytesOf s) :: is) (.string s :: vs)
theorem KRep.app {ks ks' : List CK} {is is' : List IV} {vs vs' : List Value} (h : KRep ks is vs) (h' : KRep ks' is' vs') : KRep (ks ++ ks') (is ++ is') (vs ++ vs') := by
  induction h with
  | nil => exact h'
  | int h1 _ ih => exact .int h1 ih
  | bool _ ih => exact .bool ih
  | str h1 _ ih => exact .str h1 ih
theorem KRep.len {ks : List CK} {is : List IV} {vs : List Value} (h : KRep ks is vs) : is.length = ks.length ∧ vs.length = ks.length := by
  induction h with
  | nil => exact ⟨rfl, rfl⟩
  | int _ _ ih => simp [ih]
  | bool _ ih => simp [ih]
  | str _ _ ih => simp [ih]
theorem KRep.cons_int {k : IntKind} {ks : List CK} {is : List IV} {vs : List Value} (h : KRep (.int k :: ks) is vs) : ∃ n is' vs', is = .int k n :: is' ∧ vs = .int k n :: vs' ∧ InR k n ∧ KRep ks is' vs' := by
  cases h with
  | int h1 h2 => exact ⟨_, _, _, rfl, rfl, h1, h2⟩
theorem KRep.cons_bool {ks : List CK} {is : List IV} {vs : List Value} (h : KRep (.bool :: ks) is vs) : ∃ b is' vs', is = .bool b :: is' ∧ vs = .bool b :: vs' ∧ KRep ks is' vs' := by
  cases h with
  | bool h2 => exact ⟨_, _, _, rfl, rfl, h2⟩
theorem KRep.end {is : List IV} {vs : List Value} (h : KRep [] is vs) : is = [] ∧ vs = [] := by
  cases h; exact ⟨rfl, rfl⟩
theorem KRep.rep {w : World} {own : Nat → Prop} {ks : List CK} {is : List IV} {vs : List Value} (h : KRep ks is vs) : ∀ (j : Nat) c, is[j]? = some c → Rep w own c (vs.getD j undef) ∧ (vs.getD j undef).oneCell' = true := by
  have one : ∀ {c : IV} {V : Value} {is : List IV} {vs : List Value}, Rep w own c V → (∀ (j : Nat) c, is[j]? = some c → Rep w own c (vs.getD j undef) ∧ (vs.getD j undef).oneCell' = true) →
      ∀ (j : Nat) c', (c :: is)[j]? = some c' → Rep w own c' ((V :: vs).getD j undef) ∧ ((V :: vs).getD j undef).oneCell' = true := by
    intro c V is vs h1 h2 j c' hc
    cases j with
    | zero => simp only [List.getElem?_cons_zero, Option.some.injEq] at hc; subst hc; exact ⟨h1, h1.oneCell⟩
    | succ j => exact h2 j c' (by simpa using hc)
  induction h with
  | nil => intro j c hc; simp at hc
  | int h1 _ ih => exact one (.int h1) ih
  | bool _ ih => exact one .bool ih
  | str h1 _ ih => exact one (.str rfl h1) ih
section
variable {H : Type} {enc : TypeId × Value → H} {P : Program} {w : World} {base : Nat} {sp : Nat → Bool} {held : Bool}
theorem inR_wf {k : IntKind} {n : Int} (h : (Lit.int k n).wf = true) : InR k n := by
  simp only [Lit.wf, Bool.and_eq_true, decide_eq_true_eq] at h
  exact ⟨by have := h.1; omega, by have := h.2; omega⟩
mutual
theorem flat_open : ∀ (d : Nat) {t : TypeId} {ks : List CK} {n : Nat} {cs : List Value} {x : DataW H × List MemPlace}, flatK P false d t = some ks → DataW.trod enc P w base sp held n t cs = some x → (∃ is, KRep ks is cs) ∧ x.2 = []
  | 0, t, ks, n, cs, x, h, _ => by simp [flatK] at h
  | d + 1, t, ks, n, cs, x, h, hx => by
    unfold flatK at h
    split at h
    · rename_i k hu
      cases h
      obtain ⟨m, rfl, rfl, hw⟩ := DataW.trod_int hu hx
      exact ⟨⟨[.int k m], .int (inR_wf hw) .nil⟩, rfl⟩
    · rename_i hu
      cases h
      obtain ⟨b, rfl, rfl⟩ := DataW.trod_bool hu hx
      exact ⟨⟨[.bool b], .bool .nil⟩, rfl⟩
    · rename_i hu
      cases h
      obtain ⟨s, rfl, rfl, hs⟩ := DataW.trod_string hu hx
      exact ⟨⟨[.str (bytesOf s)], .str (by rw [← size_bytes]; exact hs) .nil⟩, rfl⟩
    · rename_i fs hu
      obtain ⟨xs, m, rfl, rfl, hlen, hsz, hf⟩ := DataW.trod_struct hu hx
      cases hF : flatF P false d 0 fs.toList with
      | none => rw [hF] at h; cases h
      | some ks' =>
        rw [hF] at h
        cases hb : Nat.beq (llen ks') (P.cellsOf t) with
        | false => simp only [hb, cond_false] at h; cases h
        | true =>
          simp only [hb, cond_true] at h
          cases h
          have hb' := nbeq hb
          obtain ⟨⟨is, his⟩, hp⟩ := flatF_open d (o := 0) (xs := xs) (cs := cs) (n := m) hF (by simp [hsz]) (fun i f hi => hf i f (by simpa using hi))
          refine ⟨⟨is, ?_⟩, ?_⟩
          · rw [List.drop_zero, List.take_of_length_le (by rw [hlen, ← hb', llen_eq]; exact Nat.le_refl _)] at his
            exact his
          · simp only [List.flatMap_eq_nil_iff]
            exact hp
    · cases h
    · cases h
    · cases h
theorem flatF_open : ∀ (d : Nat) {o : Nat} {fs : List Field} {ks : List CK} {n : Nat} {cs : List Value} {xs : List (DataW H × List MemPlace)}, flatF P false d o fs = some ks → xs.length = fs.length →
    (∀ (i : Nat) (f : Field), fs[i]? = some f → DataW.trod enc P w base sp held n f.type ((cs.drop f.offset).take (P.cellsOf f.type)) = xs[i]?) → (∃ is, KRep ks is ((cs.drop o).take ks.length)) ∧ ∀ x ∈ xs, x.2 = []
  | 0, o, fs, ks, n, cs, xs, h, _, _ => by simp [flatF] at h
  | d + 1, o, [], ks, n, cs, xs, h, hl, _ => by
    simp only [flatF] at h
    cases h
    have : xs = [] := by simpa using hl
    subst this
    exact ⟨⟨[], by simpa using KRep.nil⟩, fun x hx => by cases hx⟩
  | d + 1, o, f :: r, ks, n, cs, xs, h, hl, hf => by
    unfold flatF at h
    cases hK : flatK P false d f.type with
    | none => rw [hK] at h; cases h
    | some k1 =>
      rw [hK] at h
      cases hb : Nat.beq f.offset o with
      | false => simp only [hb, cond_false] at h; cases h
      | true =>
        simp only [hb, cond_true] at h
        cases hb2 : Nat.beq (llen k1) (P.cellsOf f.type) with
        | false => simp only [hb2, cond_false] at h; cases h
        | true =>
          simp only [hb2, cond_true] at h
          cases hF : flatF P false d (o + llen k1) r with
          | none => rw [hF] at h; cases h
          | some k2 =>
            rw [hF] at h
            simp only [omap, Option.some.injEq] at h
            subst h
            match xs, hl with
            | x :: xs, hl =>
              have h0 := hf 0 f rfl
              have e1 := nbeq hb
              have e2 := nbeq hb2
              obtain ⟨⟨i1, hi1⟩, hp1⟩ := flat_open d hK (by simpa using h0)
              obtain ⟨⟨i2, hi2⟩, hp2⟩ := flatF_open d (n := n) (cs := cs) (xs := xs) hF (by simpa using hl) (fun i f hi => by simpa using hf (i + 1) f (by simpa using hi))
              refine ⟨⟨i1 ++ i2, ?_⟩, ?_⟩
              · rw [lapp_eq, List.length_append]
                have : (cs.drop o).take (k1.length + k2.length) = ((cs.drop o).take k1.length) ++ ((cs.drop (o + k1.length)).take k2.length) := by
                  rw [List.take_add, List.drop_drop]
                rw [this]
                have h3 : KRep k1 i1 ((cs.drop o).take k1.length) := by
                  rw [← llen_eq, e2, ← e1]; exact hi1
                refine h3.app ?_
                rw [llen_eq] at hi2
                exact hi2
              · intro y hy
                rcases List.mem_cons.1 hy with rfl | hy
                · exact hp1
                · exact hp2 y hy
end
end
theorem bool_calls {P : Program} {G : Nat → Option (List AV)} {f : FuncId} {args : List AV} {pres : List Prop} {b : Bool} (h : SpecOK P G f args pres [.imm (.bool b)]) (hp : ∀ p, p ∈ pres → p) (w : World) (vals : Array Value) (hs : vals.size = args.length)
    (ha : ∀ (j : Nat) c, args[j]? = some c → ARep (zeroGh w (fun _ => False)) c (vals.getD j undef)) (hG : GOK G w (fun _ => False)) : Calls P f vals w fun e w' => e = .returned (.bool b) ∧ RowKit.Below w.heap.size w w' := by
  refine (h.calls hp w (fun _ => False) vals (fun _ h => h.elim) hs ha hG).mono ?_
  rintro e w' ⟨Vs, bs, rfl, hb, hr, _⟩
  refine ⟨?_, hb⟩
  cases hr with
  | one _ h1 _ h2 =>
    cases h2
    cases h1 with
    | imm h3 _ =>
      have := rep_bool h3
      subst this
      rfl
theorem post_of_below {H : Type} {enc : TypeId × Value → H} {P : Program} {f : Func} {s : ChangeSpec} {apart fresh handsOn again : Bool} {W W' : World} {args : Array Value} {v : Value} {ds gs : List (DataW H)} {before pa pv : List MemPlace}
    (hW : DataW.Whole enc P f.params.toList s.vars apart W args.toList ds gs before)
    (hres : ∀ (b : Nat) (sp : Nat → Bool) (hd : Bool), DataW.TrodAll enc P W' b sp hd f.resultTypes.toList (v.resultList f.resultTypes.size) (s.fn H (ds ++ gs)).results [])
    (hargs : ∀ sp : Nat → Bool, (∀ p ∈ before, sp p.block = true) → DataW.TrodAll enc P W' 0 sp true f.params.toList args.toList (s.fn H (ds ++ gs)).args pa)
    (hvars : ∀ sp : Nat → Bool, (∀ p ∈ before, sp p.block = true) → DataW.TrodVars enc P W' sp s.vars (s.fn H (ds ++ gs)).vars pv)
    (hps : before = pa ++ pv) (hb : Below W.heap.size W W')
    (hok : ∀ (j : Nat) (t : TypeId) (r : Value), f.resultTypes[j]? = some t → (v.resultList f.resultTypes.size)[j]? = some r → Value.okWide P W' .any 0 t r) :
    s.post enc P f apart fresh handsOn again W args v W' := by
  have hold : ∀ p ∈ before, (fun b => decide (b < W.heap.size)) p.block = true := fun p hp => by simpa using hW.lt p hp
  have hlt : ∀ p ∈ before, p.block < W.heap.size := fun p hp => hW.lt p hp
  refine ⟨ds, gs, before, [], pa, pv, hW, hres _ _ _, hargs _ hold, hvars _ hold, World.keptBut_mono (fun p hp => ⟨hp, ?_⟩) (hb.frame (· ∈ before)), fun _ => ?_⟩
  · rw [hps, List.mem_append] at hp
    exact Or.inr hp
  · obtain ⟨_, _, _, _, _, hz, hn⟩ := hW
    refine ⟨hok, _, _, ([] ++ pa) ++ pv, ⟨[] ++ pa, pv, trodAll_append (hargs _ (fun _ _ => rfl)) (hres _ _ _), hvars _ (fun _ _ => rfl), rfl, ?_, ?_⟩, ?_⟩
    · intro b off hp
      have hp' : MemPlace.cell b off ∈ before := by rw [hps]; simpa using hp
      rw [World.frozen?_of_block (hb.block _ (hlt _ hp'))]
      exact hz b off hp'
    · intro ha
      have := hn ha
      rw [hps] at this
      simpa using this
    · intro p hp _
      rw [hps]
      simpa using hp
section
variable {H : Type} {enc : TypeId × Value → H} {P : Program} {w : World}
theorem all_cons {base : Nat} {sp : Nat → Bool} {held : Bool} {t : TypeId} {ts : List TypeId} {vs : List Value} {ds : List (DataW H)} {ps : List MemPlace} (h : DataW.TrodAll enc P w base sp held (t :: ts) vs ds ps) :
    ∃ v vs' d ds' p q, vs = v :: vs' ∧ ds = d :: ds' ∧ DataW.Trod enc P w base sp held t v d p ∧ DataW.TrodAll enc P w base sp held ts vs' ds' q ∧ ps = p ++ q := by
  match vs, ds, h with
  | v :: vs', d :: ds', h =>
    obtain ⟨p, q, h1, h2, h3⟩ := h
    exact ⟨v, vs', d, ds', p, q, rfl, rfl, h1, h2, h3⟩
theorem all_nil {base : Nat} {sp : Nat → Bool} {held : Bool} {vs : List Value} {ds : List (DataW H)} {ps : List MemPlace} (h : DataW.TrodAll enc P w base sp held [] vs ds ps) : vs = [] ∧ ds = [] ∧ ps = [] := by
  match vs, ds, h with
  | [], [], h => exact ⟨rfl, rfl, h⟩
theorem KRep.arep {g : Gh} {ks : List CK} {is : List IV} {vs : List Value} (h : KRep ks is vs) : ARep g (.agg (lmap .imm is)) (.agg ⟨vs⟩) := by
  have hl := h.len
  have e : ∀ j, (⟨vs⟩ : Array Value).getD j undef = vs.getD j undef := fun j => by simp [Array.getD_eq_getD_getElem?, List.getD_eq_getElem?_getD]
  refine .agg (by rw [lmap_eq]; simp [hl]) (fun j c hc => ?_) (fun j hj => ?_)
  · rw [lmap_eq, List.getElem?_map] at hc
    cases hi : is[j]? with
    | none => rw [hi] at hc; cases hc
    | some i =>
      rw [hi] at hc
      cases hc
      rw [e]
      exact .imm (h.rep (w := g.w) (own := g.own) j i hi).1
  · have hj' : j < is.length := by simp at hj; omega
    rw [e]
    exact (h.rep (w := g.w) (own := g.own) j is[j] (List.getElem?_eq_getElem hj')).2
theorem row_post {f : Func} {s : ChangeSpec} {apart fresh handsOn again : Bool} {W W' : World} {args : Array Value} {ds : List (DataW H)} {before : List MemPlace} {tb : TypeId}
    (hW : DataW.Whole enc P f.params.toList s.vars apart W args.toList ds [] before) (hv : s.vars = []) (hl : laidOutB P = true) (hc : lall (fun t => bif P.readableRec t then decide (t < P.types.size) else false) f.params.toList = true)
    (hfn : s.fn H (ds ++ []) = { results := [.lit (.bool true)], args := ds }) (hr : f.resultTypes = #[tb]) (hu : P.underlying tb = some .bool) (hb : Below W.heap.size W W') : s.post enc P f apart fresh handsOn again W args (.bool true) W' := by
  have hW0 := hW
  obtain ⟨p, q, hA, hV, rfl, _, _⟩ := hW
  rw [hv] at hV
  obtain ⟨_, rfl⟩ := trodVars_none hV
  refine post_of_below (ds := ds) (gs := []) (pa := p) (pv := []) hW0 (fun b sp hd => ?_) (fun sp hsp => ?_) (fun sp hsp => ?_) rfl hb ?_
  · rw [hfn, hr]
    exact trodAll_mk1 (shut_bool hu true)
  · rw [hfn]
    exact args_stay hl hc hA (fun x hx => hb.same (hW0.lt x (by simp [hx]))) (fun x hx => hsp x (by simp [hx]))
  · rw [hfn, hv]
    rfl
  · intro j t r ht hr'
    rw [hr] at ht hr'
    cases j with
    | zero =>
      cases ht
      cases hr'
      exact okWide_bool_mk hu true
    | succ j => simp at ht
end
end Go.AE
namespace Go.AE
open Go.ChangeShapes Go.WideShapes Go.ChangeAt Go.RowKit
section
variable {H : Type} {enc : TypeId × Value → H} {P : Program} {w : World}
theorem open_slice {t e : TypeId} {ks : List CK} {b0 : Nat} {v : Value} {d : DataW H} {ps : List MemPlace} {r : Reach} {sp : Nat → Bool} {held : Bool} {base : Nat} (ht : P.underlying t = some (.slice e)) (hk : flatK P false 40 e = some ks) (hc : P.cellsOf e = ks.length) (hb : 1 ≤ P.bytesOf e)
    (hval : Value.okWide P w r b0 t v) (hd : DataW.Trod enc P w base sp held t v d ps) (hsz : ∀ el rs, d = .slice el rs → (el.length + rs.length) * P.bytesOf e ≤ reachBytes) :
    ∃ xs : List (List IV), (∀ x ∈ xs, ∃ vs, KRep ks x vs) ∧ xs.length ≤ 281474976710656 ∧ ∀ iv : IV, iv.isSl = true → iv.len = some xs.length → iv.esize = ks.length → (∀ i j c, iv.cellAt i j = some c → (xs[i]?).bind (·[j]?) = some c) → Rep w (fun _ => False) iv v := by
  obtain ⟨fuel, hf⟩ := hd
  rcases DataW.trod_slice ht hf with ⟨h0, _⟩ | ⟨a, len, cap, elems, rest, n, _, hcs, hx, _, hl, hm, hlen, hel, _⟩
  · refine ⟨[], ⟨(fun x hx => absurd hx (by simp)), by simp, fun iv h1 h2 _ _ => ?_⟩⟩
    obtain ⟨a', l', c', rfl⟩ := okWide_slice ht hval
    simp only [Value.cells, List.cons.injEq, and_true] at h0
    rw [h0]
    exact .nilSlice h1 h2
  · obtain ⟨a', l', c', rfl⟩ := okWide_slice ht hval
    simp only [Value.cells, List.cons.injEq, and_true] at hcs
    simp only [Value.slice.injEq] at hcs
    obtain ⟨rfl, rfl, rfl⟩ := hcs
    have hv : l' ≤ c' ∧ (c' : Int) ≤ IntKind.i64.max ∧ w.has P r b0 a e c' := by
      simpa [Value.okWide, Cell.okWide, Cell.ok, ht] using hval
    obtain ⟨_, hcap, _, _, row, cells, hsh, _⟩ := hv
    have hblk : a.block < w.heap.size := by
      unfold World.shape? at hsh
      cases hq : w.heap[a.block]? with
      | none => rw [hq] at hsh; cases hsh
      | some o => exact (Array.getElem?_eq_some_iff.1 hq).1
    have each : ∀ i (hi : i < elems.length), ∃ cs is, w.cells? base (a.add (i * P.cellsOf e)) (P.cellsOf e) = some cs ∧ KRep ks is cs := by
      intro i hi
      have h1 := hel i (by omega)
      rw [List.getElem?_eq_getElem hi, Option.bind_eq_some_iff] at h1
      obtain ⟨cs, hcs, hy⟩ := h1
      obtain ⟨⟨is, his⟩, _⟩ := flat_open 40 hk hy
      exact ⟨cs, is, hcs, his⟩
    have hcap' : c' ≤ 9223372036854775807 := by
      have h9 : IntKind.i64.max = 9223372036854775807 := rfl
      rw [h9] at hcap; omega
    have hch : ∃ F : Nat → List Value × List IV, ∀ i, i < elems.length → w.cells? base (a.add (i * P.cellsOf e)) (P.cellsOf e) = some (F i).1 ∧ KRep ks (F i).2 (F i).1 := by
      refine ⟨fun i => if hi : i < elems.length then ((each i hi).choose, (each i hi).choose_spec.choose) else ([], []), fun i hi => ?_⟩
      simp only [dif_pos hi]
      exact (each i hi).choose_spec.choose_spec
    obtain ⟨F, hF⟩ := hch
    have hlen2 : l' ≤ 281474976710656 := by
      have hxs := hsz (elems.map (·.1)) (rest.map (·.1)) (congrArg Prod.fst hx)
      simp only [List.length_map] at hxs
      have : elems.length + rest.length ≤ (elems.length + rest.length) * P.bytesOf e := Nat.le_mul_of_pos_right _ hb
      unfold reachBytes at hxs
      omega
    refine ⟨(List.range l').map fun i => (F i).2, fun x hx => ?_, by simpa using hlen2, fun iv h1 h2 h3 h4 => ?_⟩
    · obtain ⟨i, hi, rfl⟩ := List.mem_map.1 hx
      have := List.mem_range.1 hi
      exact ⟨_, (hF i (by omega)).2⟩
    · have key : ∀ i j c, iv.cellAt i j = some c → i < l' ∧ (F i).2[j]? = some c := by
        intro i j c hcc
        have h5 := h4 i j c hcc
        rw [List.getElem?_map] at h5
        cases hi : (List.range l')[i]? with
        | none => rw [hi] at h5; cases h5
        | some i' =>
          rw [hi] at h5
          obtain ⟨h6, h7⟩ := List.getElem?_eq_some_iff.1 hi
          simp only [List.length_range] at h6
          simp only [List.getElem_range] at h7
          subst h7
          exact ⟨h6, by simpa using h5⟩
      refine .slice (fun i j => (F i).1.getD j undef) h1 (by simpa using h2) hl hcap' hlen2 (fun h => h) hblk (fun i j c hcc => ?_) (fun i j c hcc => ?_)
      · obtain ⟨hi, hj⟩ := key i j c hcc
        obtain ⟨hc1, hk1⟩ := hF i (by omega)
        obtain ⟨_, hn1, hcell⟩ := World.cells?_some hc1
        have hj' : j < ks.length := by rw [← hk1.len.1]; exact (List.getElem?_eq_some_iff.1 hj).1
        have := hcell j (by rw [hc]; exact hj')
        rw [h3, ← hc]
        have e1 : (a.add (i * P.cellsOf e)).add j = a.add (i * P.cellsOf e + j) := by
          unfold Addr.add; split <;> split <;> simp_all <;> omega
        rw [e1] at this
        rw [this, List.getElem?_eq_getElem (by rw [hn1, hc]; exact hj')]
        simp [List.getD_eq_getElem?_getD, List.getElem?_eq_getElem (show j < (F i).1.length by rw [hn1, hc]; exact hj')]
      · obtain ⟨hi, hj⟩ := key i j c hcc
        obtain ⟨hc1, hk1⟩ := hF i (by omega)
        exact (hk1.rep j c hj).1
theorem open_byteslice {t e : TypeId} {b0 : Nat} {v : Value} {d : DataW H} {ps : List MemPlace} {r : Reach} {sp : Nat → Bool} {held : Bool} {base : Nat} (ht : P.underlying t = some (.slice e)) (hk : flatK P false 40 e = some [.int .u8]) (hc : P.cellsOf e = 1) (hb : 1 ≤ P.bytesOf e)
    (hval : Value.okWide P w r b0 t v) (hd : DataW.Trod enc P w base sp held t v d ps) (hsz : ∀ el rs, d = .slice el rs → (el.length + rs.length) * P.bytesOf e ≤ reachBytes) :
    ∃ l : List UInt8, l.length ≤ 281474976710656 ∧ Rep w (fun _ => False) (.bytes l) v := by
  obtain ⟨xs, h1, h2, h3⟩ := open_slice ht hk (by simpa using hc) hb hval hd hsz
  have key : ∀ xs : List (List IV), (∀ x ∈ xs, ∃ vs, KRep [.int .u8] x vs) → ∃ l : List UInt8, xs = l.map fun b => [.int .u8 (b.toNat : Int)] := by
    intro xs
    induction xs with
    | nil => exact fun _ => ⟨[], rfl⟩
    | cons x xs ih =>
      intro h
      obtain ⟨l, hl⟩ := ih fun y hy => h y (by simp [hy])
      obtain ⟨vs, hx⟩ := h x (by simp)
      obtain ⟨n, is, vs', rfl, rfl, hr, hx⟩ := hx.cons_int
      obtain ⟨rfl, rfl⟩ := hx.end
      have hr' : (0 : Int) ≤ n ∧ n ≤ 255 := hr
      refine ⟨UInt8.ofNat n.toNat :: l, ?_⟩
      rw [hl, List.map_cons]
      have : ((UInt8.ofNat n.toNat).toNat : Int) = n := by
        have : (UInt8.ofNat n.toNat).toNat = n.toNat % 256 := by simp
        omega
      rw [this]
  obtain ⟨l, rfl⟩ := key xs h1
  refine ⟨l, by simpa using h2, h3 _ rfl (by simp [IV.len]) rfl (fun i j c hcc => ?_)⟩
  cases j with
  | zero =>
    simp only [IV.cellAt] at hcc
    rw [List.getElem?_map]
    cases hi : l[i]? with
    | none => rw [hi] at hcc; cases hcc
    | some b => rw [hi] at hcc; simpa using hcc
  | succ j => simp [IV.cellAt] at hcc
theorem rep_at {W : World} {v : Value} {c : IV} {vs : List Value} {j : Nat} (hr : Rep W (fun _ => False) c v) (h : vs[j]? = some v) : ARep (zeroGh W (fun _ => False)) (.imm c) ((⟨vs⟩ : Array Value).getD j undef) := by
  have e : (⟨vs⟩ : Array Value).getD j undef = v := by simp [Array.getD_eq_getD_getElem?, h]
  rw [e]
  exact .imm (Rep.mono (w := W) (w' := W) (Nat.le_refl _) (fun b _ h => zero_own.1 h) (fun _ _ _ => rfl) hr)
end
end Go.AE
namespace Go.AE
open Go.ChangeShapes Go.WideShapes Go.ChangeAt Go.RowKit
inductive MK where
  | ck (c : CK)
  | sl (ks : List CK)
mutual
def mixK (P : Program) : Nat → TypeId → Option (List (TypeId × MK))
  | 0, _ => none
  | d + 1, t => match P.underlying t with
    | some (.int k) => some [(t, .ck (.int k))]
    | some .bool => some [(t, .ck .bool)]
    | some .string => some [(t, .ck .str)]
    | some (.slice e) => match flatK P false 40 e with
      | some ks => bif Nat.beq (P.cellsOf e) (llen ks) then (bif Nat.ble 1 (P.bytesOf e) then some [(t, .sl ks)] else none) else none
      | none => none
    | some (.struct fs) => match mixF P d 0 fs.toList with
      | some ks => bif Nat.beq (llen ks) (P.cellsOf t) then some ks else none
      | none => none
    | _ => none
def mixF (P : Program) : Nat → Nat → List Field → Option (List (TypeId × MK))
  | 0, _, _ => none
  | _ + 1, _, [] => some []
  | d + 1, o, f :: r => match mixK P d f.type with
    | some ks => bif Nat.beq f.offset o then (bif Nat.beq (llen ks) (P.cellsOf f.type) then omap (lapp ks) (mixF P d (o + llen ks) r) else none) else none
    | none => none
end
def MOk (w : World) : MK → Value → Prop
  | .ck (.int k), v => ∃ n, v = .int k n ∧ InR k n
  | .ck .bool, v => ∃ b, v = .bool b
  | .ck .str, v => ∃ s, v = .string s ∧ (bytesOf s).length ≤ 9223372036854775807
  | .ck .any, _ => False
  | .sl ks, v => ∃ xs : List (List IV), (∀ x ∈ xs, ∃ vs, KRep ks x vs) ∧ xs.length ≤ 281474976710656 ∧ ∀ iv : IV, iv.isSl = true → iv.len = some xs.length → iv.esize = ks.length → (∀ i j c, iv.cellAt i j = some c → (xs[i]?).bind (·[j]?) = some c) → Rep w (fun _ => False) iv v
def mall (w : World) : List (TypeId × MK) → List Value → Prop
  | [], [] => True
  | k :: ks, v :: vs => MOk w k.2 v ∧ mall w ks vs
  | _, _ => False
theorem mall_cons {w : World} {k : TypeId × MK} {ks : List (TypeId × MK)} {vs : List Value} (h : mall w (k :: ks) vs) : ∃ v vs', vs = v :: vs' ∧ MOk w k.2 v ∧ mall w ks vs' := by
  match vs, h with
  | v :: vs', h => exact ⟨v, vs', rfl, h.1, h.2⟩
theorem mall_nil {w : World} {vs : List Value} (h : mall w [] vs) : vs = [] := by
  match vs, h with
  | [], _ => rfl
theorem mall_app {w : World} : ∀ {ks ks' : List (TypeId × MK)} {vs vs' : List Value}, mall w ks vs → mall w ks' vs' → mall w (ks ++ ks') (vs ++ vs')
  | [], _, [], _, _, h' => h'
  | _ :: _, _, _ :: _, _, h, h' => ⟨h.1, mall_app h.2 h'⟩
  | [], _, _ :: _, _, h, _ => h.elim
  | _ :: _, _, [], _, h, _ => h.elim
section
variable {H : Type} {enc : TypeId × Value → H} {P : Program} {w : World} {base b0 : Nat} {sp : Nat → Bool} {held : Bool} {r : Reach}
theorem all_weights_field {fs : List Field} {xs : List (DataW H × List MemPlace)} (h : (DataW.weightsEach P (fs.map (·.type)) (xs.map (·.1))).all (· ≤ reachBytes) = true) {i : Nat} {f : Field} {x : DataW H × List MemPlace} (hf : fs[i]? = some f) (hx : xs[i]? = some x) :
    (x.1.weights P f.type).all (· ≤ reachBytes) = true := by
  rw [List.all_eq_true] at h ⊢
  exact fun n hn => h n (DataW.weights_mem_each (j := i) (t := f.type) (d := x.1) (by simp [List.getElem?_map, hf]) (by simp [List.getElem?_map, hx]) n hn)
mutual
theorem mix_open : ∀ (d : Nat) {t : TypeId} {ks : List (TypeId × MK)} {n : Nat} {cs : List Value} {x : DataW H × List MemPlace}, mixK P d t = some ks → DataW.trod enc P w base sp held n t cs = some x → (x.1.weights P t).all (· ≤ reachBytes) = true →
    (∀ (j : Nat) v, cs[j]? = some v → ∃ u, (ks.map (·.1))[j]? = some u ∧ Cell.okWide P w r b0 u v) → mall w ks cs
  | 0, t, ks, n, cs, x, h, _, _, _ => by simp [mixK] at h
  | d + 1, t, ks, n, cs, x, h, hx, hz, hw => by
    unfold mixK at h
    split at h
    · rename_i k hu
      cases h
      obtain ⟨m, rfl, rfl, hm⟩ := DataW.trod_int hu hx
      exact ⟨⟨m, rfl, inR_wf hm⟩, trivial⟩
    · rename_i hu
      cases h
      obtain ⟨b, rfl, rfl⟩ := DataW.trod_bool hu hx
      exact ⟨⟨b, rfl⟩, trivial⟩
    · rename_i hu
      cases h
      obtain ⟨s, rfl, rfl, hs⟩ := DataW.trod_string hu hx
      exact ⟨⟨s, rfl, by rw [← size_bytes]; exact hs⟩, trivial⟩
    · rename_i e hu
      cases hk : flatK P false 40 e with
      | none => rw [hk] at h; cases h
      | some k1 =>
        rw [hk] at h
        cases hb : Nat.beq (P.cellsOf e) (llen k1) with
        | false => simp only [hb, cond_false] at h; cases h
        | true =>
          simp only [hb, cond_true] at h
          cases hb2 : Nat.ble 1 (P.bytesOf e) with
          | false => simp only [hb2, cond_false] at h; cases h
          | true =>
            simp only [hb2, cond_true] at h
            cases h
            have e1 : P.cellsOf e = k1.length := by rw [nbeq hb, llen_eq]
            have e2 : 1 ≤ P.bytesOf e := Nat.le_of_ble_eq_true hb2
            have hone : ∃ v, cs = [v] ∧ v.cells.toList = [v] := by
              rcases DataW.trod_slice hu hx with ⟨h0, _⟩ | ⟨a, len, cap, _, _, _, _, h0, _⟩
              · exact ⟨_, h0, rfl⟩
              · exact ⟨_, h0, rfl⟩
            obtain ⟨v, rfl, hv⟩ := hone
            obtain ⟨u, hu1, hu2⟩ := hw 0 v rfl
            simp only [List.map_cons, List.map_nil, List.getElem?_cons_zero, Option.some.injEq] at hu1
            subst hu1
            have hval : Value.okWide P w r b0 t v := by
              unfold Value.okWide
              rw [hu]
              exact hu2
            refine ⟨open_slice (ks := k1) hu hk e1 e2 hval (d := x.1) (ps := x.2) ⟨n, by rw [hv]; exact hx⟩ (fun el rs hd => ?_), trivial⟩
            rw [hd, List.all_eq_true] at hz
            have := hz ((el.length + rs.length) * P.bytesOf e) (by simp [DataW.weights, hu])
            simpa using this
    · rename_i fs hu
      obtain ⟨xs, m, rfl, rfl, hlen, hsz, hf⟩ := DataW.trod_struct hu hx
      cases hF : mixF P d 0 fs.toList with
      | none => rw [hF] at h; cases h
      | some ks' =>
        rw [hF] at h
        cases hb : Nat.beq (llen ks') (P.cellsOf t) with
        | false => simp only [hb, cond_false] at h; cases h
        | true =>
          simp only [hb, cond_true] at h
          cases h
          have hb' := nbeq hb
          have hz' : (DataW.weightsEach P (fs.toList.map (·.type)) (xs.map (·.1))).all (· ≤ reachBytes) = true := by
            have := hz
            simpa [DataW.weights, hu] using this
          have := mixF_open d (o := 0) (xs := xs) (cs := cs) (n := m) hF (by simp [hsz]) (fun i f hi => hf i f (by simpa using hi)) hz' (by simpa using hw)
          rw [List.drop_zero, List.take_of_length_le (by rw [hlen, ← hb', llen_eq]; exact Nat.le_refl _)] at this
          exact this
    · cases h
theorem mixF_open : ∀ (d : Nat) {o : Nat} {fs : List Field} {ks : List (TypeId × MK)} {n : Nat} {cs : List Value} {xs : List (DataW H × List MemPlace)}, mixF P d o fs = some ks → xs.length = fs.length →
    (∀ (i : Nat) (f : Field), fs[i]? = some f → DataW.trod enc P w base sp held n f.type ((cs.drop f.offset).take (P.cellsOf f.type)) = xs[i]?) → (DataW.weightsEach P (fs.map (·.type)) (xs.map (·.1))).all (· ≤ reachBytes) = true →
    (∀ (j : Nat) v, (cs.drop o)[j]? = some v → ∃ u, (ks.map (·.1))[j]? = some u ∧ Cell.okWide P w r b0 u v) → mall w ks ((cs.drop o).take ks.length)
  | 0, o, fs, ks, n, cs, xs, h, _, _, _, _ => by simp [mixF] at h
  | d + 1, o, [], ks, n, cs, xs, h, hl, _, _, _ => by
    simp only [mixF] at h
    cases h
    simp [mall]
  | d + 1, o, f :: q, ks, n, cs, xs, h, hl, hf, hz, hw => by
    unfold mixF at h
    cases hK : mixK P d f.type with
    | none => rw [hK] at h; cases h
    | some k1 =>
      rw [hK] at h
      cases hb : Nat.beq f.offset o with
      | false => simp only [hb, cond_false] at h; cases h
      | true =>
        simp only [hb, cond_true] at h
        cases hb2 : Nat.beq (llen k1) (P.cellsOf f.type) with
        | false => simp only [hb2, cond_false] at h; cases h
        | true =>
          simp only [hb2, cond_true] at h
          cases hF : mixF P d (o + llen k1) q with
          | none => rw [hF] at h; cases h
          | some k2 =>
            rw [hF] at h
            simp only [omap, Option.some.injEq] at h
            subst h
            match xs, hl with
            | x :: xs, hl =>
              have h0 := hf 0 f rfl
              have e1 := nbeq hb
              have e2 := nbeq hb2
              have e3 : llen k1 = k1.length := llen_eq k1
              rw [lapp_eq] at hw ⊢
              have w1 : ∀ (j : Nat) v, ((cs.drop f.offset).take (P.cellsOf f.type))[j]? = some v → ∃ u, (k1.map (·.1))[j]? = some u ∧ Cell.okWide P w r b0 u v := by
                intro j v hv
                rw [List.getElem?_take] at hv
                split at hv
                · rename_i hj
                  obtain ⟨u, hu1, hu2⟩ := hw j v (by rw [← e1]; exact hv)
                  refine ⟨u, ?_, hu2⟩
                  rw [List.map_append, List.getElem?_append_left (by simp; omega)] at hu1
                  exact hu1
                · cases hv
              have w2 : ∀ (j : Nat) v, (cs.drop (o + llen k1))[j]? = some v → ∃ u, (k2.map (·.1))[j]? = some u ∧ Cell.okWide P w r b0 u v := by
                intro j v hv
                obtain ⟨u, hu1, hu2⟩ := hw (k1.length + j) v (by rw [List.getElem?_drop] at hv ⊢; rw [← hv, e3]; congr 1; omega)
                refine ⟨u, ?_, hu2⟩
                rw [List.map_append, List.getElem?_append_right (by simp)] at hu1
                simpa using hu1
              have i1 := mix_open d hK (x := x) (by simpa using h0) (all_weights_field hz (i := 0) rfl rfl) w1
              have i2 := mixF_open d (n := n) (cs := cs) (xs := xs) hF (by simpa using hl) (fun i f hi => by simpa using hf (i + 1) f (by simpa using hi))
                (by
                  rw [List.all_eq_true] at hz ⊢
                  intro m hm
                  exact hz m (by simp only [List.map_cons, DataW.weightsEach, List.mem_append]; exact Or.inr hm)) w2
              rw [List.length_append]
              have : (cs.drop o).take (k1.length + k2.length) = ((cs.drop o).take k1.length) ++ ((cs.drop (o + k1.length)).take k2.length) := by
                rw [List.take_add, List.drop_drop]
              rw [this]
              have h3 : mall w k1 ((cs.drop o).take k1.length) := by
                rw [← llen_eq, e2, ← e1]; exact i1
              refine mall_app h3 ?_
              rw [llen_eq] at i2
              exact i2
end
theorem open_mix {t : TypeId} {fs : Array Field} {ks : List (TypeId × MK)} {v : Value} {d : DataW H} {ps : List MemPlace} (hu : P.underlying t = some (.struct fs)) (hk : mixK P 40 t = some ks) (hc : P.cellTypes P.depth t = some (ks.map (·.1))) (hn : P.cellsOf t = ks.length)
    (hval : Value.okWide P w r b0 t v) (hd : DataW.Trod enc P w base sp held t v d ps) (hz : (d.weights P t).all (· ≤ reachBytes) = true) : ∃ l, v = .agg ⟨l⟩ ∧ mall w ks l := by
  have hv := hval
  unfold Value.okWide at hv
  rw [hu] at hv
  obtain ⟨⟨l⟩, rfl, hs, ts, h1, h2, h3⟩ := hv
  obtain ⟨fuel, hf⟩ := hd
  rw [hc] at h1
  cases h1
  refine ⟨l, rfl, mix_open (r := r) (b0 := b0) 40 hk hf hz (fun j v hj => ?_)⟩
  have hj' : j < l.length := (List.getElem?_eq_some_iff.1 hj).1
  have hl : l.length = ks.length := by simpa [hn] using hs
  obtain ⟨u, hu1, hu2⟩ := h3 j v (by simpa using hj)
  refine ⟨u, ?_, hu2⟩
  rw [Nat.mod_eq_of_lt (by simp; omega)] at hu1
  exact hu1
theorem weights_arg {ts : List TypeId} {ds : List (DataW H)} (h : (DataW.weightsEach P ts ds).all (· ≤ reachBytes) = true) {j : Nat} {t : TypeId} {d : DataW H} (ht : ts[j]? = some t) (hd : ds[j]? = some d) : (d.weights P t).all (· ≤ reachBytes) = true := by
  rw [List.all_eq_true] at h ⊢
  exact fun n hn => h n (DataW.weights_mem_each ht hd n hn)
end
def MIs (w : World) : List IV → List Value → Prop
  | [], [] => True
  | i :: is, v :: vs => Rep w (fun _ => False) i v ∧ MIs w is vs
  | _, _ => False
theorem MIs.get {w : World} : ∀ {is : List IV} {vs : List Value}, MIs w is vs → is.length = vs.length ∧ ∀ (j : Nat) i, is[j]? = some i → Rep w (fun _ => False) i (vs.getD j undef)
  | [], [], _ => ⟨rfl, fun j i h => by simp at h⟩
  | i :: is, v :: vs, h => ⟨by simp [(MIs.get h.2).1], fun j c hj => by
      cases j with
      | zero => simp only [List.getElem?_cons_zero, Option.some.injEq] at hj; subst hj; exact h.1
      | succ j => exact (MIs.get h.2).2 j c (by simpa using hj)⟩
  | [], _ :: _, h => h.elim
  | _ :: _, [], h => h.elim
theorem MIs.arep {w : World} {is : List IV} {vs : List Value} (h : MIs w is vs) : ARep (zeroGh w (fun _ => False)) (.agg (lmap .imm is)) (.agg ⟨vs⟩) := by
  obtain ⟨hl, hr⟩ := h.get
  have e : ∀ j, (⟨vs⟩ : Array Value).getD j undef = vs.getD j undef := fun j => by simp [Array.getD_eq_getD_getElem?, List.getD_eq_getElem?_getD]
  refine .agg (by rw [lmap_eq]; simp [hl]) (fun j c hc => ?_) (fun j hj => ?_)
  · rw [lmap_eq, List.getElem?_map] at hc
    cases hi : is[j]? with
    | none => rw [hi] at hc; cases hc
    | some i =>
      rw [hi] at hc
      cases hc
      rw [e]
      exact .imm (Rep.mono (w := w) (w' := w) (Nat.le_refl _) (fun b _ h => zero_own.1 h) (fun _ _ _ => rfl) (hr j i hi))
  · have hj' : j < is.length := by simp at hj; omega
    rw [e]
    exact (hr j is[j] (List.getElem?_eq_getElem hj')).oneCell
theorem MIs.cell {w : World} {is : List IV} {vs : List Value} (h : MIs w is vs) {v : Value} (hv : v = .agg ⟨vs⟩) {arr : Array Value} {j : Nat} (ha : arr.getD j undef = v) : ARep (zeroGh w (fun _ => False)) (.agg (lmap .imm is)) (arr.getD j undef) := by
  rw [ha, hv]; exact h.arep
theorem MOk.bytes {w : World} {v : Value} (h : MOk w (.sl [.int .u8]) v) : ∃ l : List UInt8, l.length ≤ 281474976710656 ∧ Rep w (fun _ => False) (.bytes l) v := by
  obtain ⟨xs, h1, h2, h3⟩ := h
  have key : ∀ xs : List (List IV), (∀ x ∈ xs, ∃ vs, KRep [.int .u8] x vs) → ∃ l : List UInt8, xs = l.map fun b => [.int .u8 (b.toNat : Int)] := by
    intro xs
    induction xs with
    | nil => exact fun _ => ⟨[], rfl⟩
    | cons x xs ih =>
      intro h
      obtain ⟨l, hl⟩ := ih fun y hy => h y (by simp [hy])
      obtain ⟨vs, hx⟩ := h x (by simp)
      obtain ⟨n, is, vs', rfl, rfl, hr, hx⟩ := hx.cons_int
      obtain ⟨rfl, rfl⟩ := hx.end
      have hr' : (0 : Int) ≤ n ∧ n ≤ 255 := hr
      refine ⟨UInt8.ofNat n.toNat :: l, ?_⟩
      rw [hl, List.map_cons]
      have : ((UInt8.ofNat n.toNat).toNat : Int) = n := by
        have : (UInt8.ofNat n.toNat).toNat = n.toNat % 256 := by simp
        omega
      rw [this]
  obtain ⟨l, rfl⟩ := key xs h1
  refine ⟨l, by simpa using h2, h3 _ rfl (by simp [IV.len]) rfl (fun i j c hcc => ?_)⟩
  cases j with
  | zero =>
    simp only [IV.cellAt] at hcc
    rw [List.getElem?_map]
    cases hi : l[i]? with
    | none => rw [hi] at hcc; cases hcc
    | some b => rw [hi] at hcc; simpa using hcc
  | succ j => simp [IV.cellAt] at hcc
theorem MOk.ints {w : World} {v : Value} {k : IntKind} (h : MOk w (.sl [.int k]) v) : ∃ l : List Int, (∀ n ∈ l, InR k n) ∧ l.length ≤ 281474976710656 ∧ Rep w (fun _ => False) (.ints k l) v := by
  obtain ⟨xs, h1, h2, h3⟩ := h
  have key : ∀ xs : List (List IV), (∀ x ∈ xs, ∃ vs, KRep [.int k] x vs) → ∃ l : List Int, (∀ n ∈ l, InR k n) ∧ xs = l.map fun b => [.int k b] := by
    intro xs
    induction xs with
    | nil => exact fun _ => ⟨[], fun n h => by simp at h, rfl⟩
    | cons x xs ih =>
      intro h
      obtain ⟨l, hl1, hl⟩ := ih fun y hy => h y (by simp [hy])
      obtain ⟨vs, hx⟩ := h x (by simp)
      obtain ⟨n, is, vs', rfl, rfl, hr, hx⟩ := hx.cons_int
      obtain ⟨rfl, rfl⟩ := hx.end
      refine ⟨n :: l, fun m hm => ?_, by rw [hl, List.map_cons]⟩
      rcases List.mem_cons.1 hm with rfl | hm
      · exact hr
      · exact hl1 m hm
  obtain ⟨l, hl, rfl⟩ := key xs h1
  refine ⟨l, hl, by simpa using h2, h3 _ rfl (by simp [IV.len]) rfl (fun i j c hcc => ?_)⟩
  cases j with
  | zero =>
    simp only [IV.cellAt] at hcc
    rw [List.getElem?_map]
    cases hi : l[i]? with
    | none => rw [hi] at hcc; cases hcc
    | some b => rw [hi] at hcc; simpa using hcc
  | succ j => simp [IV.cellAt] at hcc
theorem MOk.bools {w : World} {v : Value} (h : MOk w (.sl [.bool]) v) : ∃ l : List Bool, l.length ≤ 281474976710656 ∧ Rep w (fun _ => False) (.bools l) v := by
  obtain ⟨xs, h1, h2, h3⟩ := h
  have key : ∀ xs : List (List IV), (∀ x ∈ xs, ∃ vs, KRep [.bool] x vs) → ∃ l : List Bool, xs = l.map fun b => [.bool b] := by
    intro xs
    induction xs with
    | nil => exact fun _ => ⟨[], rfl⟩
    | cons x xs ih =>
      intro h
      obtain ⟨l, hl⟩ := ih fun y hy => h y (by simp [hy])
      obtain ⟨vs, hx⟩ := h x (by simp)
      obtain ⟨n, is, vs', rfl, rfl, hx2⟩ := hx.cons_bool
      obtain ⟨rfl, rfl⟩ := hx2.end
      exact ⟨n :: l, by rw [hl, List.map_cons]⟩
  obtain ⟨l, rfl⟩ := key xs h1
  refine ⟨l, by simpa using h2, h3 _ rfl (by simp [IV.len]) rfl (fun i j c hcc => ?_)⟩
  cases j with
  | zero =>
    simp only [IV.cellAt] at hcc
    rw [List.getElem?_map]
    cases hi : l[i]? with
    | none => rw [hi] at hcc; cases hcc
    | some b => rw [hi] at hcc; simpa using hcc
  | succ j => simp [IV.cellAt] at hcc
theorem MOk.structs {w : World} {v : Value} {ks : List CK} (hn : Nat.ble 1 ks.length = true) (h : MOk w (.sl ks) v) : ∃ xs : List (List IV), (∀ x ∈ xs, ∃ vs, KRep ks x vs) ∧ xs.length ≤ 281474976710656 ∧ Rep w (fun _ => False) (.sl ks.length xs) v := by
  obtain ⟨xs, h1, h2, h3⟩ := h
  refine ⟨xs, h1, h2, h3 _ ?_ rfl rfl (fun i j c hcc => hcc)⟩
  show (bif Nat.ble 1 ks.length then xs.all (fun x => Nat.beq x.length ks.length) else false) = true
  rw [hn, cond_true, List.all_eq_true]
  intro x hx
  obtain ⟨vs, hv⟩ := h1 x hx
  rw [hv.len.1]
  exact Nat.beq_refl _
theorem MOk.int {w : World} {v : Value} {k : IntKind} (h : MOk w (.ck (.int k)) v) : ∃ n, InR k n ∧ Rep w (fun _ => False) (.int k n) v := by
  obtain ⟨n, rfl, hr⟩ := h
  exact ⟨n, hr, .int hr⟩
theorem MOk.bool {w : World} {v : Value} (h : MOk w (.ck .bool) v) : ∃ b, Rep w (fun _ => False) (.bool b) v := by
  obtain ⟨b, rfl⟩ := h
  exact ⟨b, .bool⟩
theorem MOk.str {w : World} {v : Value} (h : MOk w (.ck .str) v) : ∃ l : List UInt8, l.length ≤ 9223372036854775807 ∧ Rep w (fun _ => False) (.str l) v := by
  obtain ⟨s, rfl, hr⟩ := h
  exact ⟨_, hr, .str rfl hr⟩
end Go.AE
namespace Z19
open Go Go.AE Go.Proofs D6
theorem et : Tryd.prog.globalNamed "errors.errorType" = some 1 := by kernel_rfl
theorem fl : Tryd.prog.globalNamed "zoneinfo/indicators.flags" = some 0 := by kernel_rfl
theorem rt : (Tryd.prog.cutTypes.find? (·.1 == "internal/reflectlite.rtype")).map (·.2) = some 130 := by kernel_rfl
theorem tsize : Tryd.prog.types.size = 171 := by kernel_rfl
theorem oneRow : ((List.range 171).filter fun t => Tryd.prog.rowNamed t [101, 114, 114, 111, 114]) = [94] := by kernel_rfl
theorem var_of_laid {W : World} (h : laidMetH Tryd.prog YtmmioohcgdnpdaaDoor.Rows.blockMatchesReferenceRow.laid W) : W.var? Tryd.prog "errors.errorType" = some #[errT] := by
  have h' : laidMet Tryd.prog [("zoneinfo/indicators.flags", YtmmioohcgdnpdaaDoor.Rows.laid_zoneinfo_indicators_flags)] W ∧ handlesMet Tryd.prog [("errors.errorType", YtmmioohcgdnpdaaDoor.Rows.laid_errors_errorType)] W := h
  obtain ⟨name, u, ty, e1, e2, e3, e4, e5⟩ := h'.2 _ (List.mem_singleton.2 rfl)
  have en : name = [101, 114, 114, 111, 114] := (Option.some.inj e1).symm
  subst en
  obtain rfl := Option.some.inj (rt.symm.trans e2)
  have hm : ty ∈ (List.range 171).filter fun t => Tryd.prog.rowNamed t [101, 114, 114, 111, 114] := List.mem_filter.2 ⟨List.mem_range.2 (by rw [← tsize]; exact e3), e4⟩
  rw [oneRow] at hm
  obtain rfl := List.mem_singleton.1 hm
  have hh : typeHandle Tryd.prog 94 = .pointer (some ⟨2, 94, none⟩) := by kernel_rfl
  rw [hh] at e5
  exact e5
theorem list_two {α : Type} {l : List α} (h : l.length = 2) : ∃ a b, l = [a, b] := by
  match l, h with
  | [a, b], _ => exact ⟨a, b, rfl⟩
theorem flags_of_laid {W : World} (h : laidMetH Tryd.prog YtmmioohcgdnpdaaDoor.Rows.blockMatchesReferenceRow.laid W) : W.var? Tryd.prog "zoneinfo/indicators.flags" = some #[.bool false, .bool true] := by
  have h' : laidMet Tryd.prog [("zoneinfo/indicators.flags", YtmmioohcgdnpdaaDoor.Rows.laid_zoneinfo_indicators_flags)] W ∧ handlesMet Tryd.prog [("errors.errorType", YtmmioohcgdnpdaaDoor.Rows.laid_errors_errorType)] W := h
  obtain ⟨ps, ⟨g, t, cs, fuel, p, q, hg, ht, hv, hd, _, _⟩, _⟩ := h'.1
  obtain rfl := Option.some.inj (fl.symm.trans hg)
  have ht' : (Tryd.prog.globals[0]?).map (·.type) = some 100 := by kernel_rfl
  obtain rfl := Option.some.inj (ht'.symm.trans ht)
  obtain ⟨xs, m, rfl, hx, hl, hn, hi⟩ := DataW.trod_array (n := 2) (e := 4) (by kernel_rfl) hd
  have hc4 : Tryd.prog.cellsOf 4 = 1 := by kernel_rfl
  have hc100 : Tryd.prog.cellsOf 100 = 2 := by kernel_rfl
  have hu4 : Tryd.prog.underlying 4 = some .bool := by kernel_rfl
  rw [hc100] at hl
  rw [hv]
  obtain ⟨cs⟩ := cs
  obtain ⟨a, b, rfl⟩ := list_two hl
  obtain ⟨x, y, rfl⟩ := list_two hn
  have h0 := hi 0 (by omega)
  have h1 := hi 1 (by omega)
  rw [hc4] at h0 h1
  have h0' : DataW.trod (fun _ => ()) Tryd.prog W 0 (fun _ => true) false m 4 [a] = some x := h0
  have h1' : DataW.trod (fun _ => ()) Tryd.prog W 0 (fun _ => true) false m 4 [b] = some y := h1
  obtain ⟨b0, e0, f0⟩ := DataW.trod_bool hu4 h0'
  obtain ⟨b1, e1, f1⟩ := DataW.trod_bool hu4 h1'
  have hx1 := congrArg Prod.fst hx
  have hx2 : (DataW.agg [.lit (.bool false), .lit (.bool true)] : DataW Unit) = .agg [x.1, y.1] := hx1
  rw [f0, f1] at hx2
  simp only [DataW.agg.injEq, List.cons.injEq, DataW.lit.injEq, Lit.bool.injEq, and_true] at hx2
  simp only [List.cons.injEq, and_true] at e0 e1
  rw [e0, e1, ← hx2.1, ← hx2.2]
theorem gok_of_laid {W : World} (h : laidMetH Tryd.prog YtmmioohcgdnpdaaDoor.Rows.blockMatchesReferenceRow.laid W) : GOK G16 W (fun _ => False) := by
  have ht := var_of_laid h
  have hf := flags_of_laid h
  unfold World.var? at ht hf
  rw [et] at ht
  rw [fl] at hf
  simp only [Option.bind_some] at ht hf
  intro n l hl
  unfold G16 at hl
  cases hn : Nat.beq n 0 with
  | true =>
    rw [hn, cond_true] at hl
    cases hl
    have := nbeq hn
    subst this
    refine ⟨fun h => h, ?_⟩
    split at hf
    case h_2 => cases hf
    rename_i cs T fr hc
    simp only [Option.some.injEq] at hf
    refine ⟨cs, T, fr, hc, by rw [hf]; rfl, fun j v hv => ?_, fun j hj => ?_⟩
    · match j with
      | 0 =>
        simp only [List.getElem?_cons_zero, Option.some.injEq] at hv
        subst hv
        rw [hf]
        exact .bool
      | 1 =>
        simp only [List.getElem?_cons_succ, List.getElem?_cons_zero, Option.some.injEq] at hv
        subst hv
        rw [hf]
        exact .bool
      | j + 2 => simp at hv
    · rw [hf] at hj ⊢
      match j, hj with
      | 0, _ => rfl
      | 1, _ => rfl
      | j + 2, hj => exact absurd hj (by simp)
  | false =>
    rw [hn, cond_false] at hl
    cases hn1 : Nat.beq n 1 with
    | false => rw [hn1] at hl; cases hl
    | true =>
      rw [hn1, cond_true] at hl
      cases hl
      have := nbeq hn1
      subst this
      refine ⟨fun h => h, ?_⟩
      split at ht
      case h_2 => cases ht
      rename_i cs T fr hc
      simp only [Option.some.injEq] at ht
      refine ⟨cs, T, fr, hc, by rw [ht]; rfl, fun j v hv => ?_, fun j hj => ?_⟩
      · cases j with
        | zero =>
          simp only [List.getElem?_cons_zero, Option.some.injEq] at hv
          subst hv
          rw [ht]
          exact .val rfl
        | succ j => simp at hv
      · rw [ht] at hj ⊢
        have : j = 0 := by simpa using hj
        subst this
        rfl
noncomputable def laidWorld (os : Os) : World :=
  let w0 := World.holding Tryd.prog os ⟨#[], #[], []⟩
  { w0 with heap := (w0.heap.modify 0 fun
      | .cells _ t frozen => .cells #[.bool false, .bool true] t frozen
      | o => o).modify 1 fun
      | .cells _ t frozen => .cells #[errT] t frozen
      | o => o }
theorem door_met (os : Os) (args : Array Value) : laidMetH Tryd.prog YtmmioohcgdnpdaaDoor.Rows.blockMatchesReferenceRow.laid ((laidWorld os).forCall (fun _ _ => 0) ⟨#[], args, []⟩).memory :=
  laidMetH_of_parts (laidMet_of_run' 8 (by kernel_rfl) (by kernel_rfl)) (by kernel_rfl)
theorem types_of {xs : List (List IV)} (h : ∀ x ∈ xs, ∃ vs, KRep [.int .i32, .bool, .int .u8] x vs) : okT xs := by
  have : ∃ L : List Ty, xs = L.map cellsT ∧ ∀ t ∈ L, okTy t := by
    induction xs with
    | nil => exact ⟨[], rfl, fun t h => by cases h⟩
    | cons x xs ih =>
      obtain ⟨L, rfl, hL⟩ := ih fun y hy => h y (by simp [hy])
      obtain ⟨vs, hx⟩ := h x (by simp)
      obtain ⟨o, is1, vs1, e1, e2, ho, hx1⟩ := hx.cons_int
      obtain ⟨d, is2, vs2, e3, e4, hx2⟩ := hx1.cons_bool
      obtain ⟨g, is3, vs3, e5, e6, hg, hx3⟩ := hx2.cons_int
      obtain ⟨e7, e8⟩ := hx3.end
      subst e7 e8 e5 e6 e3 e4 e1 e2
      have ho' : (-2147483648 : Int) ≤ o ∧ o ≤ 2147483647 := ho
      have hg' : (0 : Int) ≤ g ∧ g ≤ 255 := hg
      exact ⟨⟨o, d, g⟩ :: L, rfl, fun t ht => by
        rcases List.mem_cons.1 ht with rfl | ht
        · exact ⟨ho'.1, ho'.2, hg'.1, hg'.2⟩
        · exact hL t ht⟩
  obtain ⟨L, rfl, hL⟩ := this
  have e : tys (L.map cellsT) = L := by
    simp only [tys, List.map_map]
    conv => rhs; rw [← List.map_id L]
    exact List.map_congr_left fun t _ => rfl
  exact ⟨by rw [e], by rw [e]; exact hL⟩
theorem leaps_of {xs : List (List IV)} (h : ∀ x ∈ xs, ∃ vs, KRep [.int .i64, .int .i32] x vs) : okL xs := by
  have : ∃ L : List Lp, xs = L.map cellsL ∧ ∀ t ∈ L, okLp t := by
    induction xs with
    | nil => exact ⟨[], rfl, fun t h => by cases h⟩
    | cons x xs ih =>
      obtain ⟨L, rfl, hL⟩ := ih fun y hy => h y (by simp [hy])
      obtain ⟨vs, hx⟩ := h x (by simp)
      obtain ⟨o, is1, vs1, e1, e2, ho, hx1⟩ := hx.cons_int
      obtain ⟨g, is3, vs3, e5, e6, hg, hx3⟩ := hx1.cons_int
      obtain ⟨e7, e8⟩ := hx3.end
      subst e7 e8 e5 e6 e1 e2
      have ho' : (-9223372036854775808 : Int) ≤ o ∧ o ≤ 9223372036854775807 := ho
      have hg' : (-2147483648 : Int) ≤ g ∧ g ≤ 2147483647 := hg
      exact ⟨⟨o, g⟩ :: L, rfl, fun t ht => by
        rcases List.mem_cons.1 ht with rfl | ht
        · exact ⟨ho'.1, ho'.2, hg'.1, hg'.2⟩
        · exact hL t ht⟩
  obtain ⟨L, rfl, hL⟩ := this
  have e : lps (L.map cellsL) = L := by
    simp only [lps, List.map_map]
    conv => rhs; rw [← List.map_id L]
    exact List.map_congr_left fun t _ => rfl
  exact ⟨by rw [e], by rw [e]; exact hL⟩
theorem inN8_of {l : List Int} (h : ∀ n ∈ l, InR .i64 n) : ∀ n ∈ l, inN 8 n := fun n hn => by
  have h' : (-9223372036854775808 : Int) ≤ n ∧ n ≤ 9223372036854775807 := h n hn
  exact .inr ⟨rfl, h'.1, by omega⟩
end Z19

namespace Go.Proofs.YtmmioohcgdnpdaaDoor
open Go Go.AE Go.Proofs Z19 D6
open Go.ChangeShapes Go.WideShapes Go.ChangeAt Go.RowKit Go.ChangeMaps
attribute [local irreducible] loopK evCode evSpec loopB norm evFunc
theorem Tryd.own : ownKnob Tryd.prog.godebug = none := by kernel_rfl
set_option maxRecDepth 100000 in
theorem f4_lifted (os : Os) (started : os.Started) (H : Type) (enc : TypeId × Value → H) :
    ReturnsInHanded {} Tryd.checked os 4 .any (fun w args => (Rows.blockRoundTripSpec.pre enc Tryd.prog Tryd.f4 [] false w args ∧ laidMetH Tryd.prog Rows.blockMatchesReferenceRow.laid w) ∧ sizedMet enc Tryd.prog Tryd.f4 (OpenSpec.ofChange Rows.blockRoundTripSpec) false w args)
      (Rows.blockRoundTripSpec.post enc Tryd.prog Tryd.f4 false true false false) := by
  refine returnsInHanded_of_change_and (C := Tryd.checked) (X := fun w _ => laidMetH Tryd.prog Rows.blockMatchesReferenceRow.laid w) (fun _ _ _ hh h => h.of_heap hh) Tryd.own started (by kernel_rfl) Tryd.func4
    (ChangeSpec.witness_at (enc := enc) (C := Tryd.checked) (os := os) (X := fun w _ => laidMetH Tryd.prog Rows.blockMatchesReferenceRow.laid w) false (laidWorld os) #[.agg #[.slice none 0 0, .slice none 0 0, .slice none 0 0, .slice none 0 0, .slice none 0 0, .slice none 0 0, .slice none 0 0], .bool false, .slice none 0 0] 8 rfl (by kernel_rfl) (by kernel_rfl) (by kernel_rfl) (by kernel_rfl) (by kernel_rfl) (door_met os _)) ?_
  intro W base args ds gs before hval0 hW _ hsz hL _
  obtain ⟨l⟩ := args
  have hval : ∀ (j : Nat) t v, Tryd.f4.params[j]? = some t → l[j]? = some v → Value.okWide Tryd.prog W .any base t v := fun j t v h1 h2 => hval0 j t v h1 (by simpa using h2)
  have hW' := hW
  obtain ⟨p, q, hB, hV, rfl, hfz, hnd⟩ := hW
  obtain ⟨rfl, rfl⟩ := trodVars_none hV
  have hA0 : DataW.TrodAll enc Tryd.prog W 0 (fun _ => true) true [34, 4, 22] l ds p := by have h := hB; rw [Tryd.params4] at h; exact h
  rw [Tryd.params4] at hval
  clear hB hval0
  obtain ⟨v0, l, d0, ds, p0, p, rfl, rfl, h0, hA1, rfl⟩ := all_cons hA0
  obtain ⟨v1, l, d1, ds, p1, p, rfl, rfl, h1, hA2, rfl⟩ := all_cons hA1
  obtain ⟨v2, l, d2, ds, p2, p, rfl, rfl, h2, hA3, rfl⟩ := all_cons hA2
  obtain ⟨rfl, rfl, rfl⟩ := all_nil hA3
  obtain ⟨l0, rfl, M0⟩ := open_mix Tryd.underlying34 (by kernel_rfl : mixK Tryd.prog 40 34 = some [(29, .sl [.int .i64]), (22, .sl [.int .u8]), (30, .sl [(.int .i32), .bool, (.int .u8)]), (22, .sl [.int .u8]), (31, .sl [(.int .i64), (.int .i32)]), (32, .sl [.bool]), (32, .sl [.bool])]) (by kernel_rfl) (by kernel_rfl) (hval 0 34 v0 rfl rfl) h0 (weights_arg hsz (j := 0) (by rw [Tryd.params4]; rfl) rfl)
  obtain ⟨u0a, l0, rfl, c0a, M0⟩ := mall_cons M0
  obtain ⟨x0a, g0a, s0a, r0a⟩ := c0a.ints
  obtain ⟨u0b, l0, rfl, c0b, M0⟩ := mall_cons M0
  obtain ⟨x0b, s0b, r0b⟩ := c0b.bytes
  obtain ⟨u0c, l0, rfl, c0c, M0⟩ := mall_cons M0
  obtain ⟨x0c, k0c, s0c, r0c⟩ := MOk.structs rfl c0c
  have o0c := types_of k0c
  obtain ⟨u0d, l0, rfl, c0d, M0⟩ := mall_cons M0
  obtain ⟨x0d, s0d, r0d⟩ := c0d.bytes
  obtain ⟨u0e, l0, rfl, c0e, M0⟩ := mall_cons M0
  obtain ⟨x0e, k0e, s0e, r0e⟩ := MOk.structs rfl c0e
  have o0e := leaps_of k0e
  obtain ⟨u0f, l0, rfl, c0f, M0⟩ := mall_cons M0
  obtain ⟨x0f, s0f, r0f⟩ := c0f.bools
  obtain ⟨u0g, l0, rfl, c0g, M0⟩ := mall_cons M0
  obtain ⟨x0g, s0g, r0g⟩ := c0g.bools
  obtain rfl := mall_nil M0
  obtain ⟨a1, rfl, rfl, rfl⟩ := open_bool Tryd.underlying4 (hval 1 4 v1 rfl rfl) h1
  obtain ⟨l2, m2, r2⟩ := open_byteslice Tryd.underlying22 (by kernel_rfl : flatK Tryd.prog false 40 5 = some [.int .u8]) (by kernel_rfl) (by decide +kernel) (hval 2 22 v2 rfl rfl) h2 (fun el rs h => sized_slice hsz (j := 2) (by rw [Tryd.params4]; rfl) (by rw [h]; rfl) Tryd.underlying22)
  have hspec : SpecOK Tryd.prog G16 4 [.agg [.imm (.ints .i64 x0a), .imm (.bytes x0b), .imm (.sl 3 x0c), .imm (.bytes x0d), .imm (.sl 2 x0e), .imm (.bools x0f), .imm (.bools x0g)], .imm (.bool a1), .imm (.bytes l2)] [] [.imm (.bool true)] := spec_ok (C := K5h) okF5 noCall_ok Tryd.func4 (by kernel_rfl) (by kernel_rfl) (fun _ => f4_ev x0a x0b x0c x0d x0e x0f x0g a1 l2 o0c o0e (inN8_of g0a) (by have := s0a; unfold D6.big; omega) (by have := s0e; unfold D6.big; omega) _ rfl)
  refine (bool_calls hspec (fun p h => by cases h) W _ rfl (fun j c hc => ?_) (gok_of_laid hL)).mono fun e W' ⟨he, hw⟩ => ?_
  · match j with
    | 0 => simp only [List.getElem?_cons_zero, Option.some.injEq] at hc; subst hc; exact MIs.arep (is := [.ints .i64 x0a, .bytes x0b, .sl 3 x0c, .bytes x0d, .sl 2 x0e, .bools x0f, .bools x0g]) (vs := [u0a, u0b, u0c, u0d, u0e, u0f, u0g]) ⟨r0a, r0b, r0c, r0d, r0e, r0f, r0g, trivial⟩
    | 1 => simp only [List.getElem?_cons_succ, List.getElem?_cons_zero, Option.some.injEq] at hc; subst hc; exact .imm .bool
    | 2 => simp only [List.getElem?_cons_succ, List.getElem?_cons_zero, Option.some.injEq] at hc; subst hc; exact rep_at r2 rfl
    | j + 3 => simp at hc
  subst he
  exact ⟨_, rfl, row_post hW' rfl (by kernel_rfl) (by kernel_rfl) rfl rfl Tryd.underlying4 hw⟩
theorem f4_row : Rows.BlockRoundTripSaid :=
  OpenClaim.holds_of_wide 4 Tryd.f4 rfl rfl rfl rfl rfl rfl rfl ⟨rfl, rfl, rfl, rfl, rfl⟩ rfl rfl rfl rfl rfl (by kernel_rfl) Tryd.func4 (by kernel_rfl)
    (of_decide_eq_true (by kernel_rfl)) (by unfold Func.isWrapper; first | (rw [if_pos (by decide +kernel)]; kernel_rfl) | (rw [if_neg (by decide +kernel)]; exact ⟨rfl, rfl⟩))
    (fun os started H enc _ => f4_lifted os started H enc)
theorem f4_holds : Rows.BlockRoundTripCardSaid :=
  Claim7.holds_tied_plain_at .later [] [.data, .handle] true Rows.blockRoundTripCard.stood.harness true
    f4_row (fun _ h => by cases h) (by kernel_rfl) (fun _ h => by cases h) blockRoundTrip_row_tie rfl ⟨rfl, rfl⟩ (by kernel_rfl) rfl
    (fun f fn hf hfn => by
      obtain rfl : f = 4 := Option.some.inj ((show Tryd.prog.funcNamed "zoneinfo/zoneinfolaw19.BlockRoundTrip" = some 4 by kernel_rfl).symm.trans hf) |>.symm
      obtain rfl : fn = Tryd.f4 := (Option.some.inj (Tryd.func4.symm.trans hfn)).symm
      exact ⟨by kernel_rfl, fun j t ht => by
        rw [Tryd.params4] at ht
        have hm : t ∈ [34, 4, 22] := by simpa using Array.mem_of_getElem? ht
        have hall : ([34, 4, 22].all fun u => !Tryd.prog.wantsStandIn u) = true := by kernel_rfl
        exact (show Tryd.prog.wantsStandIn t = false by simpa using List.all_eq_true.1 hall t hm)⟩)
    (by kernel_rfl)
end Go.Proofs.YtmmioohcgdnpdaaDoor
