/- The walk's evaluator and its laws (over whatever program), and contracts of the program's functions. -/
import Derived.Test.YtmmioohcgdnpdaaDoorAe4
import Derived.KernelRfl
import Derived.ProofKit
import Derived.WideKeyArgs
import Derived.SizedLaws
import Derived.ChangeSlices
import Derived.Test.YtmmioohcgdnpdaaDoorRows
import Derived.Test.YtmmioohcgdnpdaaDoorTie
import Derived.Test.YtmmioohcgdnpdaaDoorCards
import Derived.LaidMore
import Derived.LaidHandle
import Derived.LaidLaws
import Derived.OpenShut
import Derived.Stop.Joined
import Derived.SevenTiedAt
set_option linter.all false
set_option maxRecDepth 100000
namespace Z19
open Go Go.AE Go.Proofs D6
attribute [local irreducible] loopK evCode evSpec loopB norm
theorem f13_in (d:List UInt8) (p:Int) (e:Int) (a:Int) (v:Int) (iu:Int) (is:Int) (l:Int) (t:Int) (ty:Int) (c:Int) (s:Int) (at':Int) (K:List AV→Prop):evSpec K3h Tryd.f13 [curAV d p e a,hdAV v iu is l t ty c,i64 s,i64 at'] K = (let R1:Prop:=(K [.agg [AV.new (IV.ints IntKind.i64 []),AV.new (IV.bytes []),AV.new (IV.sl (3:Nat) []),AV.new (IV.bytes []),AV.new (IV.sl (2:Nat) []),AV.new (IV.bools []),AV.new (IV.bools [])],.agg [.imm (.bytes (Cu.d (failU (Cu.mk d p e a) (1:Int) (d.length:Int)))),.imm (.int .i64 (Cu.p (failU (Cu.mk d p e a) (1:Int) (d.length:Int)))),.imm (.int .i64 (Cu.e (failU (Cu.mk d p e a) (1:Int) (d.length:Int)))),.imm (.int .i64 (Cu.a (failU (Cu.mk d p e a) (1:Int) (d.length:Int))))]]); brn (e != 0) (K [.agg [AV.new (IV.ints IntKind.i64 []),AV.new (IV.bytes []),AV.new (IV.sl (3:Nat) []),AV.new (IV.bytes []),AV.new (IV.sl (2:Nat) []),AV.new (IV.bools []),AV.new (IV.bools [])],.agg [.imm (.bytes d),.imm (.int .i64 p),.imm (.int .i64 e),.imm (.int .i64 a)]]) ((okH (Hd.mk v iu is l t ty c)∧sz48 s∧brn (decide (sumU (Hd.mk v iu is l t ty c) s > IntKind.wrap IntKind.u64 (IntKind.wrap .i64
 ((d.length:Int) - p)))) R1 (okH (Hd.mk v iu is l t ty c)∧sz48 s∧LoopI K3h (bodyOf Tryd.f13) (0:Nat) (St.mk (lapp [.agg [.imm (.bytes d),.imm (.int .i64 p),.imm (.int .i64 e),.imm (.int .i64 a)],.agg [.imm (.int .i64 v),.imm (.int IntKind.u32 iu),.imm (.int IntKind.u32 is),.imm (.int IntKind.u32 l),.imm (.int IntKind.u32 t),.imm (.int IntKind.u32 ty),.imm (.int IntKind.u32 c)],.imm (.int .i64 s),.imm (.int .i64 at'),.ptr 0 0,.ptr 1 0,.dead,.dead,.ptr 2 0,.ptr 3 0,.ptr 4 0,.ptr 5 0,.full (IV.sl (1:Nat) []),.ptr 6 0,.imm (.int .i64 0)] (lapp (dN 5) (lapp [.ptr 0 2,.imm (.int .i64 e),.imm (.bool (e != 0)),.dead,.dead,.agg [.imm (.int .i64 v),.imm (.int IntKind.u32 iu),.imm (.int IntKind.u32 is),.imm (.int IntKind.u32 l),.imm (.int IntKind.u32 t),.imm (.int IntKind.u32 ty),.imm (.int IntKind.u32 c)],.imm (.int .i64 s),.imm (.int IntKind.u64 (sumU (Hd.mk v iu is l t ty c) s)),.ptr 0 0,.imm (.bytes d),.imm (.int .i64 (d.length:Int)),.ptr 0 1,.imm (.int .i64 p),.imm (.int .i64 (IntKind.wrap .i64 ((d.length:Int) - p))),.imm (.int IntKind.u64 (IntKind.wrap IntKind.u64 (IntKind.wrap .i64 ((d.length:Int) - p)))),.imm (.bool (decide
 (sumU (Hd.mk v iu is l t ty c) s > IntKind.wrap IntKind.u64 (IntKind.wrap .i64 ((d.length:Int) - p)))))] (lapp (dN 6) (lapp [.agg [.imm (.int .i64 v),.imm (.int IntKind.u32 iu),.imm (.int IntKind.u32 is),.imm (.int IntKind.u32 l),.imm (.int IntKind.u32 t),.imm (.int IntKind.u32 ty),.imm (.int IntKind.u32 c)],.imm (.int .i64 s),.agg [.imm (.int IntKind.u64 (l0 (Hd.mk v iu is l t ty c) s)),.imm (.int IntKind.u64 (l1 (Hd.mk v iu is l t ty c))),.imm (.int IntKind.u64 (l2 (Hd.mk v iu is l t ty c))),.imm (.int IntKind.u64 (l3 (Hd.mk v iu is l t ty c))),.imm (.int IntKind.u64 (l4 (Hd.mk v iu is l t ty c) s)),.imm (.int IntKind.u64 (l5 (Hd.mk v iu is l t ty c))),.imm (.int IntKind.u64 (l6 (Hd.mk v iu is l t ty c)))],.agg [.imm (.bytes d),.imm (.int .i64 p),.imm (.int .i64 e),.imm (.int .i64 a)]] (dN 82)))))) [(0,Ob.mk true 0 (AObj.cells [.imm (.bytes d),.imm (.int .i64 p),.imm (.int .i64 e),.imm (.int .i64 a)])),(1,Ob.mk true 0 (AObj.cells [.imm (.int .i64 v),.imm (.int IntKind.u32 iu),.imm (.int IntKind.u32 is),.imm (.int IntKind.u32 l),.imm (.int IntKind.u32 t),.imm (.int IntKind.u32 ty),.imm (.int IntKind.u32 c)])),(2,Ob.mk true 0 (AObj.cells [.imm (.val
 (Value.slice none (0:Nat) (0:Nat))),.imm (.val (Value.slice none (0:Nat) (0:Nat))),.imm (.val (Value.slice none (0:Nat) (0:Nat))),.imm (.val (Value.slice none (0:Nat) (0:Nat))),.imm (.val (Value.slice none (0:Nat) (0:Nat))),.imm (.val (Value.slice none (0:Nat) (0:Nat))),.imm (.val (Value.slice none (0:Nat) (0:Nat)))])),(3,Ob.mk true 0 (AObj.cells [.imm (.val (Value.slice none (0:Nat) (0:Nat))),.imm (.int .i64 0),.imm (.int .i64 0),.imm (.int .i64 0)])),(4,Ob.mk true 0 (AObj.cells [.imm (.val (Value.slice none (0:Nat) (0:Nat))),.imm (.val (Value.slice none (0:Nat) (0:Nat))),.imm (.val (Value.slice none (0:Nat) (0:Nat))),.imm (.val (Value.slice none (0:Nat) (0:Nat))),.imm (.val (Value.slice none (0:Nat) (0:Nat))),.imm (.val (Value.slice none (0:Nat) (0:Nat))),.imm (.val (Value.slice none (0:Nat) (0:Nat)))])),(5,Ob.mk true 0 (AObj.cells [.imm (.int IntKind.u64 (l0 (Hd.mk v iu is l t ty c) s)),.imm (.int IntKind.u64 (l1 (Hd.mk v iu is l t ty c))),.imm (.int IntKind.u64 (l2 (Hd.mk v iu is l t ty c))),.imm (.int IntKind.u64 (l3 (Hd.mk v iu is l t ty c))),.imm (.int IntKind.u64 (l4 (Hd.mk v iu is l t ty c)
 s)),.imm (.int IntKind.u64 (l5 (Hd.mk v iu is l t ty c))),.imm (.int IntKind.u64 (l6 (Hd.mk v iu is l t ty c)))])),(6,Ob.mk true 0 (AObj.cells [.imm (.bytes d),.imm (.int .i64 p),.imm (.int .i64 e),.imm (.int .i64 a)]))] (7:Nat) []) (finK K3h Tryd.f13 K)))∧okH (Hd.mk v iu is l t ty c)∧sz48 s∧brn (decide (sumU (Hd.mk v iu is l t ty c) s > IntKind.wrap IntKind.u64 (IntKind.wrap .i64 ((d.length:Int) - p)))) R1 (okH (Hd.mk v iu is l t ty c)∧sz48 s∧LoopI K3h (bodyOf Tryd.f13) (0:Nat) (St.mk (lapp [.agg [.imm (.bytes d),.imm (.int .i64 p),.imm (.int .i64 e),.imm (.int .i64 a)],.agg [.imm (.int .i64 v),.imm (.int IntKind.u32 iu),.imm (.int IntKind.u32 is),.imm (.int IntKind.u32 l),.imm (.int IntKind.u32 t),.imm (.int IntKind.u32 ty),.imm (.int IntKind.u32 c)],.imm (.int .i64 s),.imm (.int .i64 at'),.ptr 0 0,.ptr 1 0,.dead,.dead,.ptr 2 0,.ptr 3 0,.ptr 4 0,.ptr 5 0,.full (IV.sl (1:Nat) []),.ptr 6 0,.imm (.int .i64 0)] (lapp (dN 5) (lapp [.ptr 0 2,.imm (.int .i64 e),.imm (.bool (e != 0)),.dead,.dead,.agg [.imm (.int .i64 v),.imm (.int IntKind.u32 iu),.imm (.int IntKind.u32 is),.imm (.int IntKind.u32 l),.imm (.int IntKind.u32 t),.imm
 (.int IntKind.u32 ty),.imm (.int IntKind.u32 c)],.imm (.int .i64 s),.imm (.int IntKind.u64 (sumU (Hd.mk v iu is l t ty c) s)),.ptr 0 0,.imm (.bytes d),.imm (.int .i64 (d.length:Int)),.ptr 0 1,.imm (.int .i64 p),.imm (.int .i64 (IntKind.wrap .i64 ((d.length:Int) - p))),.imm (.int IntKind.u64 (IntKind.wrap IntKind.u64 (IntKind.wrap .i64 ((d.length:Int) - p)))),.imm (.bool (decide (sumU (Hd.mk v iu is l t ty c) s > IntKind.wrap IntKind.u64 (IntKind.wrap .i64 ((d.length:Int) - p)))))] (lapp (dN 6) (lapp [.agg [.imm (.int .i64 v),.imm (.int IntKind.u32 iu),.imm (.int IntKind.u32 is),.imm (.int IntKind.u32 l),.imm (.int IntKind.u32 t),.imm (.int IntKind.u32 ty),.imm (.int IntKind.u32 c)],.imm (.int .i64 s),.agg [.imm (.int IntKind.u64 (l0 (Hd.mk v iu is l t ty c) s)),.imm (.int IntKind.u64 (l1 (Hd.mk v iu is l t ty c))),.imm (.int IntKind.u64 (l2 (Hd.mk v iu is l t ty c))),.imm (.int IntKind.u64 (l3 (Hd.mk v iu is l t ty c))),.imm (.int IntKind.u64 (l4 (Hd.mk v iu is l t ty c) s)),.imm (.int IntKind.u64 (l5 (Hd.mk v iu is l t ty c))),.imm (.int IntKind.u64 (l6 (Hd.mk v iu is l t ty c)))],.agg [.imm (.bytes d),.imm (.int .i64 p),.imm (.int .i64 e),.imm
 (.int .i64 a)]] (dN 82)))))) [(0,Ob.mk true 0 (AObj.cells [.imm (.bytes d),.imm (.int .i64 p),.imm (.int .i64 e),.imm (.int .i64 a)])),(1,Ob.mk true 0 (AObj.cells [.imm (.int .i64 v),.imm (.int IntKind.u32 iu),.imm (.int IntKind.u32 is),.imm (.int IntKind.u32 l),.imm (.int IntKind.u32 t),.imm (.int IntKind.u32 ty),.imm (.int IntKind.u32 c)])),(2,Ob.mk true 0 (AObj.cells [.imm (.val (Value.slice none (0:Nat) (0:Nat))),.imm (.val (Value.slice none (0:Nat) (0:Nat))),.imm (.val (Value.slice none (0:Nat) (0:Nat))),.imm (.val (Value.slice none (0:Nat) (0:Nat))),.imm (.val (Value.slice none (0:Nat) (0:Nat))),.imm (.val (Value.slice none (0:Nat) (0:Nat))),.imm (.val (Value.slice none (0:Nat) (0:Nat)))])),(3,Ob.mk true 0 (AObj.cells [.imm (.val (Value.slice none (0:Nat) (0:Nat))),.imm (.int .i64 0),.imm (.int .i64 0),.imm (.int .i64 0)])),(4,Ob.mk true 0 (AObj.cells [.imm (.val (Value.slice none (0:Nat) (0:Nat))),.imm (.val (Value.slice none (0:Nat) (0:Nat))),.imm (.val (Value.slice none (0:Nat) (0:Nat))),.imm (.val (Value.slice none (0:Nat) (0:Nat))),.imm (.val (Value.slice none (0:Nat) (0:Nat))),.imm (.val
 (Value.slice none (0:Nat) (0:Nat))),.imm (.val (Value.slice none (0:Nat) (0:Nat)))])),(5,Ob.mk true 0 (AObj.cells [.imm (.int IntKind.u64 (l0 (Hd.mk v iu is l t ty c) s)),.imm (.int IntKind.u64 (l1 (Hd.mk v iu is l t ty c))),.imm (.int IntKind.u64 (l2 (Hd.mk v iu is l t ty c))),.imm (.int IntKind.u64 (l3 (Hd.mk v iu is l t ty c))),.imm (.int IntKind.u64 (l4 (Hd.mk v iu is l t ty c) s)),.imm (.int IntKind.u64 (l5 (Hd.mk v iu is l t ty c))),.imm (.int IntKind.u64 (l6 (Hd.mk v iu is l t ty c)))])),(6,Ob.mk true 0 (AObj.cells [.imm (.bytes d),.imm (.int .i64 p),.imm (.int .i64 e),.imm (.int .i64 a)]))] (7:Nat) []) (finK K3h Tryd.f13 K)))):=by kernel_rfl
theorem f13_lp0 (n0:Int) (n1:Int) (n2:Int) (n3:Int) (n4:Int) (n5:Int) (n6:Int) (s:Int) (at':Int) (d:List UInt8) (p:Int) (e:Int) (a:Int) (xs:List (List IV)) (k:AX→St→Prop):evCode K3h (loopB (bodyOf Tryd.f13) (0:Nat)) (h13x n0 n1 n2 n3 n4 n5 n6 s at' d p e a xs (0:Int)) k = ((okU (Cu.mk d p e a)∧(List.length xs + List.length [[IV.bytes (takeU (Cu.mk d p e a) (IntKind.wrap .i64 n0))]]) * 24≤140737488355328∧List.length xs + List.length [[IV.bytes (takeU (Cu.mk d p e a) (IntKind.wrap .i64 n0))]]≤140737488355328∧k AX.normal (St.mk (lapp [.dead,.dead,.imm (.int .i64 s),.imm (.int .i64 at')] (lapp (dN 4) (lapp [.ptr 0 0,.ptr 1 0,.ptr 2 0,.ptr 3 0,AV.row (5:Nat) (1:Nat),.ptr 4 0,.imm (.int .i64 1),.imm (.bytes (takeU (Cu.mk d p e a) (IntKind.wrap .i64 n0))),.ptr 7 0] (lapp (dN 29) (lapp [.imm (.int .i64 0),.imm (.bool true),.imm (.int .i64 0),.imm (.int .i64 1),.tup [AV.row (6:Nat) (0:Nat),.agg [.imm (.bytes (Cu.d (advU (Cu.mk d p e a) (IntKind.wrap .i64 n0)))),.imm (.int .i64 (Cu.p (advU (Cu.mk d p e a) (IntKind.wrap .i64 n0)))),.imm (.int .i64 (Cu.e (advU (Cu.mk d p e a) (IntKind.wrap .i64 n0)))),.imm (.int .i64
 (Cu.a (advU (Cu.mk d p e a) (IntKind.wrap .i64 n0))))]],.agg [.imm (.bytes d),.imm (.int .i64 p),.imm (.int .i64 e),.imm (.int .i64 a)],.imm (.int .i64 0),.ptr 3 0,.imm (.int IntKind.u64 n0),.imm (.int .i64 (IntKind.wrap .i64 n0)),.tup [AV.row (6:Nat) (0:Nat),.agg [.imm (.bytes (Cu.d (advU (Cu.mk d p e a) (IntKind.wrap .i64 n0)))),.imm (.int .i64 (Cu.p (advU (Cu.mk d p e a) (IntKind.wrap .i64 n0)))),.imm (.int .i64 (Cu.e (advU (Cu.mk d p e a) (IntKind.wrap .i64 n0)))),.imm (.int .i64 (Cu.a (advU (Cu.mk d p e a) (IntKind.wrap .i64 n0))))]],.imm (.bytes (takeU (Cu.mk d p e a) (IntKind.wrap .i64 n0))),.agg [.imm (.bytes (Cu.d (advU (Cu.mk d p e a) (IntKind.wrap .i64 n0)))),.imm (.int .i64 (Cu.p (advU (Cu.mk d p e a) (IntKind.wrap .i64 n0)))),.imm (.int .i64 (Cu.e (advU (Cu.mk d p e a) (IntKind.wrap .i64 n0)))),.imm (.int .i64 (Cu.a (advU (Cu.mk d p e a) (IntKind.wrap .i64 n0))))],AV.row (5:Nat) (0:Nat),.imm (.bytes (takeU (Cu.mk d p e a) (IntKind.wrap .i64 n0))),.full (IV.sl (1:Nat) [[IV.bytes (takeU (Cu.mk d p e a) (IntKind.wrap .i64 n0))]]),AV.row (5:Nat) (1:Nat),.agg [.imm (.bytes (Cu.d (advU (Cu.mk d p e a) (IntKind.wrap .i64 n0)))),.imm (.int
 .i64 (Cu.p (advU (Cu.mk d p e a) (IntKind.wrap .i64 n0)))),.imm (.int .i64 (Cu.e (advU (Cu.mk d p e a) (IntKind.wrap .i64 n0)))),.imm (.int .i64 (Cu.a (advU (Cu.mk d p e a) (IntKind.wrap .i64 n0))))]] (dN 64)))))) [(0,Ob.mk true 0 (AObj.cells [.imm (.val (Value.slice none (0:Nat) (0:Nat))),.imm (.val (Value.slice none (0:Nat) (0:Nat))),.imm (.val (Value.slice none (0:Nat) (0:Nat))),.imm (.val (Value.slice none (0:Nat) (0:Nat))),.imm (.val (Value.slice none (0:Nat) (0:Nat))),.imm (.val (Value.slice none (0:Nat) (0:Nat))),.imm (.val (Value.slice none (0:Nat) (0:Nat)))])),(1,Ob.mk true 0 (AObj.cells [.imm (.val (Value.slice none (0:Nat) (0:Nat))),.imm (.int .i64 0),.imm (.int .i64 0),.imm (.int .i64 0)])),(2,Ob.mk true 0 (AObj.cells [.imm (.val (Value.slice none (0:Nat) (0:Nat))),.imm (.val (Value.slice none (0:Nat) (0:Nat))),.imm (.val (Value.slice none (0:Nat) (0:Nat))),.imm (.val (Value.slice none (0:Nat) (0:Nat))),.imm (.val (Value.slice none (0:Nat) (0:Nat))),.imm (.val (Value.slice none (0:Nat) (0:Nat))),.imm (.val (Value.slice none (0:Nat) (0:Nat)))])),(3,Ob.mk true 0 (AObj.cells [.imm (.int
 IntKind.u64 n0),.imm (.int IntKind.u64 n1),.imm (.int IntKind.u64 n2),.imm (.int IntKind.u64 n3),.imm (.int IntKind.u64 n4),.imm (.int IntKind.u64 n5),.imm (.int IntKind.u64 n6)])),(4,Ob.mk true 0 (AObj.cells [.imm (.bytes (Cu.d (advU (Cu.mk d p e a) (IntKind.wrap .i64 n0)))),.imm (.int .i64 (Cu.p (advU (Cu.mk d p e a) (IntKind.wrap .i64 n0)))),.imm (.int .i64 (Cu.e (advU (Cu.mk d p e a) (IntKind.wrap .i64 n0)))),.imm (.int .i64 (Cu.a (advU (Cu.mk d p e a) (IntKind.wrap .i64 n0))))])),(5,Ob.mk true 1 (AObj.row (IV.sl (1:Nat) (xs ++ [[IV.bytes (takeU (Cu.mk d p e a) (IntKind.wrap .i64 n0))]])))),(6,Ob.mk false 0 (AObj.row (IV.bytes (takeU (Cu.mk d p e a) (IntKind.wrap .i64 n0))))),(7,Ob.mk true 0 (AObj.cells [.imm (.bytes (Cu.d (advU (Cu.mk d p e a) (IntKind.wrap .i64 n0)))),.imm (.int .i64 (Cu.p (advU (Cu.mk d p e a) (IntKind.wrap .i64 n0)))),.imm (.int .i64 (Cu.e (advU (Cu.mk d p e a) (IntKind.wrap .i64 n0)))),.imm (.int .i64 (Cu.a (advU (Cu.mk d p e a) (IntKind.wrap .i64 n0))))]))] (8:Nat) []))∧okU (Cu.mk d p e a)∧(List.length xs + List.length [[IV.bytes (takeU (Cu.mk d p e a) (IntKind.wrap .i64 n0))]]) * 24≤140737488355328∧List.length xs +
 List.length [[IV.bytes (takeU (Cu.mk d p e a) (IntKind.wrap .i64 n0))]]≤140737488355328∧k AX.normal (St.mk (lapp [.dead,.dead,.imm (.int .i64 s),.imm (.int .i64 at')] (lapp (dN 4) (lapp [.ptr 0 0,.ptr 1 0,.ptr 2 0,.ptr 3 0,AV.row (5:Nat) (1:Nat),.ptr 4 0,.imm (.int .i64 1),.imm (.bytes (takeU (Cu.mk d p e a) (IntKind.wrap .i64 n0))),.ptr 6 0] (lapp (dN 29) (lapp [.imm (.int .i64 0),.imm (.bool true),.imm (.int .i64 0),.imm (.int .i64 1),.tup [AV.row (7:Nat) (0:Nat),.agg [.imm (.bytes (Cu.d (advU (Cu.mk d p e a) (IntKind.wrap .i64 n0)))),.imm (.int .i64 (Cu.p (advU (Cu.mk d p e a) (IntKind.wrap .i64 n0)))),.imm (.int .i64 (Cu.e (advU (Cu.mk d p e a) (IntKind.wrap .i64 n0)))),.imm (.int .i64 (Cu.a (advU (Cu.mk d p e a) (IntKind.wrap .i64 n0))))]],.agg [.imm (.bytes d),.imm (.int .i64 p),.imm (.int .i64 e),.imm (.int .i64 a)],.imm (.int .i64 0),.ptr 3 0,.imm (.int IntKind.u64 n0),.imm (.int .i64 (IntKind.wrap .i64 n0)),.tup [AV.row (7:Nat) (0:Nat),.agg [.imm (.bytes (Cu.d (advU (Cu.mk d p e a) (IntKind.wrap .i64 n0)))),.imm (.int .i64 (Cu.p (advU (Cu.mk d p e a) (IntKind.wrap .i64 n0)))),.imm (.int .i64 (Cu.e (advU (Cu.mk d p e a)
 (IntKind.wrap .i64 n0)))),.imm (.int .i64 (Cu.a (advU (Cu.mk d p e a) (IntKind.wrap .i64 n0))))]],.imm (.bytes (takeU (Cu.mk d p e a) (IntKind.wrap .i64 n0))),.agg [.imm (.bytes (Cu.d (advU (Cu.mk d p e a) (IntKind.wrap .i64 n0)))),.imm (.int .i64 (Cu.p (advU (Cu.mk d p e a) (IntKind.wrap .i64 n0)))),.imm (.int .i64 (Cu.e (advU (Cu.mk d p e a) (IntKind.wrap .i64 n0)))),.imm (.int .i64 (Cu.a (advU (Cu.mk d p e a) (IntKind.wrap .i64 n0))))],AV.row (5:Nat) (0:Nat),.imm (.bytes (takeU (Cu.mk d p e a) (IntKind.wrap .i64 n0))),.full (IV.sl (1:Nat) [[IV.bytes (takeU (Cu.mk d p e a) (IntKind.wrap .i64 n0))]]),AV.row (5:Nat) (1:Nat),.agg [.imm (.bytes (Cu.d (advU (Cu.mk d p e a) (IntKind.wrap .i64 n0)))),.imm (.int .i64 (Cu.p (advU (Cu.mk d p e a) (IntKind.wrap .i64 n0)))),.imm (.int .i64 (Cu.e (advU (Cu.mk d p e a) (IntKind.wrap .i64 n0)))),.imm (.int .i64 (Cu.a (advU (Cu.mk d p e a) (IntKind.wrap .i64 n0))))]] (dN 64)))))) [(0,Ob.mk true 0 (AObj.cells [.imm (.val (Value.slice none (0:Nat) (0:Nat))),.imm (.val (Value.slice none (0:Nat) (0:Nat))),.imm (.val (Value.slice none (0:Nat) (0:Nat))),.imm (.val (Value.slice none (0:Nat) (0:Nat))),.imm
 (.val (Value.slice none (0:Nat) (0:Nat))),.imm (.val (Value.slice none (0:Nat) (0:Nat))),.imm (.val (Value.slice none (0:Nat) (0:Nat)))])),(1,Ob.mk true 0 (AObj.cells [.imm (.val (Value.slice none (0:Nat) (0:Nat))),.imm (.int .i64 0),.imm (.int .i64 0),.imm (.int .i64 0)])),(2,Ob.mk true 0 (AObj.cells [.imm (.val (Value.slice none (0:Nat) (0:Nat))),.imm (.val (Value.slice none (0:Nat) (0:Nat))),.imm (.val (Value.slice none (0:Nat) (0:Nat))),.imm (.val (Value.slice none (0:Nat) (0:Nat))),.imm (.val (Value.slice none (0:Nat) (0:Nat))),.imm (.val (Value.slice none (0:Nat) (0:Nat))),.imm (.val (Value.slice none (0:Nat) (0:Nat)))])),(3,Ob.mk true 0 (AObj.cells [.imm (.int IntKind.u64 n0),.imm (.int IntKind.u64 n1),.imm (.int IntKind.u64 n2),.imm (.int IntKind.u64 n3),.imm (.int IntKind.u64 n4),.imm (.int IntKind.u64 n5),.imm (.int IntKind.u64 n6)])),(4,Ob.mk true 0 (AObj.cells [.imm (.bytes (Cu.d (advU (Cu.mk d p e a) (IntKind.wrap .i64 n0)))),.imm (.int .i64 (Cu.p (advU (Cu.mk d p e a) (IntKind.wrap .i64 n0)))),.imm (.int .i64 (Cu.e (advU (Cu.mk d p e a) (IntKind.wrap .i64 n0)))),.imm (.int .i64 (Cu.a (advU (Cu.mk d
 p e a) (IntKind.wrap .i64 n0))))])),(5,Ob.mk true 1 (AObj.row (IV.sl (1:Nat) (xs ++ [[IV.bytes (takeU (Cu.mk d p e a) (IntKind.wrap .i64 n0))]])))),(6,Ob.mk true 0 (AObj.cells [.imm (.bytes (Cu.d (advU (Cu.mk d p e a) (IntKind.wrap .i64 n0)))),.imm (.int .i64 (Cu.p (advU (Cu.mk d p e a) (IntKind.wrap .i64 n0)))),.imm (.int .i64 (Cu.e (advU (Cu.mk d p e a) (IntKind.wrap .i64 n0)))),.imm (.int .i64 (Cu.a (advU (Cu.mk d p e a) (IntKind.wrap .i64 n0))))])),(7,Ob.mk false 0 (AObj.row (IV.bytes (takeU (Cu.mk d p e a) (IntKind.wrap .i64 n0)))))] (8:Nat) [])):=by kernel_rfl
theorem f13_lp1 (n0:Int) (n1:Int) (n2:Int) (n3:Int) (n4:Int) (n5:Int) (n6:Int) (s:Int) (at':Int) (d:List UInt8) (p:Int) (e:Int) (a:Int) (xs:List (List IV)) (k:AX→St→Prop):evCode K3h (loopB (bodyOf Tryd.f13) (0:Nat)) (h13x n0 n1 n2 n3 n4 n5 n6 s at' d p e a xs (1:Int)) k = ((okU (Cu.mk d p e a)∧(List.length xs + List.length [[IV.bytes (takeU (Cu.mk d p e a) (IntKind.wrap .i64 n1))]]) * 24≤140737488355328∧List.length xs + List.length [[IV.bytes (takeU (Cu.mk d p e a) (IntKind.wrap .i64 n1))]]≤140737488355328∧k AX.normal (St.mk (lapp [.dead,.dead,.imm (.int .i64 s),.imm (.int .i64 at')] (lapp (dN 4) (lapp [.ptr 0 0,.ptr 1 0,.ptr 2 0,.ptr 3 0,AV.row (5:Nat) (1:Nat),.ptr 4 0,.imm (.int .i64 2),.imm (.bytes (takeU (Cu.mk d p e a) (IntKind.wrap .i64 n1))),.ptr 7 0] (lapp (dN 29) (lapp [.imm (.int .i64 1),.imm (.bool true),.imm (.int .i64 1),.imm (.int .i64 2),.tup [AV.row (6:Nat) (0:Nat),.agg [.imm (.bytes (Cu.d (advU (Cu.mk d p e a) (IntKind.wrap .i64 n1)))),.imm (.int .i64 (Cu.p (advU (Cu.mk d p e a) (IntKind.wrap .i64 n1)))),.imm (.int .i64 (Cu.e (advU (Cu.mk d p e a) (IntKind.wrap .i64 n1)))),.imm (.int .i64
 (Cu.a (advU (Cu.mk d p e a) (IntKind.wrap .i64 n1))))]],.agg [.imm (.bytes d),.imm (.int .i64 p),.imm (.int .i64 e),.imm (.int .i64 a)],.imm (.int .i64 1),.ptr 3 1,.imm (.int IntKind.u64 n1),.imm (.int .i64 (IntKind.wrap .i64 n1)),.tup [AV.row (6:Nat) (0:Nat),.agg [.imm (.bytes (Cu.d (advU (Cu.mk d p e a) (IntKind.wrap .i64 n1)))),.imm (.int .i64 (Cu.p (advU (Cu.mk d p e a) (IntKind.wrap .i64 n1)))),.imm (.int .i64 (Cu.e (advU (Cu.mk d p e a) (IntKind.wrap .i64 n1)))),.imm (.int .i64 (Cu.a (advU (Cu.mk d p e a) (IntKind.wrap .i64 n1))))]],.imm (.bytes (takeU (Cu.mk d p e a) (IntKind.wrap .i64 n1))),.agg [.imm (.bytes (Cu.d (advU (Cu.mk d p e a) (IntKind.wrap .i64 n1)))),.imm (.int .i64 (Cu.p (advU (Cu.mk d p e a) (IntKind.wrap .i64 n1)))),.imm (.int .i64 (Cu.e (advU (Cu.mk d p e a) (IntKind.wrap .i64 n1)))),.imm (.int .i64 (Cu.a (advU (Cu.mk d p e a) (IntKind.wrap .i64 n1))))],AV.row (5:Nat) (0:Nat),.imm (.bytes (takeU (Cu.mk d p e a) (IntKind.wrap .i64 n1))),.full (IV.sl (1:Nat) [[IV.bytes (takeU (Cu.mk d p e a) (IntKind.wrap .i64 n1))]]),AV.row (5:Nat) (1:Nat),.agg [.imm (.bytes (Cu.d (advU (Cu.mk d p e a) (IntKind.wrap .i64 n1)))),.imm (.int
 .i64 (Cu.p (advU (Cu.mk d p e a) (IntKind.wrap .i64 n1)))),.imm (.int .i64 (Cu.e (advU (Cu.mk d p e a) (IntKind.wrap .i64 n1)))),.imm (.int .i64 (Cu.a (advU (Cu.mk d p e a) (IntKind.wrap .i64 n1))))]] (dN 64)))))) [(0,Ob.mk true 0 (AObj.cells [.imm (.val (Value.slice none (0:Nat) (0:Nat))),.imm (.val (Value.slice none (0:Nat) (0:Nat))),.imm (.val (Value.slice none (0:Nat) (0:Nat))),.imm (.val (Value.slice none (0:Nat) (0:Nat))),.imm (.val (Value.slice none (0:Nat) (0:Nat))),.imm (.val (Value.slice none (0:Nat) (0:Nat))),.imm (.val (Value.slice none (0:Nat) (0:Nat)))])),(1,Ob.mk true 0 (AObj.cells [.imm (.val (Value.slice none (0:Nat) (0:Nat))),.imm (.int .i64 0),.imm (.int .i64 0),.imm (.int .i64 0)])),(2,Ob.mk true 0 (AObj.cells [.imm (.val (Value.slice none (0:Nat) (0:Nat))),.imm (.val (Value.slice none (0:Nat) (0:Nat))),.imm (.val (Value.slice none (0:Nat) (0:Nat))),.imm (.val (Value.slice none (0:Nat) (0:Nat))),.imm (.val (Value.slice none (0:Nat) (0:Nat))),.imm (.val (Value.slice none (0:Nat) (0:Nat))),.imm (.val (Value.slice none (0:Nat) (0:Nat)))])),(3,Ob.mk true 0 (AObj.cells [.imm (.int
 IntKind.u64 n0),.imm (.int IntKind.u64 n1),.imm (.int IntKind.u64 n2),.imm (.int IntKind.u64 n3),.imm (.int IntKind.u64 n4),.imm (.int IntKind.u64 n5),.imm (.int IntKind.u64 n6)])),(4,Ob.mk true 0 (AObj.cells [.imm (.bytes (Cu.d (advU (Cu.mk d p e a) (IntKind.wrap .i64 n1)))),.imm (.int .i64 (Cu.p (advU (Cu.mk d p e a) (IntKind.wrap .i64 n1)))),.imm (.int .i64 (Cu.e (advU (Cu.mk d p e a) (IntKind.wrap .i64 n1)))),.imm (.int .i64 (Cu.a (advU (Cu.mk d p e a) (IntKind.wrap .i64 n1))))])),(5,Ob.mk true 1 (AObj.row (IV.sl (1:Nat) (xs ++ [[IV.bytes (takeU (Cu.mk d p e a) (IntKind.wrap .i64 n1))]])))),(6,Ob.mk false 0 (AObj.row (IV.bytes (takeU (Cu.mk d p e a) (IntKind.wrap .i64 n1))))),(7,Ob.mk true 0 (AObj.cells [.imm (.bytes (Cu.d (advU (Cu.mk d p e a) (IntKind.wrap .i64 n1)))),.imm (.int .i64 (Cu.p (advU (Cu.mk d p e a) (IntKind.wrap .i64 n1)))),.imm (.int .i64 (Cu.e (advU (Cu.mk d p e a) (IntKind.wrap .i64 n1)))),.imm (.int .i64 (Cu.a (advU (Cu.mk d p e a) (IntKind.wrap .i64 n1))))]))] (8:Nat) []))∧okU (Cu.mk d p e a)∧(List.length xs + List.length [[IV.bytes (takeU (Cu.mk d p e a) (IntKind.wrap .i64 n1))]]) * 24≤140737488355328∧List.length xs +
 List.length [[IV.bytes (takeU (Cu.mk d p e a) (IntKind.wrap .i64 n1))]]≤140737488355328∧k AX.normal (St.mk (lapp [.dead,.dead,.imm (.int .i64 s),.imm (.int .i64 at')] (lapp (dN 4) (lapp [.ptr 0 0,.ptr 1 0,.ptr 2 0,.ptr 3 0,AV.row (5:Nat) (1:Nat),.ptr 4 0,.imm (.int .i64 2),.imm (.bytes (takeU (Cu.mk d p e a) (IntKind.wrap .i64 n1))),.ptr 6 0] (lapp (dN 29) (lapp [.imm (.int .i64 1),.imm (.bool true),.imm (.int .i64 1),.imm (.int .i64 2),.tup [AV.row (7:Nat) (0:Nat),.agg [.imm (.bytes (Cu.d (advU (Cu.mk d p e a) (IntKind.wrap .i64 n1)))),.imm (.int .i64 (Cu.p (advU (Cu.mk d p e a) (IntKind.wrap .i64 n1)))),.imm (.int .i64 (Cu.e (advU (Cu.mk d p e a) (IntKind.wrap .i64 n1)))),.imm (.int .i64 (Cu.a (advU (Cu.mk d p e a) (IntKind.wrap .i64 n1))))]],.agg [.imm (.bytes d),.imm (.int .i64 p),.imm (.int .i64 e),.imm (.int .i64 a)],.imm (.int .i64 1),.ptr 3 1,.imm (.int IntKind.u64 n1),.imm (.int .i64 (IntKind.wrap .i64 n1)),.tup [AV.row (7:Nat) (0:Nat),.agg [.imm (.bytes (Cu.d (advU (Cu.mk d p e a) (IntKind.wrap .i64 n1)))),.imm (.int .i64 (Cu.p (advU (Cu.mk d p e a) (IntKind.wrap .i64 n1)))),.imm (.int .i64 (Cu.e (advU (Cu.mk d p e a)
 (IntKind.wrap .i64 n1)))),.imm (.int .i64 (Cu.a (advU (Cu.mk d p e a) (IntKind.wrap .i64 n1))))]],.imm (.bytes (takeU (Cu.mk d p e a) (IntKind.wrap .i64 n1))),.agg [.imm (.bytes (Cu.d (advU (Cu.mk d p e a) (IntKind.wrap .i64 n1)))),.imm (.int .i64 (Cu.p (advU (Cu.mk d p e a) (IntKind.wrap .i64 n1)))),.imm (.int .i64 (Cu.e (advU (Cu.mk d p e a) (IntKind.wrap .i64 n1)))),.imm (.int .i64 (Cu.a (advU (Cu.mk d p e a) (IntKind.wrap .i64 n1))))],AV.row (5:Nat) (0:Nat),.imm (.bytes (takeU (Cu.mk d p e a) (IntKind.wrap .i64 n1))),.full (IV.sl (1:Nat) [[IV.bytes (takeU (Cu.mk d p e a) (IntKind.wrap .i64 n1))]]),AV.row (5:Nat) (1:Nat),.agg [.imm (.bytes (Cu.d (advU (Cu.mk d p e a) (IntKind.wrap .i64 n1)))),.imm (.int .i64 (Cu.p (advU (Cu.mk d p e a) (IntKind.wrap .i64 n1)))),.imm (.int .i64 (Cu.e (advU (Cu.mk d p e a) (IntKind.wrap .i64 n1)))),.imm (.int .i64 (Cu.a (advU (Cu.mk d p e a) (IntKind.wrap .i64 n1))))]] (dN 64)))))) [(0,Ob.mk true 0 (AObj.cells [.imm (.val (Value.slice none (0:Nat) (0:Nat))),.imm (.val (Value.slice none (0:Nat) (0:Nat))),.imm (.val (Value.slice none (0:Nat) (0:Nat))),.imm (.val (Value.slice none (0:Nat) (0:Nat))),.imm
 (.val (Value.slice none (0:Nat) (0:Nat))),.imm (.val (Value.slice none (0:Nat) (0:Nat))),.imm (.val (Value.slice none (0:Nat) (0:Nat)))])),(1,Ob.mk true 0 (AObj.cells [.imm (.val (Value.slice none (0:Nat) (0:Nat))),.imm (.int .i64 0),.imm (.int .i64 0),.imm (.int .i64 0)])),(2,Ob.mk true 0 (AObj.cells [.imm (.val (Value.slice none (0:Nat) (0:Nat))),.imm (.val (Value.slice none (0:Nat) (0:Nat))),.imm (.val (Value.slice none (0:Nat) (0:Nat))),.imm (.val (Value.slice none (0:Nat) (0:Nat))),.imm (.val (Value.slice none (0:Nat) (0:Nat))),.imm (.val (Value.slice none (0:Nat) (0:Nat))),.imm (.val (Value.slice none (0:Nat) (0:Nat)))])),(3,Ob.mk true 0 (AObj.cells [.imm (.int IntKind.u64 n0),.imm (.int IntKind.u64 n1),.imm (.int IntKind.u64 n2),.imm (.int IntKind.u64 n3),.imm (.int IntKind.u64 n4),.imm (.int IntKind.u64 n5),.imm (.int IntKind.u64 n6)])),(4,Ob.mk true 0 (AObj.cells [.imm (.bytes (Cu.d (advU (Cu.mk d p e a) (IntKind.wrap .i64 n1)))),.imm (.int .i64 (Cu.p (advU (Cu.mk d p e a) (IntKind.wrap .i64 n1)))),.imm (.int .i64 (Cu.e (advU (Cu.mk d p e a) (IntKind.wrap .i64 n1)))),.imm (.int .i64 (Cu.a (advU (Cu.mk d
 p e a) (IntKind.wrap .i64 n1))))])),(5,Ob.mk true 1 (AObj.row (IV.sl (1:Nat) (xs ++ [[IV.bytes (takeU (Cu.mk d p e a) (IntKind.wrap .i64 n1))]])))),(6,Ob.mk true 0 (AObj.cells [.imm (.bytes (Cu.d (advU (Cu.mk d p e a) (IntKind.wrap .i64 n1)))),.imm (.int .i64 (Cu.p (advU (Cu.mk d p e a) (IntKind.wrap .i64 n1)))),.imm (.int .i64 (Cu.e (advU (Cu.mk d p e a) (IntKind.wrap .i64 n1)))),.imm (.int .i64 (Cu.a (advU (Cu.mk d p e a) (IntKind.wrap .i64 n1))))])),(7,Ob.mk false 0 (AObj.row (IV.bytes (takeU (Cu.mk d p e a) (IntKind.wrap .i64 n1)))))] (8:Nat) [])):=by kernel_rfl
theorem f13_lp2 (n0:Int) (n1:Int) (n2:Int) (n3:Int) (n4:Int) (n5:Int) (n6:Int) (s:Int) (at':Int) (d:List UInt8) (p:Int) (e:Int) (a:Int) (xs:List (List IV)) (k:AX→St→Prop):evCode K3h (loopB (bodyOf Tryd.f13) (0:Nat)) (h13x n0 n1 n2 n3 n4 n5 n6 s at' d p e a xs (2:Int)) k = ((okU (Cu.mk d p e a)∧(List.length xs + List.length [[IV.bytes (takeU (Cu.mk d p e a) (IntKind.wrap .i64 n2))]]) * 24≤140737488355328∧List.length xs + List.length [[IV.bytes (takeU (Cu.mk d p e a) (IntKind.wrap .i64 n2))]]≤140737488355328∧k AX.normal (St.mk (lapp [.dead,.dead,.imm (.int .i64 s),.imm (.int .i64 at')] (lapp (dN 4) (lapp [.ptr 0 0,.ptr 1 0,.ptr 2 0,.ptr 3 0,AV.row (5:Nat) (1:Nat),.ptr 4 0,.imm (.int .i64 3),.imm (.bytes (takeU (Cu.mk d p e a) (IntKind.wrap .i64 n2))),.ptr 7 0] (lapp (dN 29) (lapp [.imm (.int .i64 2),.imm (.bool true),.imm (.int .i64 2),.imm (.int .i64 3),.tup [AV.row (6:Nat) (0:Nat),.agg [.imm (.bytes (Cu.d (advU (Cu.mk d p e a) (IntKind.wrap .i64 n2)))),.imm (.int .i64 (Cu.p (advU (Cu.mk d p e a) (IntKind.wrap .i64 n2)))),.imm (.int .i64 (Cu.e (advU (Cu.mk d p e a) (IntKind.wrap .i64 n2)))),.imm (.int .i64
 (Cu.a (advU (Cu.mk d p e a) (IntKind.wrap .i64 n2))))]],.agg [.imm (.bytes d),.imm (.int .i64 p),.imm (.int .i64 e),.imm (.int .i64 a)],.imm (.int .i64 2),.ptr 3 2,.imm (.int IntKind.u64 n2),.imm (.int .i64 (IntKind.wrap .i64 n2)),.tup [AV.row (6:Nat) (0:Nat),.agg [.imm (.bytes (Cu.d (advU (Cu.mk d p e a) (IntKind.wrap .i64 n2)))),.imm (.int .i64 (Cu.p (advU (Cu.mk d p e a) (IntKind.wrap .i64 n2)))),.imm (.int .i64 (Cu.e (advU (Cu.mk d p e a) (IntKind.wrap .i64 n2)))),.imm (.int .i64 (Cu.a (advU (Cu.mk d p e a) (IntKind.wrap .i64 n2))))]],.imm (.bytes (takeU (Cu.mk d p e a) (IntKind.wrap .i64 n2))),.agg [.imm (.bytes (Cu.d (advU (Cu.mk d p e a) (IntKind.wrap .i64 n2)))),.imm (.int .i64 (Cu.p (advU (Cu.mk d p e a) (IntKind.wrap .i64 n2)))),.imm (.int .i64 (Cu.e (advU (Cu.mk d p e a) (IntKind.wrap .i64 n2)))),.imm (.int .i64 (Cu.a (advU (Cu.mk d p e a) (IntKind.wrap .i64 n2))))],AV.row (5:Nat) (0:Nat),.imm (.bytes (takeU (Cu.mk d p e a) (IntKind.wrap .i64 n2))),.full (IV.sl (1:Nat) [[IV.bytes (takeU (Cu.mk d p e a) (IntKind.wrap .i64 n2))]]),AV.row (5:Nat) (1:Nat),.agg [.imm (.bytes (Cu.d (advU (Cu.mk d p e a) (IntKind.wrap .i64 n2)))),.imm (.int
 .i64 (Cu.p (advU (Cu.mk d p e a) (IntKind.wrap .i64 n2)))),.imm (.int .i64 (Cu.e (advU (Cu.mk d p e a) (IntKind.wrap .i64 n2)))),.imm (.int .i64 (Cu.a (advU (Cu.mk d p e a) (IntKind.wrap .i64 n2))))]] (dN 64)))))) [(0,Ob.mk true 0 (AObj.cells [.imm (.val (Value.slice none (0:Nat) (0:Nat))),.imm (.val (Value.slice none (0:Nat) (0:Nat))),.imm (.val (Value.slice none (0:Nat) (0:Nat))),.imm (.val (Value.slice none (0:Nat) (0:Nat))),.imm (.val (Value.slice none (0:Nat) (0:Nat))),.imm (.val (Value.slice none (0:Nat) (0:Nat))),.imm (.val (Value.slice none (0:Nat) (0:Nat)))])),(1,Ob.mk true 0 (AObj.cells [.imm (.val (Value.slice none (0:Nat) (0:Nat))),.imm (.int .i64 0),.imm (.int .i64 0),.imm (.int .i64 0)])),(2,Ob.mk true 0 (AObj.cells [.imm (.val (Value.slice none (0:Nat) (0:Nat))),.imm (.val (Value.slice none (0:Nat) (0:Nat))),.imm (.val (Value.slice none (0:Nat) (0:Nat))),.imm (.val (Value.slice none (0:Nat) (0:Nat))),.imm (.val (Value.slice none (0:Nat) (0:Nat))),.imm (.val (Value.slice none (0:Nat) (0:Nat))),.imm (.val (Value.slice none (0:Nat) (0:Nat)))])),(3,Ob.mk true 0 (AObj.cells [.imm (.int
 IntKind.u64 n0),.imm (.int IntKind.u64 n1),.imm (.int IntKind.u64 n2),.imm (.int IntKind.u64 n3),.imm (.int IntKind.u64 n4),.imm (.int IntKind.u64 n5),.imm (.int IntKind.u64 n6)])),(4,Ob.mk true 0 (AObj.cells [.imm (.bytes (Cu.d (advU (Cu.mk d p e a) (IntKind.wrap .i64 n2)))),.imm (.int .i64 (Cu.p (advU (Cu.mk d p e a) (IntKind.wrap .i64 n2)))),.imm (.int .i64 (Cu.e (advU (Cu.mk d p e a) (IntKind.wrap .i64 n2)))),.imm (.int .i64 (Cu.a (advU (Cu.mk d p e a) (IntKind.wrap .i64 n2))))])),(5,Ob.mk true 1 (AObj.row (IV.sl (1:Nat) (xs ++ [[IV.bytes (takeU (Cu.mk d p e a) (IntKind.wrap .i64 n2))]])))),(6,Ob.mk false 0 (AObj.row (IV.bytes (takeU (Cu.mk d p e a) (IntKind.wrap .i64 n2))))),(7,Ob.mk true 0 (AObj.cells [.imm (.bytes (Cu.d (advU (Cu.mk d p e a) (IntKind.wrap .i64 n2)))),.imm (.int .i64 (Cu.p (advU (Cu.mk d p e a) (IntKind.wrap .i64 n2)))),.imm (.int .i64 (Cu.e (advU (Cu.mk d p e a) (IntKind.wrap .i64 n2)))),.imm (.int .i64 (Cu.a (advU (Cu.mk d p e a) (IntKind.wrap .i64 n2))))]))] (8:Nat) []))∧okU (Cu.mk d p e a)∧(List.length xs + List.length [[IV.bytes (takeU (Cu.mk d p e a) (IntKind.wrap .i64 n2))]]) * 24≤140737488355328∧List.length xs +
 List.length [[IV.bytes (takeU (Cu.mk d p e a) (IntKind.wrap .i64 n2))]]≤140737488355328∧k AX.normal (St.mk (lapp [.dead,.dead,.imm (.int .i64 s),.imm (.int .i64 at')] (lapp (dN 4) (lapp [.ptr 0 0,.ptr 1 0,.ptr 2 0,.ptr 3 0,AV.row (5:Nat) (1:Nat),.ptr 4 0,.imm (.int .i64 3),.imm (.bytes (takeU (Cu.mk d p e a) (IntKind.wrap .i64 n2))),.ptr 6 0] (lapp (dN 29) (lapp [.imm (.int .i64 2),.imm (.bool true),.imm (.int .i64 2),.imm (.int .i64 3),.tup [AV.row (7:Nat) (0:Nat),.agg [.imm (.bytes (Cu.d (advU (Cu.mk d p e a) (IntKind.wrap .i64 n2)))),.imm (.int .i64 (Cu.p (advU (Cu.mk d p e a) (IntKind.wrap .i64 n2)))),.imm (.int .i64 (Cu.e (advU (Cu.mk d p e a) (IntKind.wrap .i64 n2)))),.imm (.int .i64 (Cu.a (advU (Cu.mk d p e a) (IntKind.wrap .i64 n2))))]],.agg [.imm (.bytes d),.imm (.int .i64 p),.imm (.int .i64 e),.imm (.int .i64 a)],.imm (.int .i64 2),.ptr 3 2,.imm (.int IntKind.u64 n2),.imm (.int .i64 (IntKind.wrap .i64 n2)),.tup [AV.row (7:Nat) (0:Nat),.agg [.imm (.bytes (Cu.d (advU (Cu.mk d p e a) (IntKind.wrap .i64 n2)))),.imm (.int .i64 (Cu.p (advU (Cu.mk d p e a) (IntKind.wrap .i64 n2)))),.imm (.int .i64 (Cu.e (advU (Cu.mk d p e a)
 (IntKind.wrap .i64 n2)))),.imm (.int .i64 (Cu.a (advU (Cu.mk d p e a) (IntKind.wrap .i64 n2))))]],.imm (.bytes (takeU (Cu.mk d p e a) (IntKind.wrap .i64 n2))),.agg [.imm (.bytes (Cu.d (advU (Cu.mk d p e a) (IntKind.wrap .i64 n2)))),.imm (.int .i64 (Cu.p (advU (Cu.mk d p e a) (IntKind.wrap .i64 n2)))),.imm (.int .i64 (Cu.e (advU (Cu.mk d p e a) (IntKind.wrap .i64 n2)))),.imm (.int .i64 (Cu.a (advU (Cu.mk d p e a) (IntKind.wrap .i64 n2))))],AV.row (5:Nat) (0:Nat),.imm (.bytes (takeU (Cu.mk d p e a) (IntKind.wrap .i64 n2))),.full (IV.sl (1:Nat) [[IV.bytes (takeU (Cu.mk d p e a) (IntKind.wrap .i64 n2))]]),AV.row (5:Nat) (1:Nat),.agg [.imm (.bytes (Cu.d (advU (Cu.mk d p e a) (IntKind.wrap .i64 n2)))),.imm (.int .i64 (Cu.p (advU (Cu.mk d p e a) (IntKind.wrap .i64 n2)))),.imm (.int .i64 (Cu.e (advU (Cu.mk d p e a) (IntKind.wrap .i64 n2)))),.imm (.int .i64 (Cu.a (advU (Cu.mk d p e a) (IntKind.wrap .i64 n2))))]] (dN 64)))))) [(0,Ob.mk true 0 (AObj.cells [.imm (.val (Value.slice none (0:Nat) (0:Nat))),.imm (.val (Value.slice none (0:Nat) (0:Nat))),.imm (.val (Value.slice none (0:Nat) (0:Nat))),.imm (.val (Value.slice none (0:Nat) (0:Nat))),.imm
 (.val (Value.slice none (0:Nat) (0:Nat))),.imm (.val (Value.slice none (0:Nat) (0:Nat))),.imm (.val (Value.slice none (0:Nat) (0:Nat)))])),(1,Ob.mk true 0 (AObj.cells [.imm (.val (Value.slice none (0:Nat) (0:Nat))),.imm (.int .i64 0),.imm (.int .i64 0),.imm (.int .i64 0)])),(2,Ob.mk true 0 (AObj.cells [.imm (.val (Value.slice none (0:Nat) (0:Nat))),.imm (.val (Value.slice none (0:Nat) (0:Nat))),.imm (.val (Value.slice none (0:Nat) (0:Nat))),.imm (.val (Value.slice none (0:Nat) (0:Nat))),.imm (.val (Value.slice none (0:Nat) (0:Nat))),.imm (.val (Value.slice none (0:Nat) (0:Nat))),.imm (.val (Value.slice none (0:Nat) (0:Nat)))])),(3,Ob.mk true 0 (AObj.cells [.imm (.int IntKind.u64 n0),.imm (.int IntKind.u64 n1),.imm (.int IntKind.u64 n2),.imm (.int IntKind.u64 n3),.imm (.int IntKind.u64 n4),.imm (.int IntKind.u64 n5),.imm (.int IntKind.u64 n6)])),(4,Ob.mk true 0 (AObj.cells [.imm (.bytes (Cu.d (advU (Cu.mk d p e a) (IntKind.wrap .i64 n2)))),.imm (.int .i64 (Cu.p (advU (Cu.mk d p e a) (IntKind.wrap .i64 n2)))),.imm (.int .i64 (Cu.e (advU (Cu.mk d p e a) (IntKind.wrap .i64 n2)))),.imm (.int .i64 (Cu.a (advU (Cu.mk d
 p e a) (IntKind.wrap .i64 n2))))])),(5,Ob.mk true 1 (AObj.row (IV.sl (1:Nat) (xs ++ [[IV.bytes (takeU (Cu.mk d p e a) (IntKind.wrap .i64 n2))]])))),(6,Ob.mk true 0 (AObj.cells [.imm (.bytes (Cu.d (advU (Cu.mk d p e a) (IntKind.wrap .i64 n2)))),.imm (.int .i64 (Cu.p (advU (Cu.mk d p e a) (IntKind.wrap .i64 n2)))),.imm (.int .i64 (Cu.e (advU (Cu.mk d p e a) (IntKind.wrap .i64 n2)))),.imm (.int .i64 (Cu.a (advU (Cu.mk d p e a) (IntKind.wrap .i64 n2))))])),(7,Ob.mk false 0 (AObj.row (IV.bytes (takeU (Cu.mk d p e a) (IntKind.wrap .i64 n2)))))] (8:Nat) [])):=by kernel_rfl
theorem f13_lp3 (n0:Int) (n1:Int) (n2:Int) (n3:Int) (n4:Int) (n5:Int) (n6:Int) (s:Int) (at':Int) (d:List UInt8) (p:Int) (e:Int) (a:Int) (xs:List (List IV)) (k:AX→St→Prop):evCode K3h (loopB (bodyOf Tryd.f13) (0:Nat)) (h13x n0 n1 n2 n3 n4 n5 n6 s at' d p e a xs (3:Int)) k = ((okU (Cu.mk d p e a)∧(List.length xs + List.length [[IV.bytes (takeU (Cu.mk d p e a) (IntKind.wrap .i64 n3))]]) * 24≤140737488355328∧List.length xs + List.length [[IV.bytes (takeU (Cu.mk d p e a) (IntKind.wrap .i64 n3))]]≤140737488355328∧k AX.normal (St.mk (lapp [.dead,.dead,.imm (.int .i64 s),.imm (.int .i64 at')] (lapp (dN 4) (lapp [.ptr 0 0,.ptr 1 0,.ptr 2 0,.ptr 3 0,AV.row (5:Nat) (1:Nat),.ptr 4 0,.imm (.int .i64 4),.imm (.bytes (takeU (Cu.mk d p e a) (IntKind.wrap .i64 n3))),.ptr 7 0] (lapp (dN 29) (lapp [.imm (.int .i64 3),.imm (.bool true),.imm (.int .i64 3),.imm (.int .i64 4),.tup [AV.row (6:Nat) (0:Nat),.agg [.imm (.bytes (Cu.d (advU (Cu.mk d p e a) (IntKind.wrap .i64 n3)))),.imm (.int .i64 (Cu.p (advU (Cu.mk d p e a) (IntKind.wrap .i64 n3)))),.imm (.int .i64 (Cu.e (advU (Cu.mk d p e a) (IntKind.wrap .i64 n3)))),.imm (.int .i64
 (Cu.a (advU (Cu.mk d p e a) (IntKind.wrap .i64 n3))))]],.agg [.imm (.bytes d),.imm (.int .i64 p),.imm (.int .i64 e),.imm (.int .i64 a)],.imm (.int .i64 3),.ptr 3 3,.imm (.int IntKind.u64 n3),.imm (.int .i64 (IntKind.wrap .i64 n3)),.tup [AV.row (6:Nat) (0:Nat),.agg [.imm (.bytes (Cu.d (advU (Cu.mk d p e a) (IntKind.wrap .i64 n3)))),.imm (.int .i64 (Cu.p (advU (Cu.mk d p e a) (IntKind.wrap .i64 n3)))),.imm (.int .i64 (Cu.e (advU (Cu.mk d p e a) (IntKind.wrap .i64 n3)))),.imm (.int .i64 (Cu.a (advU (Cu.mk d p e a) (IntKind.wrap .i64 n3))))]],.imm (.bytes (takeU (Cu.mk d p e a) (IntKind.wrap .i64 n3))),.agg [.imm (.bytes (Cu.d (advU (Cu.mk d p e a) (IntKind.wrap .i64 n3)))),.imm (.int .i64 (Cu.p (advU (Cu.mk d p e a) (IntKind.wrap .i64 n3)))),.imm (.int .i64 (Cu.e (advU (Cu.mk d p e a) (IntKind.wrap .i64 n3)))),.imm (.int .i64 (Cu.a (advU (Cu.mk d p e a) (IntKind.wrap .i64 n3))))],AV.row (5:Nat) (0:Nat),.imm (.bytes (takeU (Cu.mk d p e a) (IntKind.wrap .i64 n3))),.full (IV.sl (1:Nat) [[IV.bytes (takeU (Cu.mk d p e a) (IntKind.wrap .i64 n3))]]),AV.row (5:Nat) (1:Nat),.agg [.imm (.bytes (Cu.d (advU (Cu.mk d p e a) (IntKind.wrap .i64 n3)))),.imm (.int
 .i64 (Cu.p (advU (Cu.mk d p e a) (IntKind.wrap .i64 n3)))),.imm (.int .i64 (Cu.e (advU (Cu.mk d p e a) (IntKind.wrap .i64 n3)))),.imm (.int .i64 (Cu.a (advU (Cu.mk d p e a) (IntKind.wrap .i64 n3))))]] (dN 64)))))) [(0,Ob.mk true 0 (AObj.cells [.imm (.val (Value.slice none (0:Nat) (0:Nat))),.imm (.val (Value.slice none (0:Nat) (0:Nat))),.imm (.val (Value.slice none (0:Nat) (0:Nat))),.imm (.val (Value.slice none (0:Nat) (0:Nat))),.imm (.val (Value.slice none (0:Nat) (0:Nat))),.imm (.val (Value.slice none (0:Nat) (0:Nat))),.imm (.val (Value.slice none (0:Nat) (0:Nat)))])),(1,Ob.mk true 0 (AObj.cells [.imm (.val (Value.slice none (0:Nat) (0:Nat))),.imm (.int .i64 0),.imm (.int .i64 0),.imm (.int .i64 0)])),(2,Ob.mk true 0 (AObj.cells [.imm (.val (Value.slice none (0:Nat) (0:Nat))),.imm (.val (Value.slice none (0:Nat) (0:Nat))),.imm (.val (Value.slice none (0:Nat) (0:Nat))),.imm (.val (Value.slice none (0:Nat) (0:Nat))),.imm (.val (Value.slice none (0:Nat) (0:Nat))),.imm (.val (Value.slice none (0:Nat) (0:Nat))),.imm (.val (Value.slice none (0:Nat) (0:Nat)))])),(3,Ob.mk true 0 (AObj.cells [.imm (.int
 IntKind.u64 n0),.imm (.int IntKind.u64 n1),.imm (.int IntKind.u64 n2),.imm (.int IntKind.u64 n3),.imm (.int IntKind.u64 n4),.imm (.int IntKind.u64 n5),.imm (.int IntKind.u64 n6)])),(4,Ob.mk true 0 (AObj.cells [.imm (.bytes (Cu.d (advU (Cu.mk d p e a) (IntKind.wrap .i64 n3)))),.imm (.int .i64 (Cu.p (advU (Cu.mk d p e a) (IntKind.wrap .i64 n3)))),.imm (.int .i64 (Cu.e (advU (Cu.mk d p e a) (IntKind.wrap .i64 n3)))),.imm (.int .i64 (Cu.a (advU (Cu.mk d p e a) (IntKind.wrap .i64 n3))))])),(5,Ob.mk true 1 (AObj.row (IV.sl (1:Nat) (xs ++ [[IV.bytes (takeU (Cu.mk d p e a) (IntKind.wrap .i64 n3))]])))),(6,Ob.mk false 0 (AObj.row (IV.bytes (takeU (Cu.mk d p e a) (IntKind.wrap .i64 n3))))),(7,Ob.mk true 0 (AObj.cells [.imm (.bytes (Cu.d (advU (Cu.mk d p e a) (IntKind.wrap .i64 n3)))),.imm (.int .i64 (Cu.p (advU (Cu.mk d p e a) (IntKind.wrap .i64 n3)))),.imm (.int .i64 (Cu.e (advU (Cu.mk d p e a) (IntKind.wrap .i64 n3)))),.imm (.int .i64 (Cu.a (advU (Cu.mk d p e a) (IntKind.wrap .i64 n3))))]))] (8:Nat) []))∧okU (Cu.mk d p e a)∧(List.length xs + List.length [[IV.bytes (takeU (Cu.mk d p e a) (IntKind.wrap .i64 n3))]]) * 24≤140737488355328∧List.length xs +
 List.length [[IV.bytes (takeU (Cu.mk d p e a) (IntKind.wrap .i64 n3))]]≤140737488355328∧k AX.normal (St.mk (lapp [.dead,.dead,.imm (.int .i64 s),.imm (.int .i64 at')] (lapp (dN 4) (lapp [.ptr 0 0,.ptr 1 0,.ptr 2 0,.ptr 3 0,AV.row (5:Nat) (1:Nat),.ptr 4 0,.imm (.int .i64 4),.imm (.bytes (takeU (Cu.mk d p e a) (IntKind.wrap .i64 n3))),.ptr 6 0] (lapp (dN 29) (lapp [.imm (.int .i64 3),.imm (.bool true),.imm (.int .i64 3),.imm (.int .i64 4),.tup [AV.row (7:Nat) (0:Nat),.agg [.imm (.bytes (Cu.d (advU (Cu.mk d p e a) (IntKind.wrap .i64 n3)))),.imm (.int .i64 (Cu.p (advU (Cu.mk d p e a) (IntKind.wrap .i64 n3)))),.imm (.int .i64 (Cu.e (advU (Cu.mk d p e a) (IntKind.wrap .i64 n3)))),.imm (.int .i64 (Cu.a (advU (Cu.mk d p e a) (IntKind.wrap .i64 n3))))]],.agg [.imm (.bytes d),.imm (.int .i64 p),.imm (.int .i64 e),.imm (.int .i64 a)],.imm (.int .i64 3),.ptr 3 3,.imm (.int IntKind.u64 n3),.imm (.int .i64 (IntKind.wrap .i64 n3)),.tup [AV.row (7:Nat) (0:Nat),.agg [.imm (.bytes (Cu.d (advU (Cu.mk d p e a) (IntKind.wrap .i64 n3)))),.imm (.int .i64 (Cu.p (advU (Cu.mk d p e a) (IntKind.wrap .i64 n3)))),.imm (.int .i64 (Cu.e (advU (Cu.mk d p e a)
 (IntKind.wrap .i64 n3)))),.imm (.int .i64 (Cu.a (advU (Cu.mk d p e a) (IntKind.wrap .i64 n3))))]],.imm (.bytes (takeU (Cu.mk d p e a) (IntKind.wrap .i64 n3))),.agg [.imm (.bytes (Cu.d (advU (Cu.mk d p e a) (IntKind.wrap .i64 n3)))),.imm (.int .i64 (Cu.p (advU (Cu.mk d p e a) (IntKind.wrap .i64 n3)))),.imm (.int .i64 (Cu.e (advU (Cu.mk d p e a) (IntKind.wrap .i64 n3)))),.imm (.int .i64 (Cu.a (advU (Cu.mk d p e a) (IntKind.wrap .i64 n3))))],AV.row (5:Nat) (0:Nat),.imm (.bytes (takeU (Cu.mk d p e a) (IntKind.wrap .i64 n3))),.full (IV.sl (1:Nat) [[IV.bytes (takeU (Cu.mk d p e a) (IntKind.wrap .i64 n3))]]),AV.row (5:Nat) (1:Nat),.agg [.imm (.bytes (Cu.d (advU (Cu.mk d p e a) (IntKind.wrap .i64 n3)))),.imm (.int .i64 (Cu.p (advU (Cu.mk d p e a) (IntKind.wrap .i64 n3)))),.imm (.int .i64 (Cu.e (advU (Cu.mk d p e a) (IntKind.wrap .i64 n3)))),.imm (.int .i64 (Cu.a (advU (Cu.mk d p e a) (IntKind.wrap .i64 n3))))]] (dN 64)))))) [(0,Ob.mk true 0 (AObj.cells [.imm (.val (Value.slice none (0:Nat) (0:Nat))),.imm (.val (Value.slice none (0:Nat) (0:Nat))),.imm (.val (Value.slice none (0:Nat) (0:Nat))),.imm (.val (Value.slice none (0:Nat) (0:Nat))),.imm
 (.val (Value.slice none (0:Nat) (0:Nat))),.imm (.val (Value.slice none (0:Nat) (0:Nat))),.imm (.val (Value.slice none (0:Nat) (0:Nat)))])),(1,Ob.mk true 0 (AObj.cells [.imm (.val (Value.slice none (0:Nat) (0:Nat))),.imm (.int .i64 0),.imm (.int .i64 0),.imm (.int .i64 0)])),(2,Ob.mk true 0 (AObj.cells [.imm (.val (Value.slice none (0:Nat) (0:Nat))),.imm (.val (Value.slice none (0:Nat) (0:Nat))),.imm (.val (Value.slice none (0:Nat) (0:Nat))),.imm (.val (Value.slice none (0:Nat) (0:Nat))),.imm (.val (Value.slice none (0:Nat) (0:Nat))),.imm (.val (Value.slice none (0:Nat) (0:Nat))),.imm (.val (Value.slice none (0:Nat) (0:Nat)))])),(3,Ob.mk true 0 (AObj.cells [.imm (.int IntKind.u64 n0),.imm (.int IntKind.u64 n1),.imm (.int IntKind.u64 n2),.imm (.int IntKind.u64 n3),.imm (.int IntKind.u64 n4),.imm (.int IntKind.u64 n5),.imm (.int IntKind.u64 n6)])),(4,Ob.mk true 0 (AObj.cells [.imm (.bytes (Cu.d (advU (Cu.mk d p e a) (IntKind.wrap .i64 n3)))),.imm (.int .i64 (Cu.p (advU (Cu.mk d p e a) (IntKind.wrap .i64 n3)))),.imm (.int .i64 (Cu.e (advU (Cu.mk d p e a) (IntKind.wrap .i64 n3)))),.imm (.int .i64 (Cu.a (advU (Cu.mk d
 p e a) (IntKind.wrap .i64 n3))))])),(5,Ob.mk true 1 (AObj.row (IV.sl (1:Nat) (xs ++ [[IV.bytes (takeU (Cu.mk d p e a) (IntKind.wrap .i64 n3))]])))),(6,Ob.mk true 0 (AObj.cells [.imm (.bytes (Cu.d (advU (Cu.mk d p e a) (IntKind.wrap .i64 n3)))),.imm (.int .i64 (Cu.p (advU (Cu.mk d p e a) (IntKind.wrap .i64 n3)))),.imm (.int .i64 (Cu.e (advU (Cu.mk d p e a) (IntKind.wrap .i64 n3)))),.imm (.int .i64 (Cu.a (advU (Cu.mk d p e a) (IntKind.wrap .i64 n3))))])),(7,Ob.mk false 0 (AObj.row (IV.bytes (takeU (Cu.mk d p e a) (IntKind.wrap .i64 n3)))))] (8:Nat) [])):=by kernel_rfl
theorem f13_lp4 (n0:Int) (n1:Int) (n2:Int) (n3:Int) (n4:Int) (n5:Int) (n6:Int) (s:Int) (at':Int) (d:List UInt8) (p:Int) (e:Int) (a:Int) (xs:List (List IV)) (k:AX→St→Prop):evCode K3h (loopB (bodyOf Tryd.f13) (0:Nat)) (h13x n0 n1 n2 n3 n4 n5 n6 s at' d p e a xs (4:Int)) k = ((okU (Cu.mk d p e a)∧(List.length xs + List.length [[IV.bytes (takeU (Cu.mk d p e a) (IntKind.wrap .i64 n4))]]) * 24≤140737488355328∧List.length xs + List.length [[IV.bytes (takeU (Cu.mk d p e a) (IntKind.wrap .i64 n4))]]≤140737488355328∧k AX.normal (St.mk (lapp [.dead,.dead,.imm (.int .i64 s),.imm (.int .i64 at')] (lapp (dN 4) (lapp [.ptr 0 0,.ptr 1 0,.ptr 2 0,.ptr 3 0,AV.row (5:Nat) (1:Nat),.ptr 4 0,.imm (.int .i64 5),.imm (.bytes (takeU (Cu.mk d p e a) (IntKind.wrap .i64 n4))),.ptr 7 0] (lapp (dN 29) (lapp [.imm (.int .i64 4),.imm (.bool true),.imm (.int .i64 4),.imm (.int .i64 5),.tup [AV.row (6:Nat) (0:Nat),.agg [.imm (.bytes (Cu.d (advU (Cu.mk d p e a) (IntKind.wrap .i64 n4)))),.imm (.int .i64 (Cu.p (advU (Cu.mk d p e a) (IntKind.wrap .i64 n4)))),.imm (.int .i64 (Cu.e (advU (Cu.mk d p e a) (IntKind.wrap .i64 n4)))),.imm (.int .i64
 (Cu.a (advU (Cu.mk d p e a) (IntKind.wrap .i64 n4))))]],.agg [.imm (.bytes d),.imm (.int .i64 p),.imm (.int .i64 e),.imm (.int .i64 a)],.imm (.int .i64 4),.ptr 3 4,.imm (.int IntKind.u64 n4),.imm (.int .i64 (IntKind.wrap .i64 n4)),.tup [AV.row (6:Nat) (0:Nat),.agg [.imm (.bytes (Cu.d (advU (Cu.mk d p e a) (IntKind.wrap .i64 n4)))),.imm (.int .i64 (Cu.p (advU (Cu.mk d p e a) (IntKind.wrap .i64 n4)))),.imm (.int .i64 (Cu.e (advU (Cu.mk d p e a) (IntKind.wrap .i64 n4)))),.imm (.int .i64 (Cu.a (advU (Cu.mk d p e a) (IntKind.wrap .i64 n4))))]],.imm (.bytes (takeU (Cu.mk d p e a) (IntKind.wrap .i64 n4))),.agg [.imm (.bytes (Cu.d (advU (Cu.mk d p e a) (IntKind.wrap .i64 n4)))),.imm (.int .i64 (Cu.p (advU (Cu.mk d p e a) (IntKind.wrap .i64 n4)))),.imm (.int .i64 (Cu.e (advU (Cu.mk d p e a) (IntKind.wrap .i64 n4)))),.imm (.int .i64 (Cu.a (advU (Cu.mk d p e a) (IntKind.wrap .i64 n4))))],AV.row (5:Nat) (0:Nat),.imm (.bytes (takeU (Cu.mk d p e a) (IntKind.wrap .i64 n4))),.full (IV.sl (1:Nat) [[IV.bytes (takeU (Cu.mk d p e a) (IntKind.wrap .i64 n4))]]),AV.row (5:Nat) (1:Nat),.agg [.imm (.bytes (Cu.d (advU (Cu.mk d p e a) (IntKind.wrap .i64 n4)))),.imm (.int
 .i64 (Cu.p (advU (Cu.mk d p e a) (IntKind.wrap .i64 n4)))),.imm (.int .i64 (Cu.e (advU (Cu.mk d p e a) (IntKind.wrap .i64 n4)))),.imm (.int .i64 (Cu.a (advU (Cu.mk d p e a) (IntKind.wrap .i64 n4))))]] (dN 64)))))) [(0,Ob.mk true 0 (AObj.cells [.imm (.val (Value.slice none (0:Nat) (0:Nat))),.imm (.val (Value.slice none (0:Nat) (0:Nat))),.imm (.val (Value.slice none (0:Nat) (0:Nat))),.imm (.val (Value.slice none (0:Nat) (0:Nat))),.imm (.val (Value.slice none (0:Nat) (0:Nat))),.imm (.val (Value.slice none (0:Nat) (0:Nat))),.imm (.val (Value.slice none (0:Nat) (0:Nat)))])),(1,Ob.mk true 0 (AObj.cells [.imm (.val (Value.slice none (0:Nat) (0:Nat))),.imm (.int .i64 0),.imm (.int .i64 0),.imm (.int .i64 0)])),(2,Ob.mk true 0 (AObj.cells [.imm (.val (Value.slice none (0:Nat) (0:Nat))),.imm (.val (Value.slice none (0:Nat) (0:Nat))),.imm (.val (Value.slice none (0:Nat) (0:Nat))),.imm (.val (Value.slice none (0:Nat) (0:Nat))),.imm (.val (Value.slice none (0:Nat) (0:Nat))),.imm (.val (Value.slice none (0:Nat) (0:Nat))),.imm (.val (Value.slice none (0:Nat) (0:Nat)))])),(3,Ob.mk true 0 (AObj.cells [.imm (.int
 IntKind.u64 n0),.imm (.int IntKind.u64 n1),.imm (.int IntKind.u64 n2),.imm (.int IntKind.u64 n3),.imm (.int IntKind.u64 n4),.imm (.int IntKind.u64 n5),.imm (.int IntKind.u64 n6)])),(4,Ob.mk true 0 (AObj.cells [.imm (.bytes (Cu.d (advU (Cu.mk d p e a) (IntKind.wrap .i64 n4)))),.imm (.int .i64 (Cu.p (advU (Cu.mk d p e a) (IntKind.wrap .i64 n4)))),.imm (.int .i64 (Cu.e (advU (Cu.mk d p e a) (IntKind.wrap .i64 n4)))),.imm (.int .i64 (Cu.a (advU (Cu.mk d p e a) (IntKind.wrap .i64 n4))))])),(5,Ob.mk true 1 (AObj.row (IV.sl (1:Nat) (xs ++ [[IV.bytes (takeU (Cu.mk d p e a) (IntKind.wrap .i64 n4))]])))),(6,Ob.mk false 0 (AObj.row (IV.bytes (takeU (Cu.mk d p e a) (IntKind.wrap .i64 n4))))),(7,Ob.mk true 0 (AObj.cells [.imm (.bytes (Cu.d (advU (Cu.mk d p e a) (IntKind.wrap .i64 n4)))),.imm (.int .i64 (Cu.p (advU (Cu.mk d p e a) (IntKind.wrap .i64 n4)))),.imm (.int .i64 (Cu.e (advU (Cu.mk d p e a) (IntKind.wrap .i64 n4)))),.imm (.int .i64 (Cu.a (advU (Cu.mk d p e a) (IntKind.wrap .i64 n4))))]))] (8:Nat) []))∧okU (Cu.mk d p e a)∧(List.length xs + List.length [[IV.bytes (takeU (Cu.mk d p e a) (IntKind.wrap .i64 n4))]]) * 24≤140737488355328∧List.length xs +
 List.length [[IV.bytes (takeU (Cu.mk d p e a) (IntKind.wrap .i64 n4))]]≤140737488355328∧k AX.normal (St.mk (lapp [.dead,.dead,.imm (.int .i64 s),.imm (.int .i64 at')] (lapp (dN 4) (lapp [.ptr 0 0,.ptr 1 0,.ptr 2 0,.ptr 3 0,AV.row (5:Nat) (1:Nat),.ptr 4 0,.imm (.int .i64 5),.imm (.bytes (takeU (Cu.mk d p e a) (IntKind.wrap .i64 n4))),.ptr 6 0] (lapp (dN 29) (lapp [.imm (.int .i64 4),.imm (.bool true),.imm (.int .i64 4),.imm (.int .i64 5),.tup [AV.row (7:Nat) (0:Nat),.agg [.imm (.bytes (Cu.d (advU (Cu.mk d p e a) (IntKind.wrap .i64 n4)))),.imm (.int .i64 (Cu.p (advU (Cu.mk d p e a) (IntKind.wrap .i64 n4)))),.imm (.int .i64 (Cu.e (advU (Cu.mk d p e a) (IntKind.wrap .i64 n4)))),.imm (.int .i64 (Cu.a (advU (Cu.mk d p e a) (IntKind.wrap .i64 n4))))]],.agg [.imm (.bytes d),.imm (.int .i64 p),.imm (.int .i64 e),.imm (.int .i64 a)],.imm (.int .i64 4),.ptr 3 4,.imm (.int IntKind.u64 n4),.imm (.int .i64 (IntKind.wrap .i64 n4)),.tup [AV.row (7:Nat) (0:Nat),.agg [.imm (.bytes (Cu.d (advU (Cu.mk d p e a) (IntKind.wrap .i64 n4)))),.imm (.int .i64 (Cu.p (advU (Cu.mk d p e a) (IntKind.wrap .i64 n4)))),.imm (.int .i64 (Cu.e (advU (Cu.mk d p e a)
 (IntKind.wrap .i64 n4)))),.imm (.int .i64 (Cu.a (advU (Cu.mk d p e a) (IntKind.wrap .i64 n4))))]],.imm (.bytes (takeU (Cu.mk d p e a) (IntKind.wrap .i64 n4))),.agg [.imm (.bytes (Cu.d (advU (Cu.mk d p e a) (IntKind.wrap .i64 n4)))),.imm (.int .i64 (Cu.p (advU (Cu.mk d p e a) (IntKind.wrap .i64 n4)))),.imm (.int .i64 (Cu.e (advU (Cu.mk d p e a) (IntKind.wrap .i64 n4)))),.imm (.int .i64 (Cu.a (advU (Cu.mk d p e a) (IntKind.wrap .i64 n4))))],AV.row (5:Nat) (0:Nat),.imm (.bytes (takeU (Cu.mk d p e a) (IntKind.wrap .i64 n4))),.full (IV.sl (1:Nat) [[IV.bytes (takeU (Cu.mk d p e a) (IntKind.wrap .i64 n4))]]),AV.row (5:Nat) (1:Nat),.agg [.imm (.bytes (Cu.d (advU (Cu.mk d p e a) (IntKind.wrap .i64 n4)))),.imm (.int .i64 (Cu.p (advU (Cu.mk d p e a) (IntKind.wrap .i64 n4)))),.imm (.int .i64 (Cu.e (advU (Cu.mk d p e a) (IntKind.wrap .i64 n4)))),.imm (.int .i64 (Cu.a (advU (Cu.mk d p e a) (IntKind.wrap .i64 n4))))]] (dN 64)))))) [(0,Ob.mk true 0 (AObj.cells [.imm (.val (Value.slice none (0:Nat) (0:Nat))),.imm (.val (Value.slice none (0:Nat) (0:Nat))),.imm (.val (Value.slice none (0:Nat) (0:Nat))),.imm (.val (Value.slice none (0:Nat) (0:Nat))),.imm
 (.val (Value.slice none (0:Nat) (0:Nat))),.imm (.val (Value.slice none (0:Nat) (0:Nat))),.imm (.val (Value.slice none (0:Nat) (0:Nat)))])),(1,Ob.mk true 0 (AObj.cells [.imm (.val (Value.slice none (0:Nat) (0:Nat))),.imm (.int .i64 0),.imm (.int .i64 0),.imm (.int .i64 0)])),(2,Ob.mk true 0 (AObj.cells [.imm (.val (Value.slice none (0:Nat) (0:Nat))),.imm (.val (Value.slice none (0:Nat) (0:Nat))),.imm (.val (Value.slice none (0:Nat) (0:Nat))),.imm (.val (Value.slice none (0:Nat) (0:Nat))),.imm (.val (Value.slice none (0:Nat) (0:Nat))),.imm (.val (Value.slice none (0:Nat) (0:Nat))),.imm (.val (Value.slice none (0:Nat) (0:Nat)))])),(3,Ob.mk true 0 (AObj.cells [.imm (.int IntKind.u64 n0),.imm (.int IntKind.u64 n1),.imm (.int IntKind.u64 n2),.imm (.int IntKind.u64 n3),.imm (.int IntKind.u64 n4),.imm (.int IntKind.u64 n5),.imm (.int IntKind.u64 n6)])),(4,Ob.mk true 0 (AObj.cells [.imm (.bytes (Cu.d (advU (Cu.mk d p e a) (IntKind.wrap .i64 n4)))),.imm (.int .i64 (Cu.p (advU (Cu.mk d p e a) (IntKind.wrap .i64 n4)))),.imm (.int .i64 (Cu.e (advU (Cu.mk d p e a) (IntKind.wrap .i64 n4)))),.imm (.int .i64 (Cu.a (advU (Cu.mk d
 p e a) (IntKind.wrap .i64 n4))))])),(5,Ob.mk true 1 (AObj.row (IV.sl (1:Nat) (xs ++ [[IV.bytes (takeU (Cu.mk d p e a) (IntKind.wrap .i64 n4))]])))),(6,Ob.mk true 0 (AObj.cells [.imm (.bytes (Cu.d (advU (Cu.mk d p e a) (IntKind.wrap .i64 n4)))),.imm (.int .i64 (Cu.p (advU (Cu.mk d p e a) (IntKind.wrap .i64 n4)))),.imm (.int .i64 (Cu.e (advU (Cu.mk d p e a) (IntKind.wrap .i64 n4)))),.imm (.int .i64 (Cu.a (advU (Cu.mk d p e a) (IntKind.wrap .i64 n4))))])),(7,Ob.mk false 0 (AObj.row (IV.bytes (takeU (Cu.mk d p e a) (IntKind.wrap .i64 n4)))))] (8:Nat) [])):=by kernel_rfl
theorem f13_lp5 (n0:Int) (n1:Int) (n2:Int) (n3:Int) (n4:Int) (n5:Int) (n6:Int) (s:Int) (at':Int) (d:List UInt8) (p:Int) (e:Int) (a:Int) (xs:List (List IV)) (k:AX→St→Prop):evCode K3h (loopB (bodyOf Tryd.f13) (0:Nat)) (h13x n0 n1 n2 n3 n4 n5 n6 s at' d p e a xs (5:Int)) k = ((okU (Cu.mk d p e a)∧(List.length xs + List.length [[IV.bytes (takeU (Cu.mk d p e a) (IntKind.wrap .i64 n5))]]) * 24≤140737488355328∧List.length xs + List.length [[IV.bytes (takeU (Cu.mk d p e a) (IntKind.wrap .i64 n5))]]≤140737488355328∧k AX.normal (St.mk (lapp [.dead,.dead,.imm (.int .i64 s),.imm (.int .i64 at')] (lapp (dN 4) (lapp [.ptr 0 0,.ptr 1 0,.ptr 2 0,.ptr 3 0,AV.row (5:Nat) (1:Nat),.ptr 4 0,.imm (.int .i64 6),.imm (.bytes (takeU (Cu.mk d p e a) (IntKind.wrap .i64 n5))),.ptr 7 0] (lapp (dN 29) (lapp [.imm (.int .i64 5),.imm (.bool true),.imm (.int .i64 5),.imm (.int .i64 6),.tup [AV.row (6:Nat) (0:Nat),.agg [.imm (.bytes (Cu.d (advU (Cu.mk d p e a) (IntKind.wrap .i64 n5)))),.imm (.int .i64 (Cu.p (advU (Cu.mk d p e a) (IntKind.wrap .i64 n5)))),.imm (.int .i64 (Cu.e (advU (Cu.mk d p e a) (IntKind.wrap .i64 n5)))),.imm (.int .i64
 (Cu.a (advU (Cu.mk d p e a) (IntKind.wrap .i64 n5))))]],.agg [.imm (.bytes d),.imm (.int .i64 p),.imm (.int .i64 e),.imm (.int .i64 a)],.imm (.int .i64 5),.ptr 3 5,.imm (.int IntKind.u64 n5),.imm (.int .i64 (IntKind.wrap .i64 n5)),.tup [AV.row (6:Nat) (0:Nat),.agg [.imm (.bytes (Cu.d (advU (Cu.mk d p e a) (IntKind.wrap .i64 n5)))),.imm (.int .i64 (Cu.p (advU (Cu.mk d p e a) (IntKind.wrap .i64 n5)))),.imm (.int .i64 (Cu.e (advU (Cu.mk d p e a) (IntKind.wrap .i64 n5)))),.imm (.int .i64 (Cu.a (advU (Cu.mk d p e a) (IntKind.wrap .i64 n5))))]],.imm (.bytes (takeU (Cu.mk d p e a) (IntKind.wrap .i64 n5))),.agg [.imm (.bytes (Cu.d (advU (Cu.mk d p e a) (IntKind.wrap .i64 n5)))),.imm (.int .i64 (Cu.p (advU (Cu.mk d p e a) (IntKind.wrap .i64 n5)))),.imm (.int .i64 (Cu.e (advU (Cu.mk d p e a) (IntKind.wrap .i64 n5)))),.imm (.int .i64 (Cu.a (advU (Cu.mk d p e a) (IntKind.wrap .i64 n5))))],AV.row (5:Nat) (0:Nat),.imm (.bytes (takeU (Cu.mk d p e a) (IntKind.wrap .i64 n5))),.full (IV.sl (1:Nat) [[IV.bytes (takeU (Cu.mk d p e a) (IntKind.wrap .i64 n5))]]),AV.row (5:Nat) (1:Nat),.agg [.imm (.bytes (Cu.d (advU (Cu.mk d p e a) (IntKind.wrap .i64 n5)))),.imm (.int
 .i64 (Cu.p (advU (Cu.mk d p e a) (IntKind.wrap .i64 n5)))),.imm (.int .i64 (Cu.e (advU (Cu.mk d p e a) (IntKind.wrap .i64 n5)))),.imm (.int .i64 (Cu.a (advU (Cu.mk d p e a) (IntKind.wrap .i64 n5))))]] (dN 64)))))) [(0,Ob.mk true 0 (AObj.cells [.imm (.val (Value.slice none (0:Nat) (0:Nat))),.imm (.val (Value.slice none (0:Nat) (0:Nat))),.imm (.val (Value.slice none (0:Nat) (0:Nat))),.imm (.val (Value.slice none (0:Nat) (0:Nat))),.imm (.val (Value.slice none (0:Nat) (0:Nat))),.imm (.val (Value.slice none (0:Nat) (0:Nat))),.imm (.val (Value.slice none (0:Nat) (0:Nat)))])),(1,Ob.mk true 0 (AObj.cells [.imm (.val (Value.slice none (0:Nat) (0:Nat))),.imm (.int .i64 0),.imm (.int .i64 0),.imm (.int .i64 0)])),(2,Ob.mk true 0 (AObj.cells [.imm (.val (Value.slice none (0:Nat) (0:Nat))),.imm (.val (Value.slice none (0:Nat) (0:Nat))),.imm (.val (Value.slice none (0:Nat) (0:Nat))),.imm (.val (Value.slice none (0:Nat) (0:Nat))),.imm (.val (Value.slice none (0:Nat) (0:Nat))),.imm (.val (Value.slice none (0:Nat) (0:Nat))),.imm (.val (Value.slice none (0:Nat) (0:Nat)))])),(3,Ob.mk true 0 (AObj.cells [.imm (.int
 IntKind.u64 n0),.imm (.int IntKind.u64 n1),.imm (.int IntKind.u64 n2),.imm (.int IntKind.u64 n3),.imm (.int IntKind.u64 n4),.imm (.int IntKind.u64 n5),.imm (.int IntKind.u64 n6)])),(4,Ob.mk true 0 (AObj.cells [.imm (.bytes (Cu.d (advU (Cu.mk d p e a) (IntKind.wrap .i64 n5)))),.imm (.int .i64 (Cu.p (advU (Cu.mk d p e a) (IntKind.wrap .i64 n5)))),.imm (.int .i64 (Cu.e (advU (Cu.mk d p e a) (IntKind.wrap .i64 n5)))),.imm (.int .i64 (Cu.a (advU (Cu.mk d p e a) (IntKind.wrap .i64 n5))))])),(5,Ob.mk true 1 (AObj.row (IV.sl (1:Nat) (xs ++ [[IV.bytes (takeU (Cu.mk d p e a) (IntKind.wrap .i64 n5))]])))),(6,Ob.mk false 0 (AObj.row (IV.bytes (takeU (Cu.mk d p e a) (IntKind.wrap .i64 n5))))),(7,Ob.mk true 0 (AObj.cells [.imm (.bytes (Cu.d (advU (Cu.mk d p e a) (IntKind.wrap .i64 n5)))),.imm (.int .i64 (Cu.p (advU (Cu.mk d p e a) (IntKind.wrap .i64 n5)))),.imm (.int .i64 (Cu.e (advU (Cu.mk d p e a) (IntKind.wrap .i64 n5)))),.imm (.int .i64 (Cu.a (advU (Cu.mk d p e a) (IntKind.wrap .i64 n5))))]))] (8:Nat) []))∧okU (Cu.mk d p e a)∧(List.length xs + List.length [[IV.bytes (takeU (Cu.mk d p e a) (IntKind.wrap .i64 n5))]]) * 24≤140737488355328∧List.length xs +
 List.length [[IV.bytes (takeU (Cu.mk d p e a) (IntKind.wrap .i64 n5))]]≤140737488355328∧k AX.normal (St.mk (lapp [.dead,.dead,.imm (.int .i64 s),.imm (.int .i64 at')] (lapp (dN 4) (lapp [.ptr 0 0,.ptr 1 0,.ptr 2 0,.ptr 3 0,AV.row (5:Nat) (1:Nat),.ptr 4 0,.imm (.int .i64 6),.imm (.bytes (takeU (Cu.mk d p e a) (IntKind.wrap .i64 n5))),.ptr 6 0] (lapp (dN 29) (lapp [.imm (.int .i64 5),.imm (.bool true),.imm (.int .i64 5),.imm (.int .i64 6),.tup [AV.row (7:Nat) (0:Nat),.agg [.imm (.bytes (Cu.d (advU (Cu.mk d p e a) (IntKind.wrap .i64 n5)))),.imm (.int .i64 (Cu.p (advU (Cu.mk d p e a) (IntKind.wrap .i64 n5)))),.imm (.int .i64 (Cu.e (advU (Cu.mk d p e a) (IntKind.wrap .i64 n5)))),.imm (.int .i64 (Cu.a (advU (Cu.mk d p e a) (IntKind.wrap .i64 n5))))]],.agg [.imm (.bytes d),.imm (.int .i64 p),.imm (.int .i64 e),.imm (.int .i64 a)],.imm (.int .i64 5),.ptr 3 5,.imm (.int IntKind.u64 n5),.imm (.int .i64 (IntKind.wrap .i64 n5)),.tup [AV.row (7:Nat) (0:Nat),.agg [.imm (.bytes (Cu.d (advU (Cu.mk d p e a) (IntKind.wrap .i64 n5)))),.imm (.int .i64 (Cu.p (advU (Cu.mk d p e a) (IntKind.wrap .i64 n5)))),.imm (.int .i64 (Cu.e (advU (Cu.mk d p e a)
 (IntKind.wrap .i64 n5)))),.imm (.int .i64 (Cu.a (advU (Cu.mk d p e a) (IntKind.wrap .i64 n5))))]],.imm (.bytes (takeU (Cu.mk d p e a) (IntKind.wrap .i64 n5))),.agg [.imm (.bytes (Cu.d (advU (Cu.mk d p e a) (IntKind.wrap .i64 n5)))),.imm (.int .i64 (Cu.p (advU (Cu.mk d p e a) (IntKind.wrap .i64 n5)))),.imm (.int .i64 (Cu.e (advU (Cu.mk d p e a) (IntKind.wrap .i64 n5)))),.imm (.int .i64 (Cu.a (advU (Cu.mk d p e a) (IntKind.wrap .i64 n5))))],AV.row (5:Nat) (0:Nat),.imm (.bytes (takeU (Cu.mk d p e a) (IntKind.wrap .i64 n5))),.full (IV.sl (1:Nat) [[IV.bytes (takeU (Cu.mk d p e a) (IntKind.wrap .i64 n5))]]),AV.row (5:Nat) (1:Nat),.agg [.imm (.bytes (Cu.d (advU (Cu.mk d p e a) (IntKind.wrap .i64 n5)))),.imm (.int .i64 (Cu.p (advU (Cu.mk d p e a) (IntKind.wrap .i64 n5)))),.imm (.int .i64 (Cu.e (advU (Cu.mk d p e a) (IntKind.wrap .i64 n5)))),.imm (.int .i64 (Cu.a (advU (Cu.mk d p e a) (IntKind.wrap .i64 n5))))]] (dN 64)))))) [(0,Ob.mk true 0 (AObj.cells [.imm (.val (Value.slice none (0:Nat) (0:Nat))),.imm (.val (Value.slice none (0:Nat) (0:Nat))),.imm (.val (Value.slice none (0:Nat) (0:Nat))),.imm (.val (Value.slice none (0:Nat) (0:Nat))),.imm
 (.val (Value.slice none (0:Nat) (0:Nat))),.imm (.val (Value.slice none (0:Nat) (0:Nat))),.imm (.val (Value.slice none (0:Nat) (0:Nat)))])),(1,Ob.mk true 0 (AObj.cells [.imm (.val (Value.slice none (0:Nat) (0:Nat))),.imm (.int .i64 0),.imm (.int .i64 0),.imm (.int .i64 0)])),(2,Ob.mk true 0 (AObj.cells [.imm (.val (Value.slice none (0:Nat) (0:Nat))),.imm (.val (Value.slice none (0:Nat) (0:Nat))),.imm (.val (Value.slice none (0:Nat) (0:Nat))),.imm (.val (Value.slice none (0:Nat) (0:Nat))),.imm (.val (Value.slice none (0:Nat) (0:Nat))),.imm (.val (Value.slice none (0:Nat) (0:Nat))),.imm (.val (Value.slice none (0:Nat) (0:Nat)))])),(3,Ob.mk true 0 (AObj.cells [.imm (.int IntKind.u64 n0),.imm (.int IntKind.u64 n1),.imm (.int IntKind.u64 n2),.imm (.int IntKind.u64 n3),.imm (.int IntKind.u64 n4),.imm (.int IntKind.u64 n5),.imm (.int IntKind.u64 n6)])),(4,Ob.mk true 0 (AObj.cells [.imm (.bytes (Cu.d (advU (Cu.mk d p e a) (IntKind.wrap .i64 n5)))),.imm (.int .i64 (Cu.p (advU (Cu.mk d p e a) (IntKind.wrap .i64 n5)))),.imm (.int .i64 (Cu.e (advU (Cu.mk d p e a) (IntKind.wrap .i64 n5)))),.imm (.int .i64 (Cu.a (advU (Cu.mk d
 p e a) (IntKind.wrap .i64 n5))))])),(5,Ob.mk true 1 (AObj.row (IV.sl (1:Nat) (xs ++ [[IV.bytes (takeU (Cu.mk d p e a) (IntKind.wrap .i64 n5))]])))),(6,Ob.mk true 0 (AObj.cells [.imm (.bytes (Cu.d (advU (Cu.mk d p e a) (IntKind.wrap .i64 n5)))),.imm (.int .i64 (Cu.p (advU (Cu.mk d p e a) (IntKind.wrap .i64 n5)))),.imm (.int .i64 (Cu.e (advU (Cu.mk d p e a) (IntKind.wrap .i64 n5)))),.imm (.int .i64 (Cu.a (advU (Cu.mk d p e a) (IntKind.wrap .i64 n5))))])),(7,Ob.mk false 0 (AObj.row (IV.bytes (takeU (Cu.mk d p e a) (IntKind.wrap .i64 n5)))))] (8:Nat) [])):=by kernel_rfl
theorem f13_lp6 (n0:Int) (n1:Int) (n2:Int) (n3:Int) (n4:Int) (n5:Int) (n6:Int) (s:Int) (at':Int) (d:List UInt8) (p:Int) (e:Int) (a:Int) (xs:List (List IV)) (k:AX→St→Prop):evCode K3h (loopB (bodyOf Tryd.f13) (0:Nat)) (h13x n0 n1 n2 n3 n4 n5 n6 s at' d p e a xs (6:Int)) k = ((okU (Cu.mk d p e a)∧(List.length xs + List.length [[IV.bytes (takeU (Cu.mk d p e a) (IntKind.wrap .i64 n6))]]) * 24≤140737488355328∧List.length xs + List.length [[IV.bytes (takeU (Cu.mk d p e a) (IntKind.wrap .i64 n6))]]≤140737488355328∧k AX.normal (St.mk (lapp [.dead,.dead,.imm (.int .i64 s),.imm (.int .i64 at')] (lapp (dN 4) (lapp [.ptr 0 0,.ptr 1 0,.ptr 2 0,.ptr 3 0,AV.row (5:Nat) (1:Nat),.ptr 4 0,.imm (.int .i64 7),.imm (.bytes (takeU (Cu.mk d p e a) (IntKind.wrap .i64 n6))),.ptr 7 0] (lapp (dN 29) (lapp [.imm (.int .i64 6),.imm (.bool true),.imm (.int .i64 6),.imm (.int .i64 7),.tup [AV.row (6:Nat) (0:Nat),.agg [.imm (.bytes (Cu.d (advU (Cu.mk d p e a) (IntKind.wrap .i64 n6)))),.imm (.int .i64 (Cu.p (advU (Cu.mk d p e a) (IntKind.wrap .i64 n6)))),.imm (.int .i64 (Cu.e (advU (Cu.mk d p e a) (IntKind.wrap .i64 n6)))),.imm (.int .i64
 (Cu.a (advU (Cu.mk d p e a) (IntKind.wrap .i64 n6))))]],.agg [.imm (.bytes d),.imm (.int .i64 p),.imm (.int .i64 e),.imm (.int .i64 a)],.imm (.int .i64 6),.ptr 3 6,.imm (.int IntKind.u64 n6),.imm (.int .i64 (IntKind.wrap .i64 n6)),.tup [AV.row (6:Nat) (0:Nat),.agg [.imm (.bytes (Cu.d (advU (Cu.mk d p e a) (IntKind.wrap .i64 n6)))),.imm (.int .i64 (Cu.p (advU (Cu.mk d p e a) (IntKind.wrap .i64 n6)))),.imm (.int .i64 (Cu.e (advU (Cu.mk d p e a) (IntKind.wrap .i64 n6)))),.imm (.int .i64 (Cu.a (advU (Cu.mk d p e a) (IntKind.wrap .i64 n6))))]],.imm (.bytes (takeU (Cu.mk d p e a) (IntKind.wrap .i64 n6))),.agg [.imm (.bytes (Cu.d (advU (Cu.mk d p e a) (IntKind.wrap .i64 n6)))),.imm (.int .i64 (Cu.p (advU (Cu.mk d p e a) (IntKind.wrap .i64 n6)))),.imm (.int .i64 (Cu.e (advU (Cu.mk d p e a) (IntKind.wrap .i64 n6)))),.imm (.int .i64 (Cu.a (advU (Cu.mk d p e a) (IntKind.wrap .i64 n6))))],AV.row (5:Nat) (0:Nat),.imm (.bytes (takeU (Cu.mk d p e a) (IntKind.wrap .i64 n6))),.full (IV.sl (1:Nat) [[IV.bytes (takeU (Cu.mk d p e a) (IntKind.wrap .i64 n6))]]),AV.row (5:Nat) (1:Nat),.agg [.imm (.bytes (Cu.d (advU (Cu.mk d p e a) (IntKind.wrap .i64 n6)))),.imm (.int
 .i64 (Cu.p (advU (Cu.mk d p e a) (IntKind.wrap .i64 n6)))),.imm (.int .i64 (Cu.e (advU (Cu.mk d p e a) (IntKind.wrap .i64 n6)))),.imm (.int .i64 (Cu.a (advU (Cu.mk d p e a) (IntKind.wrap .i64 n6))))]] (dN 64)))))) [(0,Ob.mk true 0 (AObj.cells [.imm (.val (Value.slice none (0:Nat) (0:Nat))),.imm (.val (Value.slice none (0:Nat) (0:Nat))),.imm (.val (Value.slice none (0:Nat) (0:Nat))),.imm (.val (Value.slice none (0:Nat) (0:Nat))),.imm (.val (Value.slice none (0:Nat) (0:Nat))),.imm (.val (Value.slice none (0:Nat) (0:Nat))),.imm (.val (Value.slice none (0:Nat) (0:Nat)))])),(1,Ob.mk true 0 (AObj.cells [.imm (.val (Value.slice none (0:Nat) (0:Nat))),.imm (.int .i64 0),.imm (.int .i64 0),.imm (.int .i64 0)])),(2,Ob.mk true 0 (AObj.cells [.imm (.val (Value.slice none (0:Nat) (0:Nat))),.imm (.val (Value.slice none (0:Nat) (0:Nat))),.imm (.val (Value.slice none (0:Nat) (0:Nat))),.imm (.val (Value.slice none (0:Nat) (0:Nat))),.imm (.val (Value.slice none (0:Nat) (0:Nat))),.imm (.val (Value.slice none (0:Nat) (0:Nat))),.imm (.val (Value.slice none (0:Nat) (0:Nat)))])),(3,Ob.mk true 0 (AObj.cells [.imm (.int
 IntKind.u64 n0),.imm (.int IntKind.u64 n1),.imm (.int IntKind.u64 n2),.imm (.int IntKind.u64 n3),.imm (.int IntKind.u64 n4),.imm (.int IntKind.u64 n5),.imm (.int IntKind.u64 n6)])),(4,Ob.mk true 0 (AObj.cells [.imm (.bytes (Cu.d (advU (Cu.mk d p e a) (IntKind.wrap .i64 n6)))),.imm (.int .i64 (Cu.p (advU (Cu.mk d p e a) (IntKind.wrap .i64 n6)))),.imm (.int .i64 (Cu.e (advU (Cu.mk d p e a) (IntKind.wrap .i64 n6)))),.imm (.int .i64 (Cu.a (advU (Cu.mk d p e a) (IntKind.wrap .i64 n6))))])),(5,Ob.mk true 1 (AObj.row (IV.sl (1:Nat) (xs ++ [[IV.bytes (takeU (Cu.mk d p e a) (IntKind.wrap .i64 n6))]])))),(6,Ob.mk false 0 (AObj.row (IV.bytes (takeU (Cu.mk d p e a) (IntKind.wrap .i64 n6))))),(7,Ob.mk true 0 (AObj.cells [.imm (.bytes (Cu.d (advU (Cu.mk d p e a) (IntKind.wrap .i64 n6)))),.imm (.int .i64 (Cu.p (advU (Cu.mk d p e a) (IntKind.wrap .i64 n6)))),.imm (.int .i64 (Cu.e (advU (Cu.mk d p e a) (IntKind.wrap .i64 n6)))),.imm (.int .i64 (Cu.a (advU (Cu.mk d p e a) (IntKind.wrap .i64 n6))))]))] (8:Nat) []))∧okU (Cu.mk d p e a)∧(List.length xs + List.length [[IV.bytes (takeU (Cu.mk d p e a) (IntKind.wrap .i64 n6))]]) * 24≤140737488355328∧List.length xs +
 List.length [[IV.bytes (takeU (Cu.mk d p e a) (IntKind.wrap .i64 n6))]]≤140737488355328∧k AX.normal (St.mk (lapp [.dead,.dead,.imm (.int .i64 s),.imm (.int .i64 at')] (lapp (dN 4) (lapp [.ptr 0 0,.ptr 1 0,.ptr 2 0,.ptr 3 0,AV.row (5:Nat) (1:Nat),.ptr 4 0,.imm (.int .i64 7),.imm (.bytes (takeU (Cu.mk d p e a) (IntKind.wrap .i64 n6))),.ptr 6 0] (lapp (dN 29) (lapp [.imm (.int .i64 6),.imm (.bool true),.imm (.int .i64 6),.imm (.int .i64 7),.tup [AV.row (7:Nat) (0:Nat),.agg [.imm (.bytes (Cu.d (advU (Cu.mk d p e a) (IntKind.wrap .i64 n6)))),.imm (.int .i64 (Cu.p (advU (Cu.mk d p e a) (IntKind.wrap .i64 n6)))),.imm (.int .i64 (Cu.e (advU (Cu.mk d p e a) (IntKind.wrap .i64 n6)))),.imm (.int .i64 (Cu.a (advU (Cu.mk d p e a) (IntKind.wrap .i64 n6))))]],.agg [.imm (.bytes d),.imm (.int .i64 p),.imm (.int .i64 e),.imm (.int .i64 a)],.imm (.int .i64 6),.ptr 3 6,.imm (.int IntKind.u64 n6),.imm (.int .i64 (IntKind.wrap .i64 n6)),.tup [AV.row (7:Nat) (0:Nat),.agg [.imm (.bytes (Cu.d (advU (Cu.mk d p e a) (IntKind.wrap .i64 n6)))),.imm (.int .i64 (Cu.p (advU (Cu.mk d p e a) (IntKind.wrap .i64 n6)))),.imm (.int .i64 (Cu.e (advU (Cu.mk d p e a)
 (IntKind.wrap .i64 n6)))),.imm (.int .i64 (Cu.a (advU (Cu.mk d p e a) (IntKind.wrap .i64 n6))))]],.imm (.bytes (takeU (Cu.mk d p e a) (IntKind.wrap .i64 n6))),.agg [.imm (.bytes (Cu.d (advU (Cu.mk d p e a) (IntKind.wrap .i64 n6)))),.imm (.int .i64 (Cu.p (advU (Cu.mk d p e a) (IntKind.wrap .i64 n6)))),.imm (.int .i64 (Cu.e (advU (Cu.mk d p e a) (IntKind.wrap .i64 n6)))),.imm (.int .i64 (Cu.a (advU (Cu.mk d p e a) (IntKind.wrap .i64 n6))))],AV.row (5:Nat) (0:Nat),.imm (.bytes (takeU (Cu.mk d p e a) (IntKind.wrap .i64 n6))),.full (IV.sl (1:Nat) [[IV.bytes (takeU (Cu.mk d p e a) (IntKind.wrap .i64 n6))]]),AV.row (5:Nat) (1:Nat),.agg [.imm (.bytes (Cu.d (advU (Cu.mk d p e a) (IntKind.wrap .i64 n6)))),.imm (.int .i64 (Cu.p (advU (Cu.mk d p e a) (IntKind.wrap .i64 n6)))),.imm (.int .i64 (Cu.e (advU (Cu.mk d p e a) (IntKind.wrap .i64 n6)))),.imm (.int .i64 (Cu.a (advU (Cu.mk d p e a) (IntKind.wrap .i64 n6))))]] (dN 64)))))) [(0,Ob.mk true 0 (AObj.cells [.imm (.val (Value.slice none (0:Nat) (0:Nat))),.imm (.val (Value.slice none (0:Nat) (0:Nat))),.imm (.val (Value.slice none (0:Nat) (0:Nat))),.imm (.val (Value.slice none (0:Nat) (0:Nat))),.imm
 (.val (Value.slice none (0:Nat) (0:Nat))),.imm (.val (Value.slice none (0:Nat) (0:Nat))),.imm (.val (Value.slice none (0:Nat) (0:Nat)))])),(1,Ob.mk true 0 (AObj.cells [.imm (.val (Value.slice none (0:Nat) (0:Nat))),.imm (.int .i64 0),.imm (.int .i64 0),.imm (.int .i64 0)])),(2,Ob.mk true 0 (AObj.cells [.imm (.val (Value.slice none (0:Nat) (0:Nat))),.imm (.val (Value.slice none (0:Nat) (0:Nat))),.imm (.val (Value.slice none (0:Nat) (0:Nat))),.imm (.val (Value.slice none (0:Nat) (0:Nat))),.imm (.val (Value.slice none (0:Nat) (0:Nat))),.imm (.val (Value.slice none (0:Nat) (0:Nat))),.imm (.val (Value.slice none (0:Nat) (0:Nat)))])),(3,Ob.mk true 0 (AObj.cells [.imm (.int IntKind.u64 n0),.imm (.int IntKind.u64 n1),.imm (.int IntKind.u64 n2),.imm (.int IntKind.u64 n3),.imm (.int IntKind.u64 n4),.imm (.int IntKind.u64 n5),.imm (.int IntKind.u64 n6)])),(4,Ob.mk true 0 (AObj.cells [.imm (.bytes (Cu.d (advU (Cu.mk d p e a) (IntKind.wrap .i64 n6)))),.imm (.int .i64 (Cu.p (advU (Cu.mk d p e a) (IntKind.wrap .i64 n6)))),.imm (.int .i64 (Cu.e (advU (Cu.mk d p e a) (IntKind.wrap .i64 n6)))),.imm (.int .i64 (Cu.a (advU (Cu.mk d
 p e a) (IntKind.wrap .i64 n6))))])),(5,Ob.mk true 1 (AObj.row (IV.sl (1:Nat) (xs ++ [[IV.bytes (takeU (Cu.mk d p e a) (IntKind.wrap .i64 n6))]])))),(6,Ob.mk true 0 (AObj.cells [.imm (.bytes (Cu.d (advU (Cu.mk d p e a) (IntKind.wrap .i64 n6)))),.imm (.int .i64 (Cu.p (advU (Cu.mk d p e a) (IntKind.wrap .i64 n6)))),.imm (.int .i64 (Cu.e (advU (Cu.mk d p e a) (IntKind.wrap .i64 n6)))),.imm (.int .i64 (Cu.a (advU (Cu.mk d p e a) (IntKind.wrap .i64 n6))))])),(7,Ob.mk false 0 (AObj.row (IV.bytes (takeU (Cu.mk d p e a) (IntKind.wrap .i64 n6)))))] (8:Nat) [])):=by kernel_rfl
theorem f13z_lp (n0:Int) (n1:Int) (n2:Int) (n3:Int) (n4:Int) (n5:Int) (n6:Int) (s:Int) (at':Int) (d:List UInt8) (p:Int) (e:Int) (a:Int) (x0:List UInt8) (x1:List UInt8) (x2:List UInt8) (x3:List UInt8) (x4:List UInt8) (x5:List UInt8) (x6:List UInt8) (k:AX→St→Prop):evCode K3h (loopB (bodyOf Tryd.f13) (0:Nat)) (h13x n0 n1 n2 n3 n4 n5 n6 s at' d p e a [[IV.bytes x0],[IV.bytes x1],[IV.bytes x2],[IV.bytes x3],[IV.bytes x4],[IV.bytes x5],[IV.bytes x6]] (7:Int)) k = (k (AX.exit (0:Nat)) (St.mk [.dead,.dead,.imm (.int .i64 s),.imm (.int .i64 at'),.dead,.dead,.dead,.dead,.ptr 0 0,.ptr 1 0,.ptr 2 0,.ptr 3 0,AV.row (5:Nat) (0:Nat),.ptr 4 0,.imm (.int .i64 7),.dead,.dead,.dead,.dead,.dead,.dead,.dead,.dead,.dead,.dead,.dead,.dead,.dead,.dead,.dead,.dead,.dead,.dead,.dead,.dead,.dead,.dead,.dead,.dead,.dead,.dead,.dead,.dead,.dead,.dead,.dead,.imm (.int .i64 7),.imm (.bool false),.dead,.dead,.dead,.dead,.dead,.dead,.dead,.dead,.dead,.dead,.dead,.dead,.dead,.dead,.dead,.dead,.dead,.dead,.dead,.dead,.dead,.dead,.dead,.dead,.dead,.dead,.dead,.dead,.dead,.dead,
 .dead,.dead,.dead,.dead,.dead,.dead,.dead,.dead,.dead,.dead,.dead,.dead,.dead,.dead,.dead,.dead,.dead,.dead,.dead,.dead,.dead,.dead,.dead,.dead,.dead,.dead,.dead,.dead,.dead,.dead,.dead,.dead,.dead,.dead,.dead,.dead,.dead,.dead,.dead,.dead,.dead,.dead,.dead,.dead,.dead,.dead,.dead,.dead,.dead,.dead] [(0,Ob.mk true 0 (AObj.cells [.imm (.val (Value.slice none (0:Nat) (0:Nat))),.imm (.val (Value.slice none (0:Nat) (0:Nat))),.imm (.val (Value.slice none (0:Nat) (0:Nat))),.imm (.val (Value.slice none (0:Nat) (0:Nat))),.imm (.val (Value.slice none (0:Nat) (0:Nat))),.imm (.val (Value.slice none (0:Nat) (0:Nat))),.imm (.val (Value.slice none (0:Nat) (0:Nat)))])),(1,Ob.mk true 0 (AObj.cells [.imm (.val (Value.slice none (0:Nat) (0:Nat))),.imm (.int .i64 0),.imm (.int .i64 0),.imm (.int .i64 0)])),(2,Ob.mk true 0 (AObj.cells [.imm (.val (Value.slice none (0:Nat) (0:Nat))),.imm (.val (Value.slice none (0:Nat) (0:Nat))),.imm (.val (Value.slice none (0:Nat) (0:Nat))),.imm (.val (Value.slice none (0:Nat) (0:Nat))),.imm (.val (Value.slice none (0:Nat) (0:Nat))),.imm (.val
 (Value.slice none (0:Nat) (0:Nat))),.imm (.val (Value.slice none (0:Nat) (0:Nat)))])),(3,Ob.mk true 0 (AObj.cells [.imm (.int IntKind.u64 n0),.imm (.int IntKind.u64 n1),.imm (.int IntKind.u64 n2),.imm (.int IntKind.u64 n3),.imm (.int IntKind.u64 n4),.imm (.int IntKind.u64 n5),.imm (.int IntKind.u64 n6)])),(4,Ob.mk true 0 (AObj.cells [.imm (.bytes d),.imm (.int .i64 p),.imm (.int .i64 e),.imm (.int .i64 a)])),(5,Ob.mk true 0 (AObj.row (IV.sl (1:Nat) [[IV.bytes x0],[IV.bytes x1],[IV.bytes x2],[IV.bytes x3],[IV.bytes x4],[IV.bytes x5],[IV.bytes x6]])))] (6:Nat) [])):=by kernel_rfl
theorem f13_out (n0:Int) (n1:Int) (n2:Int) (n3:Int) (n4:Int) (n5:Int) (n6:Int) (s:Int) (at':Int) (d:List UInt8) (p:Int) (e:Int) (a:Int) (x0:List UInt8) (x1:List UInt8) (x2:List UInt8) (x3:List UInt8) (x4:List UInt8) (x5:List UInt8) (x6:List UInt8) (K:List AV→Prop):loopK K3h (bodyOf Tryd.f13) (0:Nat) (finK K3h Tryd.f13 K) (AX.exit (0:Nat)) (St.mk (let y:=let y:=let y:=let y:=let y:=[.dead,.dead,.dead,.dead]; AV.dead :: AV.dead :: AV.dead :: AV.dead :: y; let y:=AV.dead :: AV.dead :: AV.dead :: AV.dead :: y; AV.dead :: AV.dead :: AV.dead :: AV.dead :: y; let y:=let y:=AV.dead :: AV.dead :: AV.dead :: AV.dead :: y; AV.dead :: AV.dead :: AV.dead :: AV.dead :: y; let y:=AV.dead :: AV.dead :: AV.dead :: AV.dead :: y; AV.dead :: AV.dead :: AV.dead :: AV.dead :: y; let y:=let y:=let y:=AV.dead :: AV.dead :: AV.dead :: AV.dead :: y; AV.dead :: AV.dead :: AV.dead :: AV.dead :: y; let y:=AV.dead :: AV.dead :: AV.dead :: AV.dead :: y; AV.dead :: AV.dead :: AV.dead :: AV.dead :: y; let y:=let y:=AV.dead :: AV.dead :: AV.dead :: AV.dead :: y; AV.dead :: AV.dead :: AV.dead :: AV.dead :: y; let y:=AV.dead :: AV.dead :: AV.dead :: AV.dead :: y; AV.dead :: AV.dead :: AV.dead :: AV.dead :: y; let y:=let y:=let y:=let y:=AV.dead :: AV.dead :: AV.dead :: AV.dead :: y; AV.dead :: AV.dead :: AV.dead :: AV.dead :: y; let y:=AV.dead :: AV.dead :: AV.dead :: AV.dead :: y; AV.dead :: AV.dead :: AV.dead :: AV.dead :: y; let y:=let y:=AV.dead :: AV.dead :: AV.imm (.int .i64 7) :: AV.imm (.bool false) :: y; AV.dead :: AV.dead :: AV.dead :: AV.dead :: y; let y:=AV.dead :: AV.dead :: AV.dead :: AV.dead :: y; AV.dead :: AV.dead :: AV.dead :: AV.dead :: y; let y:=let y:=let y:=AV.dead :: AV.dead :: AV.dead :: AV.dead :: y; AV.dead :: AV.dead :: AV.dead :: AV.dead :: y; let y:=AV.dead :: AV.dead :: AV.dead :: AV.dead :: y; AV.dead :: AV.dead :: AV.dead :: AV.dead :: y; let y:=let y:=AV.row (5:Nat) (0:Nat) :: AV.ptr 4 0 :: AV.imm (.int .i64 7) :: AV.dead :: y; AV.ptr 0 0 :: AV.ptr 1 0 :: AV.ptr 2 0 :: AV.ptr 3 0 :: y; let y:=AV.dead :: AV.dead :: AV.dead :: AV.dead :: y; AV.dead :: AV.dead :: AV.imm (.int .i64 s) :: AV.imm (.int .i64 at') :: y) [(0,Ob.mk true 0 (AObj.cells [.imm (.val (Value.slice none (0:Nat) (0:Nat))),.imm (.val (Value.slice none (0:Nat) (0:Nat))),.imm (.val (Value.slice none (0:Nat) (0:Nat))),.imm (.val (Value.slice none (0:Nat) (0:Nat))),.imm (.val (Value.slice none (0:Nat) (0:Nat))),.imm (.val (Value.slice none (0:Nat) (0:Nat))),.imm (.val (Value.slice none (0:Nat) (0:Nat)))])),(1,Ob.mk true 0 (AObj.cells [.imm (.val (Value.slice none (0:Nat) (0:Nat))),.imm (.int .i64 0),.imm (.int .i64 0),.imm (.int .i64 0)])),(2,Ob.mk true 0 (AObj.cells [.imm (.val (Value.slice none (0:Nat) (0:Nat))),.imm (.val (Value.slice none (0:Nat) (0:Nat))),.imm (.val (Value.slice none (0:Nat) (0:Nat))),.imm (.val (Value.slice none (0:Nat) (0:Nat))),.imm (.val (Value.slice none (0:Nat) (0:Nat))),.imm (.val (Value.slice none (0:Nat) (0:Nat))),.imm (.val (Value.slice none (0:Nat) (0:Nat)))])),(3,Ob.mk true 0 (AObj.cells [.imm (.int IntKind.u64 n0),.imm (.int IntKind.u64 n1),.imm (.int IntKind.u64 n2),.imm (.int IntKind.u64 n3),.imm (.int IntKind.u64 n4),.imm (.int IntKind.u64 n5),.imm (.int IntKind.u64 n6)])),(4,Ob.mk true 0 (AObj.cells [.imm (.bytes d),.imm (.int .i64 p),.imm (.int .i64 e),.imm (.int .i64 a)])),(5,Ob.mk true 0 (AObj.row (IV.sl (1:Nat) [[IV.bytes x0],[IV.bytes x1],[IV.bytes x2],[IV.bytes x3],[IV.bytes x4],[IV.bytes x5],[IV.bytes x6]])))] (6:Nat) []) = ((0:Int)≤0∧(0:Int) < (↑(List.length [[IV.bytes x0],[IV.bytes x1],[IV.bytes x2],[IV.bytes x3],[IV.bytes x4],[IV.bytes x5],[IV.bytes x6]]):Int)∧kcells (List.getD [[IV.bytes x0],[IV.bytes x1],[IV.bytes x2],[IV.bytes x3],[IV.bytes x4],[IV.bytes x5],[IV.bytes x6]] (0:Int).toNat []) (0:Nat) [CK.any] = List.getD [[IV.bytes x0],[IV.bytes x1],[IV.bytes x2],[IV.bytes x3],[IV.bytes x4],[IV.bytes x5],[IV.bytes x6]] (0:Int).toNat []∧sz48 s∧(x0.length:Int)≤big'∧(0:Int)≤1∧(1:Int) < (↑(List.length [[IV.bytes x0],[IV.bytes x1],[IV.bytes x2],[IV.bytes x3],[IV.bytes x4],[IV.bytes x5],[IV.bytes x6]]):Int)∧kcells (List.getD [[IV.bytes x0],[IV.bytes x1],[IV.bytes x2],[IV.bytes x3],[IV.bytes x4],[IV.bytes x5],[IV.bytes x6]] (1:Int).toNat []) (0:Nat) [CK.any] = List.getD [[IV.bytes x0],[IV.bytes x1],[IV.bytes x2],[IV.bytes x3],[IV.bytes x4],[IV.bytes x5],[IV.bytes x6]] (1:Int).toNat []∧(0:Int)≤2∧(2:Int) < (↑(List.length [[IV.bytes x0],[IV.bytes x1],[IV.bytes x2],[IV.bytes x3],[IV.bytes x4],[IV.bytes x5],[IV.bytes x6]]):Int)∧kcells (List.getD [[IV.bytes x0],[IV.bytes x1],[IV.bytes x2],[IV.bytes x3],[IV.bytes x4],[IV.bytes x5],[IV.bytes x6]] (2:Int).toNat []) (0:Nat) [CK.any] = List.getD [[IV.bytes x0],[IV.bytes x1],[IV.bytes x2],[IV.bytes x3],[IV.bytes x4],[IV.bytes x5],[IV.bytes x6]] (2:Int).toNat []∧(x2.length:Int)≤1000000000000∧(0:Int)≤3∧(3:Int) < (↑(List.length [[IV.bytes x0],[IV.bytes x1],[IV.bytes x2],[IV.bytes x3],[IV.bytes x4],[IV.bytes x5],[IV.bytes x6]]):Int)∧kcells (List.getD [[IV.bytes x0],[IV.bytes x1],[IV.bytes x2],[IV.bytes x3],[IV.bytes x4],[IV.bytes x5],[IV.bytes x6]] (3:Int).toNat []) (0:Nat) [CK.any] = List.getD [[IV.bytes x0],[IV.bytes x1],[IV.bytes x2],[IV.bytes x3],[IV.bytes x4],[IV.bytes x5],[IV.bytes x6]] (3:Int).toNat []∧(0:Int)≤4∧(4:Int) < (↑(List.length [[IV.bytes x0],[IV.bytes x1],[IV.bytes x2],[IV.bytes x3],[IV.bytes x4],[IV.bytes x5],[IV.bytes x6]]):Int)∧kcells (List.getD [[IV.bytes x0],[IV.bytes x1],[IV.bytes x2],[IV.bytes x3],[IV.bytes x4],[IV.bytes x5],[IV.bytes x6]] (4:Int).toNat []) (0:Nat) [CK.any] = List.getD [[IV.bytes x0],[IV.bytes x1],[IV.bytes x2],[IV.bytes x3],[IV.bytes x4],[IV.bytes x5],[IV.bytes x6]] (4:Int).toNat []∧sz48 s∧(x4.length:Int)≤big'∧(0:Int)≤5∧(5:Int) < (↑(List.length [[IV.bytes x0],[IV.bytes x1],[IV.bytes x2],[IV.bytes x3],[IV.bytes x4],[IV.bytes x5],[IV.bytes x6]]):Int)∧kcells (List.getD [[IV.bytes x0],[IV.bytes x1],[IV.bytes x2],[IV.bytes x3],[IV.bytes x4],[IV.bytes x5],[IV.bytes x6]] (5:Int).toNat []) (0:Nat) [CK.any] = List.getD [[IV.bytes x0],[IV.bytes x1],[IV.bytes x2],[IV.bytes x3],[IV.bytes x4],[IV.bytes x5],[IV.bytes x6]] (5:Int).toNat []∧(x5.length:Int)≤big'∧(0:Int)≤6∧(6:Int) < (↑(List.length [[IV.bytes x0],[IV.bytes x1],[IV.bytes x2],[IV.bytes x3],[IV.bytes x4],[IV.bytes x5],[IV.bytes x6]]):Int)∧kcells (List.getD [[IV.bytes x0],[IV.bytes x1],[IV.bytes x2],[IV.bytes x3],[IV.bytes x4],[IV.bytes x5],[IV.bytes x6]] (6:Int).toNat []) (0:Nat) [CK.any] = List.getD [[IV.bytes x0],[IV.bytes x1],[IV.bytes x2],[IV.bytes x3],[IV.bytes x4],[IV.bytes x5],[IV.bytes x6]] (6:Int).toNat []∧(x6.length:Int)≤big'∧brn (!(true && decOk x2 && indOk x5 && indOk x6)) (K [.agg [AV.new (IV.ints IntKind.i64 []),AV.new (IV.bytes []),AV.new (IV.sl (3:Nat) []),AV.new (IV.bytes []),AV.new (IV.sl (2:Nat) []),AV.new (IV.bools []),AV.new (IV.bools [])],.agg [.imm (.bytes (Cu.d (failU (Cu.mk d p e a) (10:Int) at'))),.imm (.int .i64 (Cu.p (failU (Cu.mk d p e a) (10:Int) at'))),.imm (.int .i64 (Cu.e (failU (Cu.mk d p e a) (10:Int) at'))),.imm (.int .i64 (Cu.a (failU (Cu.mk d p e a) (10:Int) at')))]]) (K [.agg [AV.new (IV.ints IntKind.i64 (decI x0 s.toNat (List.length x0 / s.toNat))),.imm (.bytes x1),AV.new (IV.sl (3:Nat) (List.map cellsT (dec x2))),.imm (.bytes x3),AV.new (IV.sl (2:Nat) (List.map cellsL (decL x4 s.toNat (List.length x4 / (s.toNat + 4))))),AV.new (IV.bools (decO x5)),AV.new (IV.bools (decO x6))],.agg [.imm (.bytes d),.imm (.int .i64 p),.imm (.int .i64 e),.imm (.int .i64 a)]])):=by kernel_rfl
end Z19
set_option maxRecDepth 100000
namespace Z19
open Go Go.AE Go.Proofs D6
attribute [local irreducible] loopK evCode evSpec loopB norm
theorem take_round {d:List UInt8} {p a o n:Int} (hp:0≤p) (ho:0≤o) (hn:0≤n) (hle:p + o + n≤d.length):takeU ⟨d,p + o,0,a⟩ n = pt (d.drop p.toNat) o n∧advU ⟨d,p + o,0,a⟩ n = ⟨d,p + (o + n),0,a⟩:=by
 have hr:restU ⟨d,p + o,0,a⟩ = (d.length:Int) - (p + o):=by unfold restU; rw [if_pos rfl]
 have hok:advOk ⟨d,p + o,0,a⟩ n = true:=by unfold advOk; rw [hr]; exact decide_eq_true ⟨rfl,hn,by omega⟩
 refine ⟨?_,?_⟩
 ·unfold takeU pt
  rw [hok,if_pos rfl,List.drop_drop]
  congr 2
  show (p + o).toNat = p.toNat + o.toNat
  omega
 ·unfold advU
  rw [hr,if_pos rfl,if_pos ⟨hn,by omega⟩]
  show (⟨d,p + o + n,0,a⟩:Cu) = _
  rw [Int.add_assoc]
def pcs (D:List UInt8) (h:Hd) (s:Int):Nat→List (List IV)
 | 0=>[]
 | 1=>[[.bytes (b0 D h s)]]
 | 2=>[[.bytes (b0 D h s)],[.bytes (b1 D h s)]]
 | 3=>[[.bytes (b0 D h s)],[.bytes (b1 D h s)],[.bytes (b2 D h s)]]
 | 4=>[[.bytes (b0 D h s)],[.bytes (b1 D h s)],[.bytes (b2 D h s)],[.bytes (b3 D h s)]]
 | 5=>[[.bytes (b0 D h s)],[.bytes (b1 D h s)],[.bytes (b2 D h s)],[.bytes (b3 D h s)],[.bytes (b4 D h s)]]
 | 6=>[[.bytes (b0 D h s)],[.bytes (b1 D h s)],[.bytes (b2 D h s)],[.bytes (b3 D h s)],[.bytes (b4 D h s)],[.bytes (b5 D h s)]]
 | _=>[[.bytes (b0 D h s)],[.bytes (b1 D h s)],[.bytes (b2 D h s)],[.bytes (b3 D h s)],[.bytes (b4 D h s)],[.bytes (b5 D h s)],[.bytes (b6 D h s)]]
def oI (p:Int) (h:Hd) (s:Int):Nat→Int
 | 0=>p
 | 1=>p + o1 h s
 | 2=>p + o2 h s
 | 3=>p + o3 h s
 | 4=>p + o4 h s
 | 5=>p + o5 h s
 | 6=>p + o6 h s
 | _=>p + o7 h s
def I13 (d:List UInt8) (p a:Int) (h:Hd) (s at':Int) (i:Nat):St :=
 h13x (l0 h s) (l1 h) (l2 h) (l3 h) (l4 h s) (l5 h) (l6 h) s at' d (oI p h s i) 0 a (pcs (d.drop p.toNat) h s i) i
def q13:Plan:=⟨[],msk [2,3,8,9,10,11,12,13,14] 0 128,[0,1,2,3,4,5]⟩
theorem f13_ok' (d:List UInt8) (p e a v iu is l t ty c s at':Int) (hu:okU ⟨d,p,e,a⟩) (hh:okH ⟨v,iu,is,l,t,ty,c⟩) (hs:sz48 s) :
  evSpec K3h Tryd.f13 [curAV d p e a,hdAV v iu is l t ty c,i64 s,i64 at'] (fun r=>lmap AE.settle r = [(decU ⟨d,p,e,a⟩ ⟨v,iu,is,l,t,ty,c⟩ s at').1.av,(decU ⟨d,p,e,a⟩ ⟨v,iu,is,l,t,ty,c⟩ s at').2.av]):=by
 have hu':=hu
 obtain ⟨hp0,hp1,hd⟩:=hu
 simp only at hp0 hp1 hd
 obtain ⟨q0,q1,q2,q3,q4,q5,q6,q7⟩:=sum_pos hh hs
 have hbig:big' = 1000000000000:=rfl
 refine Eq.mpr (f13_in d p e a v iu is l t ty c s at' _) ?_
 generalize hH:(⟨v,iu,is,l,t,ty,c⟩:Hd) = h at *
 refine brn_intro (fun he=>?_) (fun he=>?_)
 ·have he':e≠0:=by simpa using he
  have:decU ⟨d,p,e,a⟩ h s at' = (zB,⟨d,p,e,a⟩):=by unfold decU; rw [if_neg (show ¬ e = 0 from he')]
  rw [this]
  rfl
 have he':e = 0:=by simpa using he
 subst he'
 have hr:restU ⟨d,p,0,a⟩ = (d.length:Int) - p:=by unfold restU; rw [if_pos rfl]
 have hw:IntKind.wrap .i64 ((d.length:Int) - p) = (d.length:Int) - p:=wrap64 (by omega) (by omega)
 have hw2:IntKind.wrap .u64 ((d.length:Int) - p) = (d.length:Int) - p:=wrapU (by omega) (by omega)
 rw [hw,hw2]
 have main:∀ X:Prop,(sumU h s≤(d.length:Int) - p→X)→brn (decide (sumU h s > (d.length:Int) - p)) (lmap AE.settle [AV.agg [AV.new (IV.ints IntKind.i64 []),AV.new (IV.bytes []),AV.new (IV.sl 3 []),AV.new (IV.bytes []),AV.new (IV.sl 2 []),AV.new (IV.bools []),AV.new (IV.bools [])],
   AV.agg [AV.imm (IV.bytes (failU ⟨d,p,0,a⟩ 1 d.length).d),AV.imm (IV.int IntKind.i64 (failU ⟨d,p,0,a⟩ 1 d.length).p),AV.imm (IV.int IntKind.i64 (failU ⟨d,p,0,a⟩ 1 d.length).e),AV.imm (IV.int IntKind.i64 (failU ⟨d,p,0,a⟩ 1 d.length).a)]] = [(decU ⟨d,p,0,a⟩ h s at').1.av,(decU ⟨d,p,0,a⟩ h s at').2.av]) X:=by
  intro X hX
  refine brn_intro (fun hb=>?_) (fun hb=>hX ?_)
  ·have hb':¬ sumU h s≤restU ⟨d,p,0,a⟩:=by
    rw [hr]
    have:sumU h s > (d.length:Int) - p:=by simpa using hb
    omega
   have:decU ⟨d,p,0,a⟩ h s at' = (zB,⟨d,p,1,d.length⟩):=by
    unfold decU fitsD
    rw [if_pos rfl,if_neg (by simpa using hb')]
   rw [this]
   have:failU ⟨d,p,0,a⟩ 1 d.length = ⟨d,p,1,d.length⟩:=by unfold failU; rw [if_pos ⟨rfl,by decide⟩]
   rw [this]
   rfl
  ·have:¬ sumU h s > (d.length:Int) - p:=by simpa using hb
   omega
 have hsum:sumU h s = l0 h s + l1 h + l2 h + l3 h + l4 h s + l5 h + l6 h:=rfl
 have e1:o1 h s = l0 h s:=rfl
 have e2:o2 h s = o1 h s + l1 h:=rfl
 have e3:o3 h s = o2 h s + l2 h:=rfl
 have e4:o4 h s = o3 h s + l3 h:=rfl
 have e5:o5 h s = o4 h s + l4 h s:=rfl
 have e6:o6 h s = o5 h s + l5 h:=rfl
 have e7:o7 h s = o6 h s + l6 h:=rfl
 have loop:sumU h s≤(d.length:Int) - p→∀ st,norm p13i st = some (I13 d p a h s at' 0)→LoopI K3h (bodyOf Tryd.f13) 0 st (finK K3h Tryd.f13 (fun r=>lmap AE.settle r = [(decU ⟨d,p,0,a⟩ h s at').1.av,(decU ⟨d,p,0,a⟩ h s at').2.av])):=by
  intro hb st hst
  unfold LoopI
  refine loop_rule (I13 d p a h s at') (fun i=>i≤7) (fun i=>7 - i) (fun i hP K' hnorm hexit=>?_) rfl 0 p13i _ (Nat.zero_le _) hst
  have:i = 0∨i = 1∨i = 2∨i = 3∨i = 4∨i = 5∨i = 6∨i = 7:=by omega
  rcases this with rfl | rfl | rfl | rfl | rfl | rfl | rfl | rfl
  ·rw [show I13 d p a h s at' 0 = h13x (l0 h s) (l1 h) (l2 h) (l3 h) (l4 h s) (l5 h) (l6 h) s at' d p 0 a (pcs (d.drop p.toNat) h s 0) 0 from rfl,f13_lp0]
   have w:IntKind.wrap .i64 (l0 h s) = l0 h s:=wrap64 (by omega) (by omega)
   have tr:=take_round (d:=d) (a:=a) (p:=p) (o:=0) (n:=l0 h s) hp0 (by omega) (by omega) (by omega)
   rw [Int.add_zero,Int.zero_add] at tr
   rw [w,tr.1,tr.2]
   have ok:okU ⟨d,p,0,a⟩:=⟨by show 0≤p; omega,by show p≤(d.length:Int); omega,hd⟩
   exact ⟨⟨ok,show (0 + 1) * 24≤140737488355328 by decide,show 0 + 1≤140737488355328 by decide,hnorm 1 q13 _ (by omega) (by omega) (by kernel_rfl)⟩,ok,show (0 + 1) * 24≤140737488355328 by decide,show 0 + 1≤140737488355328 by decide,hnorm 1 q13 _ (by omega) (by omega) (by kernel_rfl)⟩
  ·rw [show I13 d p a h s at' 1 = h13x (l0 h s) (l1 h) (l2 h) (l3 h) (l4 h s) (l5 h) (l6 h) s at' d (p + o1 h s) 0 a (pcs (d.drop p.toNat) h s 1) 1 from rfl,f13_lp1]
   have w:IntKind.wrap .i64 (l1 h) = l1 h:=wrap64 (by omega) (by omega)
   have tr:=take_round (d:=d) (a:=a) (p:=p) (o:=o1 h s) (n:=l1 h) hp0 (by omega) (by omega) (by omega)
   skip
   rw [w,tr.1,tr.2]
   have ok:okU ⟨d,(p + o1 h s),0,a⟩:=⟨by show 0≤(p + o1 h s); omega,by show (p + o1 h s)≤(d.length:Int); omega,hd⟩
   exact ⟨⟨ok,show (1 + 1) * 24≤140737488355328 by decide,show 1 + 1≤140737488355328 by decide,hnorm 2 q13 _ (by omega) (by omega) (by kernel_rfl)⟩,ok,show (1 + 1) * 24≤140737488355328 by decide,show 1 + 1≤140737488355328 by decide,hnorm 2 q13 _ (by omega) (by omega) (by kernel_rfl)⟩
  ·rw [show I13 d p a h s at' 2 = h13x (l0 h s) (l1 h) (l2 h) (l3 h) (l4 h s) (l5 h) (l6 h) s at' d (p + o2 h s) 0 a (pcs (d.drop p.toNat) h s 2) 2 from rfl,f13_lp2]
   have w:IntKind.wrap .i64 (l2 h) = l2 h:=wrap64 (by omega) (by omega)
   have tr:=take_round (d:=d) (a:=a) (p:=p) (o:=o2 h s) (n:=l2 h) hp0 (by omega) (by omega) (by omega)
   skip
   rw [w,tr.1,tr.2]
   have ok:okU ⟨d,(p + o2 h s),0,a⟩:=⟨by show 0≤(p + o2 h s); omega,by show (p + o2 h s)≤(d.length:Int); omega,hd⟩
   exact ⟨⟨ok,show (2 + 1) * 24≤140737488355328 by decide,show 2 + 1≤140737488355328 by decide,hnorm 3 q13 _ (by omega) (by omega) (by kernel_rfl)⟩,ok,show (2 + 1) * 24≤140737488355328 by decide,show 2 + 1≤140737488355328 by decide,hnorm 3 q13 _ (by omega) (by omega) (by kernel_rfl)⟩
  ·rw [show I13 d p a h s at' 3 = h13x (l0 h s) (l1 h) (l2 h) (l3 h) (l4 h s) (l5 h) (l6 h) s at' d (p + o3 h s) 0 a (pcs (d.drop p.toNat) h s 3) 3 from rfl,f13_lp3]
   have w:IntKind.wrap .i64 (l3 h) = l3 h:=wrap64 (by omega) (by omega)
   have tr:=take_round (d:=d) (a:=a) (p:=p) (o:=o3 h s) (n:=l3 h) hp0 (by omega) (by omega) (by omega)
   skip
   rw [w,tr.1,tr.2]
   have ok:okU ⟨d,(p + o3 h s),0,a⟩:=⟨by show 0≤(p + o3 h s); omega,by show (p + o3 h s)≤(d.length:Int); omega,hd⟩
   exact ⟨⟨ok,show (3 + 1) * 24≤140737488355328 by decide,show 3 + 1≤140737488355328 by decide,hnorm 4 q13 _ (by omega) (by omega) (by kernel_rfl)⟩,ok,show (3 + 1) * 24≤140737488355328 by decide,show 3 + 1≤140737488355328 by decide,hnorm 4 q13 _ (by omega) (by omega) (by kernel_rfl)⟩
  ·rw [show I13 d p a h s at' 4 = h13x (l0 h s) (l1 h) (l2 h) (l3 h) (l4 h s) (l5 h) (l6 h) s at' d (p + o4 h s) 0 a (pcs (d.drop p.toNat) h s 4) 4 from rfl,f13_lp4]
   have w:IntKind.wrap .i64 (l4 h s) = l4 h s:=wrap64 (by omega) (by omega)
   have tr:=take_round (d:=d) (a:=a) (p:=p) (o:=o4 h s) (n:=l4 h s) hp0 (by omega) (by omega) (by omega)
   skip
   rw [w,tr.1,tr.2]
   have ok:okU ⟨d,(p + o4 h s),0,a⟩:=⟨by show 0≤(p + o4 h s); omega,by show (p + o4 h s)≤(d.length:Int); omega,hd⟩
   exact ⟨⟨ok,show (4 + 1) * 24≤140737488355328 by decide,show 4 + 1≤140737488355328 by decide,hnorm 5 q13 _ (by omega) (by omega) (by kernel_rfl)⟩,ok,show (4 + 1) * 24≤140737488355328 by decide,show 4 + 1≤140737488355328 by decide,hnorm 5 q13 _ (by omega) (by omega) (by kernel_rfl)⟩
  ·rw [show I13 d p a h s at' 5 = h13x (l0 h s) (l1 h) (l2 h) (l3 h) (l4 h s) (l5 h) (l6 h) s at' d (p + o5 h s) 0 a (pcs (d.drop p.toNat) h s 5) 5 from rfl,f13_lp5]
   have w:IntKind.wrap .i64 (l5 h) = l5 h:=wrap64 (by omega) (by omega)
   have tr:=take_round (d:=d) (a:=a) (p:=p) (o:=o5 h s) (n:=l5 h) hp0 (by omega) (by omega) (by omega)
   skip
   rw [w,tr.1,tr.2]
   have ok:okU ⟨d,(p + o5 h s),0,a⟩:=⟨by show 0≤(p + o5 h s); omega,by show (p + o5 h s)≤(d.length:Int); omega,hd⟩
   exact ⟨⟨ok,show (5 + 1) * 24≤140737488355328 by decide,show 5 + 1≤140737488355328 by decide,hnorm 6 q13 _ (by omega) (by omega) (by kernel_rfl)⟩,ok,show (5 + 1) * 24≤140737488355328 by decide,show 5 + 1≤140737488355328 by decide,hnorm 6 q13 _ (by omega) (by omega) (by kernel_rfl)⟩
  ·rw [show I13 d p a h s at' 6 = h13x (l0 h s) (l1 h) (l2 h) (l3 h) (l4 h s) (l5 h) (l6 h) s at' d (p + o6 h s) 0 a (pcs (d.drop p.toNat) h s 6) 6 from rfl,f13_lp6]
   have w:IntKind.wrap .i64 (l6 h) = l6 h:=wrap64 (by omega) (by omega)
   have tr:=take_round (d:=d) (a:=a) (p:=p) (o:=o6 h s) (n:=l6 h) hp0 (by omega) (by omega) (by omega)
   skip
   rw [w,tr.1,tr.2]
   have ok:okU ⟨d,(p + o6 h s),0,a⟩:=⟨by show 0≤(p + o6 h s); omega,by show (p + o6 h s)≤(d.length:Int); omega,hd⟩
   exact ⟨⟨ok,show (6 + 1) * 24≤140737488355328 by decide,show 6 + 1≤140737488355328 by decide,hnorm 7 q13 _ (by omega) (by omega) (by kernel_rfl)⟩,ok,show (6 + 1) * 24≤140737488355328 by decide,show 6 + 1≤140737488355328 by decide,hnorm 7 q13 _ (by omega) (by omega) (by kernel_rfl)⟩
  ·generalize hD:d.drop p.toNat = D at *
   have hDl:(D.length:Int) = d.length - p:=by rw [← hD,List.length_drop]; omega
   rw [show I13 d p a h s at' 7 = h13x (l0 h s) (l1 h) (l2 h) (l3 h) (l4 h s) (l5 h) (l6 h) s at' d (p + o7 h s) 0 a [[.bytes (b0 D h s)],[.bytes (b1 D h s)],[.bytes (b2 D h s)],[.bytes (b3 D h s)],[.bytes (b4 D h s)],[.bytes (b5 D h s)],[.bytes (b6 D h s)]] 7 from by rw [← hD]; rfl,f13z_lp]
   refine hexit _ _ (by simp) ?_
   rw [f13_out]
   have m0:(((b0 D h s).length:Nat):Int)≤big':=by have:=pt_len D (x:=0) (n:=l0 h s) (by omega) (by omega) (by omega); unfold b0; omega
   have m2:(((b2 D h s).length:Nat):Int)≤1000000000000:=by have:=pt_len D (x:=o2 h s) (n:=l2 h) (by omega) (by omega) (by omega); unfold b2; omega
   have m4:(((b4 D h s).length:Nat):Int)≤big':=by have:=pt_len D (x:=o4 h s) (n:=l4 h s) (by omega) (by omega) (by omega); unfold b4; omega
   have m5:(((b5 D h s).length:Nat):Int)≤big':=by have:=pt_len D (x:=o5 h s) (n:=l5 h) (by omega) (by omega) (by omega); unfold b5; omega
   have m6:(((b6 D h s).length:Nat):Int)≤big':=by have:=pt_len D (x:=o6 h s) (n:=l6 h) (by omega) (by omega) (by omega); unfold b6; omega
   have hf:fitsD ⟨d,p,0,a⟩ h s = true:=by unfold fitsD; rw [hr]; simpa using hb
   have z:∀ n:Nat,(0:Int)≤n:=fun n=>Int.natCast_nonneg n
   refine ⟨by decide,(show (0:Int) < 7 by decide),rfl,hs,m0,by decide,(show (1:Int) < 7 by decide),rfl,by decide,(show (2:Int) < 7 by decide),rfl,m2,by decide,(show (3:Int) < 7 by decide),rfl,by decide,(show (4:Int) < 7 by decide),rfl,hs,m4,by decide,(show (5:Int) < 7 by decide),rfl,m5,by decide,(show (6:Int) < 7 by decide),rfl,m6,brn_intro (fun hk=>?_) (fun hk=>?_)⟩
   ·have hno:okD D h s = false:=by
     unfold okD
     cases h1:decOk (b2 D h s) <;> cases h2:indOk (b5 D h s) <;> cases h3:indOk (b6 D h s) <;> simp_all
    have:decU ⟨d,p,0,a⟩ h s at' = (zB,⟨d,p + sumU h s,10,at'⟩):=by
     unfold decU
     rw [if_pos rfl,if_pos hf]
     simp only [hD]
     rw [if_neg (by rw [hno]; decide)]
    rw [this]
    have:failU ⟨d,p + o7 h s,0,a⟩ 10 at' = ⟨d,p + sumU h s,10,at'⟩:=by unfold failU; rw [if_pos ⟨rfl,by decide⟩]; show (⟨d,p + o7 h s,10,at'⟩:Cu) = _; rw [show o7 h s = sumU h s by omega]
    rw [this]
    rfl
   ·have hyes:okD D h s = true:=by
     unfold okD
     cases h1:decOk (b2 D h s) <;> cases h2:indOk (b5 D h s) <;> cases h3:indOk (b6 D h s) <;> simp_all
    have hdec:decU ⟨d,p,0,a⟩ h s at' = (decB D h s,⟨d,p + sumU h s,0,a⟩):=by
     unfold decU
     rw [if_pos rfl,if_pos hf]
     simp only [hD]
     rw [if_pos hyes]
    rw [hdec,show o7 h s = sumU h s by omega]
    rfl
 refine ⟨⟨hh,hs,main _ (fun hb=>⟨hh,hs,loop hb _ (by kernel_rfl)⟩)⟩,hh,hs,main _ (fun hb=>⟨hh,hs,loop hb _ (by kernel_rfl)⟩)⟩
end Z19
set_option maxRecDepth 100000
namespace Z19
open Go Go.AE Go.Proofs Go.RowKit D6
attribute [local irreducible] loopK evCode evSpec loopB norm
theorem I3_ok:∀ f fn,I3 f = some fn→Tryd.prog.funcs[f]? = some fn∧(fn.name == "runtime.NumGoroutine") = false:=by
 intro f fn h
 unfold I3 at h
 cases h1:Nat.beq f 30 with
 | true=>rw [h1,cond_true] at h; cases h; obtain rfl:=nbeq h1; exact ⟨Tryd.func30,by kernel_rfl⟩
 | false=>rw [h1,cond_false] at h; cases h
theorem ok12:∀ args pres res,sDecode args = some (pres,res)→SpecOK Tryd.prog G16 12 args pres res:=by
 intro args pres res h
 unfold sDecode at h
 split at h
 case h_2=>cases h
 cases h
 exact spec_okS (C:=K3i) okF3 (inl_ok okF3 I3_ok 3) Tryd.func12 (by kernel_rfl) (by kernel_rfl) (fun hp=>f12_ok' _ _ _ _ _ _ _ _ _ _ _ _ _ (hp _ (by simp)) (hp _ (by simp)) (hp _ (by simp)))
theorem ok13:∀ args pres res,sDecode args = some (pres,res)→SpecOK Tryd.prog G16 13 args pres res:=by
 intro args pres res h
 unfold sDecode at h
 split at h
 case h_2=>cases h
 cases h
 exact spec_okS (C:=K3h) okF3 noCall_ok Tryd.func13 (by kernel_rfl) (by kernel_rfl) (fun hp=>f13_ok' _ _ _ _ _ _ _ _ _ _ _ _ _ (hp _ (by simp)) (hp _ (by simp)) (hp _ (by simp)))
theorem ok21:∀ args pres res,sEncode args = some (pres,res)→SpecOK Tryd.prog G16 21 args pres res:=by
 intro args pres res h
 unfold sEncode blkS at h
 split at h
 case h_2=>cases h
 try dsimp only at h
 split at h
 case h_2=>cases h
 cases h
 exact spec_ok (C:=K3h) okF3 noCall_ok Tryd.func21 (by kernel_rfl) (by kernel_rfl) (fun hp=>f21_ev _ _ _ _ _ _ _ _ (hp _ (by simp)) (hp _ (by simp)) _ rfl)
theorem ok22:∀ args pres res,sEncode args = some (pres,res)→SpecOK Tryd.prog G16 22 args pres res:=by
 intro args pres res h
 unfold sEncode blkS at h
 split at h
 case h_2=>cases h
 try dsimp only at h
 split at h
 case h_2=>cases h
 cases h
 exact mk okF3 Tryd.func22 (by kernel_rfl) (by kernel_rfl) (fun hp K hK=>f22_ev _ _ _ _ _ _ _ _ (hp _ (by simp)) (hp _ (by simp)) K hK)
theorem okF4:EOK Tryd.prog F4 G16:=addE_ok (addE_ok (addE_ok (addE_ok okF3 ok12) ok13) ok21) ok22
end Z19
set_option maxRecDepth 100000
namespace Z19
open Go Go.AE Go.Proofs D6
attribute [local irreducible] loopK evCode evSpec loopB norm
theorem sz_w (w:Bool):∃ n:Nat,(n = 4∨n = 8)∧(if w = true then (8:Int) else 4) = (n:Int):=by
 cases w
 ·exact ⟨4,.inl rfl,rfl⟩
 ·exact ⟨8,.inr rfl,rfl⟩
end Z19
set_option maxRecDepth 100000
namespace Z19
open Go Go.AE Go.Proofs D6
attribute [local irreducible] loopK evCode evSpec loopB norm
def tyB (t:Ty):Bool:=decide (-2147483648≤t.o) && (decide (t.o≤2147483647) && (decide (0≤t.g) && decide (t.g≤255)))
theorem okT_of {xs:List (List IV)} (h1:xs = (tys xs).map cellsT) (h2:(tys xs).all tyB = true):okT xs:=by
 refine ⟨h1,fun t ht=>?_⟩
 have:=List.all_eq_true.1 h2 t ht
 unfold tyB at this
 simp only [Bool.and_eq_true,decide_eq_true_eq] at this
 exact this
theorem okL_nil:okL []:=⟨rfl,fun t ht=>by cases ht⟩
set_option maxHeartbeats 4000000 in
theorem f8_ev (K:List AV→Prop) (hK:K [bo true]):evSpec K4h Tryd.f8 [] K:=by
 refine Eq.mpr (f8_in K) ?_
 intro Q1 Q2 Q3 Q4 Q5 Q6 E1 E2 E3
 have e1:E1:=rfl
 have e2:E2:=rfl
 have e3:E3:=rfl
 have u1:okU (Cu.mk Q1 0 0 0):=by
  unfold okU
  exact of_decide_eq_true (by kernel_rfl)
 have u2:okU (Cu.mk (List.take (Int.toNat (20:Int) - (0:Nat)) (List.drop (0:Nat) Q1)) 0 0 0):=by
  unfold okU
  exact of_decide_eq_true (by kernel_rfl)
 have u3:okU (Cu.mk (List.set (List.map u8 [] ++ Q1) (Int.toNat (20:Int)) (u8 (2:Int))) 0 0 0):=by
  unfold okU
  exact of_decide_eq_true (by kernel_rfl)
 have u4:okH (Hd.mk (Hd.v Q2) (Hd.iu Q2) (Hd.is Q2) (Hd.l Q2) (Hd.t Q2) (Hd.ty Q2) (Hd.c Q2)):=by
  unfold okH U32
  exact of_decide_eq_true (by kernel_rfl)
 have s4:sz48 4:=.inl rfl
 have s8:sz48 8:=.inr rfl
 have t1:okT (List.replicate (Int.toNat (1:Int)) [IV.int IntKind.i32 (0:Int),IV.bool false,IV.int IntKind.u8 (0:Int)]):=okT_of (by kernel_rfl) (by kernel_rfl)
 have t2:okT [[IV.int IntKind.i32 (0:Int),IV.bool false,IV.int IntKind.u8 (0:Int)],[IV.int IntKind.i32 (60:Int),IV.bool true,IV.int IntKind.u8 (1:Int)]]:=okT_of (by kernel_rfl) (by kernel_rfl)
 have t3:okT (List.map cellsT (Bk.X (Prod.fst Q3))):=okT_of (by kernel_rfl) (by kernel_rfl)
 have l1:okL []:=okL_nil
 have l2:okL (List.map cellsL (Bk.L (Prod.fst Q3))):=by
  have:List.map cellsL (Bk.L (Prod.fst Q3)) = []:=by kernel_rfl
  rw [this]; exact l1
 have x1:okE [] [] (List.replicate (Int.toNat (1:Int)) [IV.int IntKind.i32 (0:Int),IV.bool false,IV.int IntKind.u8 (0:Int)]) (List.map u8 [(0:Int)]) [] [] []:=⟨t1,l1,of_decide_eq_true (by kernel_rfl)⟩
 have x2:okE [(-1:Int)] (List.map u8 [(1:Int)]) [[IV.int IntKind.i32 (0:Int),IV.bool false,IV.int IntKind.u8 (0:Int)],[IV.int IntKind.i32 (60:Int),IV.bool true,IV.int IntKind.u8 (1:Int)]] (List.map u8 [(0:Int),(0:Int)]) [] [false,true] []:=⟨t2,l1,of_decide_eq_true (by kernel_rfl)⟩
 have b1:okB [] [] (List.replicate (Int.toNat (1:Int)) [IV.int IntKind.i32 (0:Int),IV.bool false,IV.int IntKind.u8 (0:Int)]) (List.map u8 [(0:Int)]) [] [] []:=⟨t1,l1,of_decide_eq_true (by kernel_rfl)⟩
 have b2:okB [(-1:Int)] (List.map u8 [(1:Int)]) [[IV.int IntKind.i32 (0:Int),IV.bool false,IV.int IntKind.u8 (0:Int)],[IV.int IntKind.i32 (60:Int),IV.bool true,IV.int IntKind.u8 (1:Int)]] (List.map u8 [(0:Int),(0:Int)]) [] [false,true] []:=⟨t2,l1,of_decide_eq_true (by kernel_rfl)⟩
 have b3:okB (Bk.T (Prod.fst Q3)) (Bk.I (Prod.fst Q3)) (List.map cellsT (Bk.X (Prod.fst Q3))) (Bk.C (Prod.fst Q3)) (List.map cellsL (Bk.L (Prod.fst Q3))) (Bk.S (Prod.fst Q3)) (Bk.U (Prod.fst Q3)):=⟨t3,l2,of_decide_eq_true (by kernel_rfl)⟩
 have c1:(0:Int)≤(20:Int):=by decide
 have c2:(20:Int)≤(↑(List.length Q1):Int):=of_decide_eq_true (by kernel_rfl)
 intro R1 R2 R3 R4
 have r1:R1:=by show _∧_; repeat' (first | assumption | apply And.intro)
 have r2:R2:=by show _∧_; repeat' (first | assumption | apply And.intro)
 have r3:R3:=by show _∧_; repeat' (first | assumption | apply And.intro)
 have r4:R4:=by show _∧_; repeat' (first | assumption | apply And.intro)
 clear_value E1 E2 E3 R1 R2 R3 R4
 have hb:((↑(List.length Q1):Int) != (21:Int)) = false:=by kernel_rfl
 rw [hb]
 repeat' (first | assumption | exact fun _=>b1 | exact fun _=>b2 | exact fun _=>b3 | exact of_decide_eq_true (by kernel_rfl) | exact fun _=>of_decide_eq_true (by kernel_rfl) | apply And.intro | show _∧_)
 exact (congrArg (fun b=>K [.imm (.bool b)]) (by kernel_rfl:_ = true)).mpr hK
theorem ok8:∀ args pres res,sAwake args = some (pres,res)→SpecOK Tryd.prog G16 8 args pres res:=by
 intro args pres res h
 unfold sAwake at h
 split at h
 case h_2=>cases h
 cases h
 exact spec_ok (C:=K4h) okF4 noCall_ok Tryd.func8 (by kernel_rfl) (by kernel_rfl) (fun _=>f8_ev _ rfl)
theorem okF5:EOK Tryd.prog F5 G16:=addE_ok okF4 ok8
end Z19
namespace Go.AE
open Go.ChangeShapes Go.WideShapes Go.ChangeAt Go.RowKit
section
variable {H:Type} {enc:TypeId×Value→H} {P:Program}
theorem args_stay (hl:laidOutB P = true) {W W':World} {sp':Nat→Bool}:∀ {ts:List TypeId} {vs:List Value} {ds:List (DataW H)} {ps:List MemPlace},
  lall (fun t=>bif P.readableRec t then decide (t < P.types.size) else false) ts = true→DataW.TrodAll enc P W 0 (fun _=>true) true ts vs ds ps→(∀ p ∈ ps,W.sameAt W' p)→(∀ p ∈ ps,sp' p.block = true) →
  DataW.TrodAll enc P W' 0 sp' true ts vs ds ps
 | [],[],[],_,_,h,_,_=>h
 | [],_ :: _,_,_,_,h,_,_=>h.elim
 | [],[],_ :: _,_,_,h,_,_=>h.elim
 | _ :: _,[],_,_,_,h,_,_=>h.elim
 | _ :: _,_ :: _,[],_,_,h,_,_=>h.elim
 | t :: ts,v :: vs,d :: ds,ps,hc,h,hs,hp=>by
  obtain ⟨p,q,h1,h2,rfl⟩:=h
  rw [lall] at hc
  cases hb:(bif P.readableRec t then decide (t < P.types.size) else false) with
  | false=>rw [hb] at hc; cases hc
  | true =>
   rw [hb] at hc
   cases hr:P.readableRec t with
   | false=>rw [hr] at hb; cases hb
   | true =>
    rw [hr] at hb
    exact ⟨p,q,WideElems.Trod_stays hl hr (of_decide_eq_true hb) h1 (fun x hx=>hs x (by simp [hx])) (fun x hx=>hp x (by simp [hx])),
     args_stay hl hc h2 (fun x hx=>hs x (by simp [hx])) (fun x hx=>hp x (by simp [hx])),rfl⟩
end
inductive KRep:List CK→List IV→List Value→Prop
 | nil:KRep [] [] []
 | int {k:IntKind} {n:Int} {ks:List CK} {is:List IV} {vs:List Value}:InR k n→KRep ks is vs→KRep (.int k :: ks) (.int k n :: is) (.int k n :: vs)
 | bool {b:Bool} {ks:List CK} {is:List IV} {vs:List Value}:KRep ks is vs→KRep (.bool :: ks) (.bool b :: is) (.bool b :: vs)
 | str {s:ByteArray} {ks:List CK} {is:List IV} {vs:List Value}:(bytesOf s).length≤9223372036854775807→KRep ks is vs→KRep (.str :: ks) (.str (bytesOf s) :: is) (.string s :: vs)
theorem KRep.app {ks ks':List CK} {is is':List IV} {vs vs':List Value} (h:KRep ks is vs) (h':KRep ks' is' vs'):KRep (ks ++ ks') (is ++ is') (vs ++ vs'):=by
 induction h with
 | nil=>exact h'
 | int h1 _ ih=>exact .int h1 ih
 | bool _ ih=>exact .bool ih
 | str h1 _ ih=>exact .str h1 ih
theorem KRep.len {ks:List CK} {is:List IV} {vs:List Value} (h:KRep ks is vs):is.length = ks.length∧vs.length = ks.length:=by
 induction h with
 | nil=>exact ⟨rfl,rfl⟩
 | int _ _ ih=>simp [ih]
 | bool _ ih=>simp [ih]
 | str _ _ ih=>simp [ih]
theorem KRep.cons_int {k:IntKind} {ks:List CK} {is:List IV} {vs:List Value} (h:KRep (.int k :: ks) is vs):∃ n is' vs',is = .int k n :: is'∧vs = .int k n :: vs'∧InR k n∧KRep ks is' vs':=by
 cases h with
 | int h1 h2=>exact ⟨_,_,_,rfl,rfl,h1,h2⟩
theorem KRep.cons_bool {ks:List CK} {is:List IV} {vs:List Value} (h:KRep (.bool :: ks) is vs):∃ b is' vs',is = .bool b :: is'∧vs = .bool b :: vs'∧KRep ks is' vs':=by
 cases h with
 | bool h2=>exact ⟨_,_,_,rfl,rfl,h2⟩
theorem KRep.end {is:List IV} {vs:List Value} (h:KRep [] is vs):is = []∧vs = []:=by
 cases h; exact ⟨rfl,rfl⟩
theorem KRep.rep {w:World} {own:Nat→Prop} {ks:List CK} {is:List IV} {vs:List Value} (h:KRep ks is vs):∀ (j:Nat) c,is[j]? = some c→Rep w own c (vs.getD j undef)∧(vs.getD j undef).oneCell' = true:=by
 have one:∀ {c:IV} {V:Value} {is:List IV} {vs:List Value},Rep w own c V→(∀ (j:Nat) c,is[j]? = some c→Rep w own c (vs.getD j undef)∧(vs.getD j undef).oneCell' = true) →
   ∀ (j:Nat) c',(c :: is)[j]? = some c'→Rep w own c' ((V :: vs).getD j undef)∧((V :: vs).getD j undef).oneCell' = true:=by
  intro c V is vs h1 h2 j c' hc
  cases j with
  | zero=>simp only [List.getElem?_cons_zero,Option.some.injEq] at hc; subst hc; exact ⟨h1,h1.oneCell⟩
  | succ j=>exact h2 j c' (by simpa using hc)
 induction h with
 | nil=>intro j c hc; simp at hc
 | int h1 _ ih=>exact one (.int h1) ih
 | bool _ ih=>exact one .bool ih
 | str h1 _ ih=>exact one (.str rfl h1) ih
section
variable {H:Type} {enc:TypeId×Value→H} {P:Program} {w:World} {base:Nat} {sp:Nat→Bool} {held:Bool}
theorem inR_wf {k:IntKind} {n:Int} (h:(Lit.int k n).wf = true):InR k n:=by
 simp only [Lit.wf,Bool.and_eq_true,decide_eq_true_eq] at h
 exact ⟨by have:=h.1; omega,by have:=h.2; omega⟩
mutual
theorem flat_open:∀ (d:Nat) {t:TypeId} {ks:List CK} {n:Nat} {cs:List Value} {x:DataW H×List MemPlace},flatK P false d t = some ks→DataW.trod enc P w base sp held n t cs = some x→(∃ is,KRep ks is cs)∧x.2 = []
 | 0,t,ks,n,cs,x,h,_=>by simp [flatK] at h
 | d + 1,t,ks,n,cs,x,h,hx=>by
  unfold flatK at h
  split at h
  ·rename_i k hu
   cases h
   obtain ⟨m,rfl,rfl,hw⟩:=DataW.trod_int hu hx
   exact ⟨⟨[.int k m],.int (inR_wf hw) .nil⟩,rfl⟩
  ·rename_i hu
   cases h
   obtain ⟨b,rfl,rfl⟩:=DataW.trod_bool hu hx
   exact ⟨⟨[.bool b],.bool .nil⟩,rfl⟩
  ·rename_i hu
   cases h
   obtain ⟨s,rfl,rfl,hs⟩:=DataW.trod_string hu hx
   exact ⟨⟨[.str (bytesOf s)],.str (by rw [← size_bytes]; exact hs) .nil⟩,rfl⟩
  ·rename_i fs hu
   obtain ⟨xs,m,rfl,rfl,hlen,hsz,hf⟩:=DataW.trod_struct hu hx
   cases hF:flatF P false d 0 fs.toList with
   | none=>rw [hF] at h; cases h
   | some ks' =>
    rw [hF] at h
    cases hb:Nat.beq (llen ks') (P.cellsOf t) with
    | false=>simp only [hb,cond_false] at h; cases h
    | true =>
     simp only [hb,cond_true] at h
     cases h
     have hb':=nbeq hb
     obtain ⟨⟨is,his⟩,hp⟩:=flatF_open d (o:=0) (xs:=xs) (cs:=cs) (n:=m) hF (by simp [hsz]) (fun i f hi=>hf i f (by simpa using hi))
     refine ⟨⟨is,?_⟩,?_⟩
     ·rw [List.drop_zero,List.take_of_length_le (by rw [hlen,← hb',llen_eq]; exact Nat.le_refl _)] at his
      exact his
     ·simp only [List.flatMap_eq_nil_iff]
      exact hp
  ·cases h
  ·cases h
  ·cases h
theorem flatF_open:∀ (d:Nat) {o:Nat} {fs:List Field} {ks:List CK} {n:Nat} {cs:List Value} {xs:List (DataW H×List MemPlace)},flatF P false d o fs = some ks→xs.length = fs.length →
  (∀ (i:Nat) (f:Field),fs[i]? = some f→DataW.trod enc P w base sp held n f.type ((cs.drop f.offset).take (P.cellsOf f.type)) = xs[i]?)→(∃ is,KRep ks is ((cs.drop o).take ks.length))∧∀ x ∈ xs,x.2 = []
 | 0,o,fs,ks,n,cs,xs,h,_,_=>by simp [flatF] at h
 | d + 1,o,[],ks,n,cs,xs,h,hl,_=>by
  simp only [flatF] at h
  cases h
  have:xs = []:=by simpa using hl
  subst this
  exact ⟨⟨[],by simpa using KRep.nil⟩,fun x hx=>by cases hx⟩
 | d + 1,o,f :: r,ks,n,cs,xs,h,hl,hf=>by
  unfold flatF at h
  cases hK:flatK P false d f.type with
  | none=>rw [hK] at h; cases h
  | some k1 =>
   rw [hK] at h
   cases hb:Nat.beq f.offset o with
   | false=>simp only [hb,cond_false] at h; cases h
   | true =>
    simp only [hb,cond_true] at h
    cases hb2:Nat.beq (llen k1) (P.cellsOf f.type) with
    | false=>simp only [hb2,cond_false] at h; cases h
    | true =>
     simp only [hb2,cond_true] at h
     cases hF:flatF P false d (o + llen k1) r with
     | none=>rw [hF] at h; cases h
     | some k2 =>
      rw [hF] at h
      simp only [omap,Option.some.injEq] at h
      subst h
      match xs,hl with
      | x :: xs,hl =>
       have h0:=hf 0 f rfl
       have e1:=nbeq hb
       have e2:=nbeq hb2
       obtain ⟨⟨i1,hi1⟩,hp1⟩:=flat_open d hK (by simpa using h0)
       obtain ⟨⟨i2,hi2⟩,hp2⟩:=flatF_open d (n:=n) (cs:=cs) (xs:=xs) hF (by simpa using hl) (fun i f hi=>by simpa using hf (i + 1) f (by simpa using hi))
       refine ⟨⟨i1 ++ i2,?_⟩,?_⟩
       ·rw [lapp_eq,List.length_append]
        have:(cs.drop o).take (k1.length + k2.length) = ((cs.drop o).take k1.length) ++ ((cs.drop (o + k1.length)).take k2.length):=by
         rw [List.take_add,List.drop_drop]
        rw [this]
        have h3:KRep k1 i1 ((cs.drop o).take k1.length):=by
         rw [← llen_eq,e2,← e1]; exact hi1
        refine h3.app ?_
        rw [llen_eq] at hi2
        exact hi2
       ·intro y hy
        rcases List.mem_cons.1 hy with rfl | hy
        ·exact hp1
        ·exact hp2 y hy
end
end
theorem bool_calls {P:Program} {G:Nat→Option (List AV)} {f:FuncId} {args:List AV} {pres:List Prop} {b:Bool} (h:SpecOK P G f args pres [.imm (.bool b)]) (hp:∀ p,p ∈ pres→p) (w:World) (vals:Array Value) (hs:vals.size = args.length)
  (ha:∀ (j:Nat) c,args[j]? = some c→ARep (zeroGh w (fun _=>False)) c (vals.getD j undef)) (hG:GOK G w (fun _=>False)):Calls P f vals w fun e w'=>e = .returned (.bool b)∧RowKit.Below w.heap.size w w':=by
 refine (h.calls hp w (fun _=>False) vals (fun _ h=>h.elim) hs ha hG).mono ?_
 rintro e w' ⟨Vs,bs,rfl,hb,hr,_⟩
 refine ⟨?_,hb⟩
 cases hr with
 | one _ h1 _ h2 =>
  cases h2
  cases h1 with
  | imm h3 _ =>
   have:=rep_bool h3
   subst this
   rfl
theorem post_of_below {H:Type} {enc:TypeId×Value→H} {P:Program} {f:Func} {s:ChangeSpec} {apart fresh handsOn again:Bool} {W W':World} {args:Array Value} {v:Value} {ds gs:List (DataW H)} {before pa pv:List MemPlace}
  (hW:DataW.Whole enc P f.params.toList s.vars apart W args.toList ds gs before)
  (hres:∀ (b:Nat) (sp:Nat→Bool) (hd:Bool),DataW.TrodAll enc P W' b sp hd f.resultTypes.toList (v.resultList f.resultTypes.size) (s.fn H (ds ++ gs)).results [])
  (hargs:∀ sp:Nat→Bool,(∀ p ∈ before,sp p.block = true)→DataW.TrodAll enc P W' 0 sp true f.params.toList args.toList (s.fn H (ds ++ gs)).args pa)
  (hvars:∀ sp:Nat→Bool,(∀ p ∈ before,sp p.block = true)→DataW.TrodVars enc P W' sp s.vars (s.fn H (ds ++ gs)).vars pv)
  (hps:before = pa ++ pv) (hb:Below W.heap.size W W')
  (hok:∀ (j:Nat) (t:TypeId) (r:Value),f.resultTypes[j]? = some t→(v.resultList f.resultTypes.size)[j]? = some r→Value.okWide P W' .any 0 t r) :
  s.post enc P f apart fresh handsOn again W args v W':=by
 have hold:∀ p ∈ before,(fun b=>decide (b < W.heap.size)) p.block = true:=fun p hp=>by simpa using hW.lt p hp
 have hlt:∀ p ∈ before,p.block < W.heap.size:=fun p hp=>hW.lt p hp
 refine ⟨ds,gs,before,[],pa,pv,hW,hres _ _ _,hargs _ hold,hvars _ hold,World.keptBut_mono (fun p hp=>⟨hp,?_⟩) (hb.frame (· ∈ before)),fun _=>?_⟩
 ·rw [hps,List.mem_append] at hp
  exact Or.inr hp
 ·obtain ⟨_,_,_,_,_,hz,hn⟩:=hW
  refine ⟨hok,_,_,([] ++ pa) ++ pv,⟨[] ++ pa,pv,trodAll_append (hargs _ (fun _ _=>rfl)) (hres _ _ _),hvars _ (fun _ _=>rfl),rfl,?_,?_⟩,?_⟩
  ·intro b off hp
   have hp':MemPlace.cell b off ∈ before:=by rw [hps]; simpa using hp
   rw [World.frozen?_of_block (hb.block _ (hlt _ hp'))]
   exact hz b off hp'
  ·intro ha
   have:=hn ha
   rw [hps] at this
   simpa using this
  ·intro p hp _
   rw [hps]
   simpa using hp
section
variable {H:Type} {enc:TypeId×Value→H} {P:Program} {w:World}
theorem all_cons {base:Nat} {sp:Nat→Bool} {held:Bool} {t:TypeId} {ts:List TypeId} {vs:List Value} {ds:List (DataW H)} {ps:List MemPlace} (h:DataW.TrodAll enc P w base sp held (t :: ts) vs ds ps) :
  ∃ v vs' d ds' p q,vs = v :: vs'∧ds = d :: ds'∧DataW.Trod enc P w base sp held t v d p∧DataW.TrodAll enc P w base sp held ts vs' ds' q∧ps = p ++ q:=by
 match vs,ds,h with
 | v :: vs',d :: ds',h =>
  obtain ⟨p,q,h1,h2,h3⟩:=h
  exact ⟨v,vs',d,ds',p,q,rfl,rfl,h1,h2,h3⟩
theorem all_nil {base:Nat} {sp:Nat→Bool} {held:Bool} {vs:List Value} {ds:List (DataW H)} {ps:List MemPlace} (h:DataW.TrodAll enc P w base sp held [] vs ds ps):vs = []∧ds = []∧ps = []:=by
 match vs,ds,h with
 | [],[],h=>exact ⟨rfl,rfl,h⟩
theorem open_flat {r:Reach} {b0 base:Nat} {sp:Nat→Bool} {held:Bool} {t:TypeId} {fs:Array Field} {ks:List CK} {v:Value} {d:DataW H} {ps:List MemPlace} (hu:P.underlying t = some (.struct fs)) (hk:flatK P false 40 t = some ks)
  (hval:Value.okWide P w r b0 t v) (hd:DataW.Trod enc P w base sp held t v d ps):∃ is l,v = .agg ⟨l⟩∧KRep ks is l:=by
 obtain ⟨⟨l⟩,rfl,_⟩:=okWide_struct hu hval
 obtain ⟨fuel,hf⟩:=hd
 obtain ⟨⟨is,h⟩,_⟩:=flat_open 40 hk hf
 exact ⟨is,l,rfl,h⟩
theorem KRep.arep {g:Gh} {ks:List CK} {is:List IV} {vs:List Value} (h:KRep ks is vs):ARep g (.agg (lmap .imm is)) (.agg ⟨vs⟩):=by
 have hl:=h.len
 have e:∀ j,(⟨vs⟩:Array Value).getD j undef = vs.getD j undef:=fun j=>by simp [Array.getD_eq_getD_getElem?,List.getD_eq_getElem?_getD]
 refine .agg (by rw [lmap_eq]; simp [hl]) (fun j c hc=>?_) (fun j hj=>?_)
 ·rw [lmap_eq,List.getElem?_map] at hc
  cases hi:is[j]? with
  | none=>rw [hi] at hc; cases hc
  | some i =>
   rw [hi] at hc
   cases hc
   rw [e]
   exact .imm (h.rep (w:=g.w) (own:=g.own) j i hi).1
 ·have hj':j < is.length:=by simp at hj; omega
  rw [e]
  exact (h.rep (w:=g.w) (own:=g.own) j is[j] (List.getElem?_eq_getElem hj')).2
theorem row_post {f:Func} {s:ChangeSpec} {apart fresh handsOn again:Bool} {W W':World} {args:Array Value} {ds:List (DataW H)} {before:List MemPlace} {tb:TypeId}
  (hW:DataW.Whole enc P f.params.toList s.vars apart W args.toList ds [] before) (hv:s.vars = []) (hl:laidOutB P = true) (hc:lall (fun t=>bif P.readableRec t then decide (t < P.types.size) else false) f.params.toList = true)
  (hfn:s.fn H (ds ++ []) = { results:=[.lit (.bool true)],args:=ds }) (hr:f.resultTypes = #[tb]) (hu:P.underlying tb = some .bool) (hb:Below W.heap.size W W'):s.post enc P f apart fresh handsOn again W args (.bool true) W':=by
 have hW0:=hW
 obtain ⟨p,q,hA,hV,rfl,_,_⟩:=hW
 rw [hv] at hV
 obtain ⟨_,rfl⟩:=trodVars_none hV
 refine post_of_below (ds:=ds) (gs:=[]) (pa:=p) (pv:=[]) hW0 (fun b sp hd=>?_) (fun sp hsp=>?_) (fun sp hsp=>?_) rfl hb ?_
 ·rw [hfn,hr]
  exact trodAll_mk1 (shut_bool hu true)
 ·rw [hfn]
  exact args_stay hl hc hA (fun x hx=>hb.same (hW0.lt x (by simp [hx]))) (fun x hx=>hsp x (by simp [hx]))
 ·rw [hfn,hv]
  rfl
 ·intro j t r ht hr'
  rw [hr] at ht hr'
  cases j with
  | zero =>
   cases ht
   cases hr'
   exact okWide_bool_mk hu true
  | succ j=>simp at ht
end
end Go.AE
namespace Go.AE
open Go.ChangeShapes Go.WideShapes Go.ChangeAt Go.RowKit
section
variable {H:Type} {enc:TypeId×Value→H} {P:Program} {w:World}
theorem open_slice {t e:TypeId} {ks:List CK} {b0:Nat} {v:Value} {d:DataW H} {ps:List MemPlace} {r:Reach} {sp:Nat→Bool} {held:Bool} {base:Nat} (ht:P.underlying t = some (.slice e)) (hk:flatK P false 40 e = some ks) (hc:P.cellsOf e = ks.length) (hb:1≤P.bytesOf e)
  (hval:Value.okWide P w r b0 t v) (hd:DataW.Trod enc P w base sp held t v d ps) (hsz:∀ el rs,d = .slice el rs→(el.length + rs.length) * P.bytesOf e≤reachBytes) :
  ∃ xs:List (List IV),(∀ x ∈ xs,∃ vs,KRep ks x vs)∧xs.length≤281474976710656∧∀ iv:IV,iv.isSl = true→iv.len = some xs.length→iv.esize = ks.length→(∀ i j c,iv.cellAt i j = some c→(xs[i]?).bind (·[j]?) = some c)→Rep w (fun _=>False) iv v:=by
 obtain ⟨fuel,hf⟩:=hd
 rcases DataW.trod_slice ht hf with ⟨h0,_⟩ | ⟨a,len,cap,elems,rest,n,_,hcs,hx,_,hl,hm,hlen,hel,_⟩
 ·refine ⟨[],⟨(fun x hx=>absurd hx (by simp)),by simp,fun iv h1 h2 _ _=>?_⟩⟩
  obtain ⟨a',l',c',rfl⟩:=okWide_slice ht hval
  simp only [Value.cells,List.cons.injEq,and_true] at h0
  rw [h0]
  exact .nilSlice h1 h2
 ·obtain ⟨a',l',c',rfl⟩:=okWide_slice ht hval
  simp only [Value.cells,List.cons.injEq,and_true] at hcs
  simp only [Value.slice.injEq] at hcs
  obtain ⟨rfl,rfl,rfl⟩:=hcs
  have hv:l'≤c'∧(c':Int)≤IntKind.i64.max∧w.has P r b0 a e c':=by
   simpa [Value.okWide,Cell.okWide,Cell.ok,ht] using hval
  obtain ⟨_,hcap,_,_,row,cells,hsh,_⟩:=hv
  have hblk:a.block < w.heap.size:=by
   unfold World.shape? at hsh
   cases hq:w.heap[a.block]? with
   | none=>rw [hq] at hsh; cases hsh
   | some o=>exact (Array.getElem?_eq_some_iff.1 hq).1
  have each:∀ i (hi:i < elems.length),∃ cs is,w.cells? base (a.add (i * P.cellsOf e)) (P.cellsOf e) = some cs∧KRep ks is cs:=by
   intro i hi
   have h1:=hel i (by omega)
   rw [List.getElem?_eq_getElem hi,Option.bind_eq_some_iff] at h1
   obtain ⟨cs,hcs,hy⟩:=h1
   obtain ⟨⟨is,his⟩,_⟩:=flat_open 40 hk hy
   exact ⟨cs,is,hcs,his⟩
  have hcap':c'≤9223372036854775807:=by
   have h9:IntKind.i64.max = 9223372036854775807:=rfl
   rw [h9] at hcap; omega
  have hch:∃ F:Nat→List Value×List IV,∀ i,i < elems.length→w.cells? base (a.add (i * P.cellsOf e)) (P.cellsOf e) = some (F i).1∧KRep ks (F i).2 (F i).1:=by
   refine ⟨fun i=>if hi:i < elems.length then ((each i hi).choose,(each i hi).choose_spec.choose) else ([],[]),fun i hi=>?_⟩
   simp only [dif_pos hi]
   exact (each i hi).choose_spec.choose_spec
  obtain ⟨F,hF⟩:=hch
  have hlen2:l'≤281474976710656:=by
   have hxs:=hsz (elems.map (·.1)) (rest.map (·.1)) (congrArg Prod.fst hx)
   simp only [List.length_map] at hxs
   have:elems.length + rest.length≤(elems.length + rest.length) * P.bytesOf e:=Nat.le_mul_of_pos_right _ hb
   unfold reachBytes at hxs
   omega
  refine ⟨(List.range l').map fun i=>(F i).2,fun x hx=>?_,by simpa using hlen2,fun iv h1 h2 h3 h4=>?_⟩
  ·obtain ⟨i,hi,rfl⟩:=List.mem_map.1 hx
   have:=List.mem_range.1 hi
   exact ⟨_,(hF i (by omega)).2⟩
  ·have key:∀ i j c,iv.cellAt i j = some c→i < l'∧(F i).2[j]? = some c:=by
    intro i j c hcc
    have h5:=h4 i j c hcc
    rw [List.getElem?_map] at h5
    cases hi:(List.range l')[i]? with
    | none=>rw [hi] at h5; cases h5
    | some i' =>
     rw [hi] at h5
     obtain ⟨h6,h7⟩:=List.getElem?_eq_some_iff.1 hi
     simp only [List.length_range] at h6
     simp only [List.getElem_range] at h7
     subst h7
     exact ⟨h6,by simpa using h5⟩
   refine .slice (fun i j=>(F i).1.getD j undef) h1 (by simpa using h2) hl hcap' hlen2 (fun h=>h) hblk (fun i j c hcc=>?_) (fun i j c hcc=>?_)
   ·obtain ⟨hi,hj⟩:=key i j c hcc
    obtain ⟨hc1,hk1⟩:=hF i (by omega)
    obtain ⟨_,hn1,hcell⟩:=World.cells?_some hc1
    have hj':j < ks.length:=by rw [← hk1.len.1]; exact (List.getElem?_eq_some_iff.1 hj).1
    have:=hcell j (by rw [hc]; exact hj')
    rw [h3,← hc]
    have e1:(a.add (i * P.cellsOf e)).add j = a.add (i * P.cellsOf e + j):=by
     unfold Addr.add; split <;> split <;> simp_all <;> omega
    rw [e1] at this
    rw [this,List.getElem?_eq_getElem (by rw [hn1,hc]; exact hj')]
    simp [List.getD_eq_getElem?_getD,List.getElem?_eq_getElem (show j < (F i).1.length by rw [hn1,hc]; exact hj')]
   ·obtain ⟨hi,hj⟩:=key i j c hcc
    obtain ⟨hc1,hk1⟩:=hF i (by omega)
    exact (hk1.rep j c hj).1
theorem open_byteslice {t e:TypeId} {b0:Nat} {v:Value} {d:DataW H} {ps:List MemPlace} {r:Reach} {sp:Nat→Bool} {held:Bool} {base:Nat} (ht:P.underlying t = some (.slice e)) (hk:flatK P false 40 e = some [.int .u8]) (hc:P.cellsOf e = 1) (hb:1≤P.bytesOf e)
  (hval:Value.okWide P w r b0 t v) (hd:DataW.Trod enc P w base sp held t v d ps) (hsz:∀ el rs,d = .slice el rs→(el.length + rs.length) * P.bytesOf e≤reachBytes) :
  ∃ l:List UInt8,l.length≤281474976710656∧Rep w (fun _=>False) (.bytes l) v:=by
 obtain ⟨xs,h1,h2,h3⟩:=open_slice ht hk (by simpa using hc) hb hval hd hsz
 have key:∀ xs:List (List IV),(∀ x ∈ xs,∃ vs,KRep [.int .u8] x vs)→∃ l:List UInt8,xs = l.map fun b=>[.int .u8 (b.toNat:Int)]:=by
  intro xs
  induction xs with
  | nil=>exact fun _=>⟨[],rfl⟩
  | cons x xs ih =>
   intro h
   obtain ⟨l,hl⟩:=ih fun y hy=>h y (by simp [hy])
   obtain ⟨vs,hx⟩:=h x (by simp)
   obtain ⟨n,is,vs',rfl,rfl,hr,hx⟩:=hx.cons_int
   obtain ⟨rfl,rfl⟩:=hx.end
   have hr':(0:Int)≤n∧n≤255:=hr
   refine ⟨UInt8.ofNat n.toNat :: l,?_⟩
   rw [hl,List.map_cons]
   have:((UInt8.ofNat n.toNat).toNat:Int) = n:=by
    have:(UInt8.ofNat n.toNat).toNat = n.toNat % 256:=by simp
    omega
   rw [this]
 obtain ⟨l,rfl⟩:=key xs h1
 refine ⟨l,by simpa using h2,h3 _ rfl (by simp [IV.len]) rfl (fun i j c hcc=>?_)⟩
 cases j with
 | zero =>
  simp only [IV.cellAt] at hcc
  rw [List.getElem?_map]
  cases hi:l[i]? with
  | none=>rw [hi] at hcc; cases hcc
  | some b=>rw [hi] at hcc; simpa using hcc
 | succ j=>simp [IV.cellAt] at hcc
theorem rep_at {W:World} {v:Value} {c:IV} {vs:List Value} {j:Nat} (hr:Rep W (fun _=>False) c v) (h:vs[j]? = some v):ARep (zeroGh W (fun _=>False)) (.imm c) ((⟨vs⟩:Array Value).getD j undef):=by
 have e:(⟨vs⟩:Array Value).getD j undef = v:=by simp [Array.getD_eq_getD_getElem?,h]
 rw [e]
 exact .imm (Rep.mono (w:=W) (w':=W) (Nat.le_refl _) (fun b _ h=>zero_own.1 h) (fun _ _ _=>rfl) hr)
end
end Go.AE
namespace Go.AE
open Go.ChangeShapes Go.WideShapes Go.ChangeAt Go.RowKit
inductive MK where
 | ck (c:CK)
 | sl (ks:List CK)
mutual
def mixK (P:Program):Nat→TypeId→Option (List (TypeId×MK))
 | 0,_=>none
 | d + 1,t=>match P.underlying t with
  | some (.int k)=>some [(t,.ck (.int k))]
  | some .bool=>some [(t,.ck .bool)]
  | some .string=>some [(t,.ck .str)]
  | some (.slice e)=>match flatK P false 40 e with
   | some ks=>bif Nat.beq (P.cellsOf e) (llen ks) then (bif Nat.ble 1 (P.bytesOf e) then some [(t,.sl ks)] else none) else none
   | none=>none
  | some (.struct fs)=>match mixF P d 0 fs.toList with
   | some ks=>bif Nat.beq (llen ks) (P.cellsOf t) then some ks else none
   | none=>none
  | _=>none
def mixF (P:Program):Nat→Nat→List Field→Option (List (TypeId×MK))
 | 0,_,_=>none
 | _ + 1,_,[]=>some []
 | d + 1,o,f :: r=>match mixK P d f.type with
  | some ks=>bif Nat.beq f.offset o then (bif Nat.beq (llen ks) (P.cellsOf f.type) then omap (lapp ks) (mixF P d (o + llen ks) r) else none) else none
  | none=>none
end
def MOk (w:World):MK→Value→Prop
 | .ck (.int k),v=>∃ n,v = .int k n∧InR k n
 | .ck .bool,v=>∃ b,v = .bool b
 | .ck .str,v=>∃ s,v = .string s∧(bytesOf s).length≤9223372036854775807
 | .ck .any,_=>False
 | .sl ks,v=>∃ xs:List (List IV),(∀ x ∈ xs,∃ vs,KRep ks x vs)∧xs.length≤281474976710656∧∀ iv:IV,iv.isSl = true→iv.len = some xs.length→iv.esize = ks.length→(∀ i j c,iv.cellAt i j = some c→(xs[i]?).bind (·[j]?) = some c)→Rep w (fun _=>False) iv v
def mall (w:World):List (TypeId×MK)→List Value→Prop
 | [],[]=>True
 | k :: ks,v :: vs=>MOk w k.2 v∧mall w ks vs
 | _,_=>False
theorem mall_app {w:World}:∀ {ks ks':List (TypeId×MK)} {vs vs':List Value},mall w ks vs→mall w ks' vs'→mall w (ks ++ ks') (vs ++ vs')
 | [],_,[],_,_,h'=>h'
 | _ :: _,_,_ :: _,_,h,h'=>⟨h.1,mall_app h.2 h'⟩
 | [],_,_ :: _,_,h,_=>h.elim
 | _ :: _,_,[],_,h,_=>h.elim
section
variable {H:Type} {enc:TypeId×Value→H} {P:Program} {w:World} {base b0:Nat} {sp:Nat→Bool} {held:Bool} {r:Reach}
theorem all_weights_field {fs:List Field} {xs:List (DataW H×List MemPlace)} (h:(DataW.weightsEach P (fs.map (·.type)) (xs.map (·.1))).all (·≤reachBytes) = true) {i:Nat} {f:Field} {x:DataW H×List MemPlace} (hf:fs[i]? = some f) (hx:xs[i]? = some x) :
  (x.1.weights P f.type).all (·≤reachBytes) = true:=by
 rw [List.all_eq_true] at h ⊢
 exact fun n hn=>h n (DataW.weights_mem_each (j:=i) (t:=f.type) (d:=x.1) (by simp [List.getElem?_map,hf]) (by simp [List.getElem?_map,hx]) n hn)
mutual
theorem mix_open:∀ (d:Nat) {t:TypeId} {ks:List (TypeId×MK)} {n:Nat} {cs:List Value} {x:DataW H×List MemPlace},mixK P d t = some ks→DataW.trod enc P w base sp held n t cs = some x→(x.1.weights P t).all (·≤reachBytes) = true →
  (∀ (j:Nat) v,cs[j]? = some v→∃ u,(ks.map (·.1))[j]? = some u∧Cell.okWide P w r b0 u v)→mall w ks cs
 | 0,t,ks,n,cs,x,h,_,_,_=>by simp [mixK] at h
 | d + 1,t,ks,n,cs,x,h,hx,hz,hw=>by
  unfold mixK at h
  split at h
  ·rename_i k hu
   cases h
   obtain ⟨m,rfl,rfl,hm⟩:=DataW.trod_int hu hx
   exact ⟨⟨m,rfl,inR_wf hm⟩,trivial⟩
  ·rename_i hu
   cases h
   obtain ⟨b,rfl,rfl⟩:=DataW.trod_bool hu hx
   exact ⟨⟨b,rfl⟩,trivial⟩
  ·rename_i hu
   cases h
   obtain ⟨s,rfl,rfl,hs⟩:=DataW.trod_string hu hx
   exact ⟨⟨s,rfl,by rw [← size_bytes]; exact hs⟩,trivial⟩
  ·rename_i e hu
   cases hk:flatK P false 40 e with
   | none=>rw [hk] at h; cases h
   | some k1 =>
    rw [hk] at h
    cases hb:Nat.beq (P.cellsOf e) (llen k1) with
    | false=>simp only [hb,cond_false] at h; cases h
    | true =>
     simp only [hb,cond_true] at h
     cases hb2:Nat.ble 1 (P.bytesOf e) with
     | false=>simp only [hb2,cond_false] at h; cases h
     | true =>
      simp only [hb2,cond_true] at h
      cases h
      have e1:P.cellsOf e = k1.length:=by rw [nbeq hb,llen_eq]
      have e2:1≤P.bytesOf e:=Nat.le_of_ble_eq_true hb2
      have hone:∃ v,cs = [v]∧v.cells.toList = [v]:=by
       rcases DataW.trod_slice hu hx with ⟨h0,_⟩ | ⟨a,len,cap,_,_,_,_,h0,_⟩
       ·exact ⟨_,h0,rfl⟩
       ·exact ⟨_,h0,rfl⟩
      obtain ⟨v,rfl,hv⟩:=hone
      obtain ⟨u,hu1,hu2⟩:=hw 0 v rfl
      simp only [List.map_cons,List.map_nil,List.getElem?_cons_zero,Option.some.injEq] at hu1
      subst hu1
      have hval:Value.okWide P w r b0 t v:=by
       unfold Value.okWide
       rw [hu]
       exact hu2
      refine ⟨open_slice (ks:=k1) hu hk e1 e2 hval (d:=x.1) (ps:=x.2) ⟨n,by rw [hv]; exact hx⟩ (fun el rs hd=>?_),trivial⟩
      rw [hd,List.all_eq_true] at hz
      have:=hz ((el.length + rs.length) * P.bytesOf e) (by simp [DataW.weights,hu])
      simpa using this
  ·rename_i fs hu
   obtain ⟨xs,m,rfl,rfl,hlen,hsz,hf⟩:=DataW.trod_struct hu hx
   cases hF:mixF P d 0 fs.toList with
   | none=>rw [hF] at h; cases h
   | some ks' =>
    rw [hF] at h
    cases hb:Nat.beq (llen ks') (P.cellsOf t) with
    | false=>simp only [hb,cond_false] at h; cases h
    | true =>
     simp only [hb,cond_true] at h
     cases h
     have hb':=nbeq hb
     have hz':(DataW.weightsEach P (fs.toList.map (·.type)) (xs.map (·.1))).all (·≤reachBytes) = true:=by
      have:=hz
      simpa [DataW.weights,hu] using this
     have:=mixF_open d (o:=0) (xs:=xs) (cs:=cs) (n:=m) hF (by simp [hsz]) (fun i f hi=>hf i f (by simpa using hi)) hz' (by simpa using hw)
     rw [List.drop_zero,List.take_of_length_le (by rw [hlen,← hb',llen_eq]; exact Nat.le_refl _)] at this
     exact this
  ·cases h
theorem mixF_open:∀ (d:Nat) {o:Nat} {fs:List Field} {ks:List (TypeId×MK)} {n:Nat} {cs:List Value} {xs:List (DataW H×List MemPlace)},mixF P d o fs = some ks→xs.length = fs.length →
  (∀ (i:Nat) (f:Field),fs[i]? = some f→DataW.trod enc P w base sp held n f.type ((cs.drop f.offset).take (P.cellsOf f.type)) = xs[i]?)→(DataW.weightsEach P (fs.map (·.type)) (xs.map (·.1))).all (·≤reachBytes) = true →
  (∀ (j:Nat) v,(cs.drop o)[j]? = some v→∃ u,(ks.map (·.1))[j]? = some u∧Cell.okWide P w r b0 u v)→mall w ks ((cs.drop o).take ks.length)
 | 0,o,fs,ks,n,cs,xs,h,_,_,_,_=>by simp [mixF] at h
 | d + 1,o,[],ks,n,cs,xs,h,hl,_,_,_=>by
  simp only [mixF] at h
  cases h
  simp [mall]
 | d + 1,o,f :: q,ks,n,cs,xs,h,hl,hf,hz,hw=>by
  unfold mixF at h
  cases hK:mixK P d f.type with
  | none=>rw [hK] at h; cases h
  | some k1 =>
   rw [hK] at h
   cases hb:Nat.beq f.offset o with
   | false=>simp only [hb,cond_false] at h; cases h
   | true =>
    simp only [hb,cond_true] at h
    cases hb2:Nat.beq (llen k1) (P.cellsOf f.type) with
    | false=>simp only [hb2,cond_false] at h; cases h
    | true =>
     simp only [hb2,cond_true] at h
     cases hF:mixF P d (o + llen k1) q with
     | none=>rw [hF] at h; cases h
     | some k2 =>
      rw [hF] at h
      simp only [omap,Option.some.injEq] at h
      subst h
      match xs,hl with
      | x :: xs,hl =>
       have h0:=hf 0 f rfl
       have e1:=nbeq hb
       have e2:=nbeq hb2
       have e3:llen k1 = k1.length:=llen_eq k1
       rw [lapp_eq] at hw ⊢
       have w1:∀ (j:Nat) v,((cs.drop f.offset).take (P.cellsOf f.type))[j]? = some v→∃ u,(k1.map (·.1))[j]? = some u∧Cell.okWide P w r b0 u v:=by
        intro j v hv
        rw [List.getElem?_take] at hv
        split at hv
        ·rename_i hj
         obtain ⟨u,hu1,hu2⟩:=hw j v (by rw [← e1]; exact hv)
         refine ⟨u,?_,hu2⟩
         rw [List.map_append,List.getElem?_append_left (by simp; omega)] at hu1
         exact hu1
        ·cases hv
       have w2:∀ (j:Nat) v,(cs.drop (o + llen k1))[j]? = some v→∃ u,(k2.map (·.1))[j]? = some u∧Cell.okWide P w r b0 u v:=by
        intro j v hv
        obtain ⟨u,hu1,hu2⟩:=hw (k1.length + j) v (by rw [List.getElem?_drop] at hv ⊢; rw [← hv,e3]; congr 1; omega)
        refine ⟨u,?_,hu2⟩
        rw [List.map_append,List.getElem?_append_right (by simp)] at hu1
        simpa using hu1
       have i1:=mix_open d hK (x:=x) (by simpa using h0) (all_weights_field hz (i:=0) rfl rfl) w1
       have i2:=mixF_open d (n:=n) (cs:=cs) (xs:=xs) hF (by simpa using hl) (fun i f hi=>by simpa using hf (i + 1) f (by simpa using hi))
        (by
         rw [List.all_eq_true] at hz ⊢
         intro m hm
         exact hz m (by simp only [List.map_cons,DataW.weightsEach,List.mem_append]; exact Or.inr hm)) w2
       rw [List.length_append]
       have:(cs.drop o).take (k1.length + k2.length) = ((cs.drop o).take k1.length) ++ ((cs.drop (o + k1.length)).take k2.length):=by
        rw [List.take_add,List.drop_drop]
       rw [this]
       have h3:mall w k1 ((cs.drop o).take k1.length):=by
        rw [← llen_eq,e2,← e1]; exact i1
       refine mall_app h3 ?_
       rw [llen_eq] at i2
       exact i2
end
end
def MIs (w:World):List IV→List Value→Prop
 | [],[]=>True
 | i :: is,v :: vs=>Rep w (fun _=>False) i v∧MIs w is vs
 | _,_=>False
theorem MIs.get {w:World}:∀ {is:List IV} {vs:List Value},MIs w is vs→is.length = vs.length∧∀ (j:Nat) i,is[j]? = some i→Rep w (fun _=>False) i (vs.getD j undef)
 | [],[],_=>⟨rfl,fun j i h=>by simp at h⟩
 | i :: is,v :: vs,h=>⟨by simp [(MIs.get h.2).1],fun j c hj=>by
   cases j with
   | zero=>simp only [List.getElem?_cons_zero,Option.some.injEq] at hj; subst hj; exact h.1
   | succ j=>exact (MIs.get h.2).2 j c (by simpa using hj)⟩
 | [],_ :: _,h=>h.elim
 | _ :: _,[],h=>h.elim
theorem MIs.arep {w:World} {is:List IV} {vs:List Value} (h:MIs w is vs):ARep (zeroGh w (fun _=>False)) (.agg (lmap .imm is)) (.agg ⟨vs⟩):=by
 obtain ⟨hl,hr⟩:=h.get
 have e:∀ j,(⟨vs⟩:Array Value).getD j undef = vs.getD j undef:=fun j=>by simp [Array.getD_eq_getD_getElem?,List.getD_eq_getElem?_getD]
 refine .agg (by rw [lmap_eq]; simp [hl]) (fun j c hc=>?_) (fun j hj=>?_)
 ·rw [lmap_eq,List.getElem?_map] at hc
  cases hi:is[j]? with
  | none=>rw [hi] at hc; cases hc
  | some i =>
   rw [hi] at hc
   cases hc
   rw [e]
   exact .imm (Rep.mono (w:=w) (w':=w) (Nat.le_refl _) (fun b _ h=>zero_own.1 h) (fun _ _ _=>rfl) (hr j i hi))
 ·have hj':j < is.length:=by simp at hj; omega
  rw [e]
  exact (hr j is[j] (List.getElem?_eq_getElem hj')).oneCell
theorem MIs.cell {w:World} {is:List IV} {vs:List Value} (h:MIs w is vs) {v:Value} (hv:v = .agg ⟨vs⟩) {arr:Array Value} {j:Nat} (ha:arr.getD j undef = v):ARep (zeroGh w (fun _=>False)) (.agg (lmap .imm is)) (arr.getD j undef):=by
 rw [ha,hv]; exact h.arep
theorem MOk.bytes {w:World} {v:Value} (h:MOk w (.sl [.int .u8]) v):∃ l:List UInt8,l.length≤281474976710656∧Rep w (fun _=>False) (.bytes l) v:=by
 obtain ⟨xs,h1,h2,h3⟩:=h
 have key:∀ xs:List (List IV),(∀ x ∈ xs,∃ vs,KRep [.int .u8] x vs)→∃ l:List UInt8,xs = l.map fun b=>[.int .u8 (b.toNat:Int)]:=by
  intro xs
  induction xs with
  | nil=>exact fun _=>⟨[],rfl⟩
  | cons x xs ih =>
   intro h
   obtain ⟨l,hl⟩:=ih fun y hy=>h y (by simp [hy])
   obtain ⟨vs,hx⟩:=h x (by simp)
   obtain ⟨n,is,vs',rfl,rfl,hr,hx⟩:=hx.cons_int
   obtain ⟨rfl,rfl⟩:=hx.end
   have hr':(0:Int)≤n∧n≤255:=hr
   refine ⟨UInt8.ofNat n.toNat :: l,?_⟩
   rw [hl,List.map_cons]
   have:((UInt8.ofNat n.toNat).toNat:Int) = n:=by
    have:(UInt8.ofNat n.toNat).toNat = n.toNat % 256:=by simp
    omega
   rw [this]
 obtain ⟨l,rfl⟩:=key xs h1
 refine ⟨l,by simpa using h2,h3 _ rfl (by simp [IV.len]) rfl (fun i j c hcc=>?_)⟩
 cases j with
 | zero =>
  simp only [IV.cellAt] at hcc
  rw [List.getElem?_map]
  cases hi:l[i]? with
  | none=>rw [hi] at hcc; cases hcc
  | some b=>rw [hi] at hcc; simpa using hcc
 | succ j=>simp [IV.cellAt] at hcc
theorem MOk.ints {w:World} {v:Value} {k:IntKind} (h:MOk w (.sl [.int k]) v):∃ l:List Int,(∀ n ∈ l,InR k n)∧l.length≤281474976710656∧Rep w (fun _=>False) (.ints k l) v:=by
 obtain ⟨xs,h1,h2,h3⟩:=h
 have key:∀ xs:List (List IV),(∀ x ∈ xs,∃ vs,KRep [.int k] x vs)→∃ l:List Int,(∀ n ∈ l,InR k n)∧xs = l.map fun b=>[.int k b]:=by
  intro xs
  induction xs with
  | nil=>exact fun _=>⟨[],fun n h=>by simp at h,rfl⟩
  | cons x xs ih =>
   intro h
   obtain ⟨l,hl1,hl⟩:=ih fun y hy=>h y (by simp [hy])
   obtain ⟨vs,hx⟩:=h x (by simp)
   obtain ⟨n,is,vs',rfl,rfl,hr,hx⟩:=hx.cons_int
   obtain ⟨rfl,rfl⟩:=hx.end
   refine ⟨n :: l,fun m hm=>?_,by rw [hl,List.map_cons]⟩
   rcases List.mem_cons.1 hm with rfl | hm
   ·exact hr
   ·exact hl1 m hm
 obtain ⟨l,hl,rfl⟩:=key xs h1
 refine ⟨l,hl,by simpa using h2,h3 _ rfl (by simp [IV.len]) rfl (fun i j c hcc=>?_)⟩
 cases j with
 | zero =>
  simp only [IV.cellAt] at hcc
  rw [List.getElem?_map]
  cases hi:l[i]? with
  | none=>rw [hi] at hcc; cases hcc
  | some b=>rw [hi] at hcc; simpa using hcc
 | succ j=>simp [IV.cellAt] at hcc
theorem MOk.bools {w:World} {v:Value} (h:MOk w (.sl [.bool]) v):∃ l:List Bool,l.length≤281474976710656∧Rep w (fun _=>False) (.bools l) v:=by
 obtain ⟨xs,h1,h2,h3⟩:=h
 have key:∀ xs:List (List IV),(∀ x ∈ xs,∃ vs,KRep [.bool] x vs)→∃ l:List Bool,xs = l.map fun b=>[.bool b]:=by
  intro xs
  induction xs with
  | nil=>exact fun _=>⟨[],rfl⟩
  | cons x xs ih =>
   intro h
   obtain ⟨l,hl⟩:=ih fun y hy=>h y (by simp [hy])
   obtain ⟨vs,hx⟩:=h x (by simp)
   obtain ⟨n,is,vs',rfl,rfl,hx2⟩:=hx.cons_bool
   obtain ⟨rfl,rfl⟩:=hx2.end
   exact ⟨n :: l,by rw [hl,List.map_cons]⟩
 obtain ⟨l,rfl⟩:=key xs h1
 refine ⟨l,by simpa using h2,h3 _ rfl (by simp [IV.len]) rfl (fun i j c hcc=>?_)⟩
 cases j with
 | zero =>
  simp only [IV.cellAt] at hcc
  rw [List.getElem?_map]
  cases hi:l[i]? with
  | none=>rw [hi] at hcc; cases hcc
  | some b=>rw [hi] at hcc; simpa using hcc
 | succ j=>simp [IV.cellAt] at hcc
theorem MOk.int {w:World} {v:Value} {k:IntKind} (h:MOk w (.ck (.int k)) v):∃ n,InR k n∧Rep w (fun _=>False) (.int k n) v:=by
 obtain ⟨n,rfl,hr⟩:=h
 exact ⟨n,hr,.int hr⟩
theorem MOk.bool {w:World} {v:Value} (h:MOk w (.ck .bool) v):∃ b,Rep w (fun _=>False) (.bool b) v:=by
 obtain ⟨b,rfl⟩:=h
 exact ⟨b,.bool⟩
theorem MOk.str {w:World} {v:Value} (h:MOk w (.ck .str) v):∃ l:List UInt8,l.length≤9223372036854775807∧Rep w (fun _=>False) (.str l) v:=by
 obtain ⟨s,rfl,hr⟩:=h
 exact ⟨_,hr,.str rfl hr⟩
end Go.AE
namespace Z19
open Go Go.AE Go.Proofs D6
theorem et:Tryd.prog.globalNamed "errors.errorType" = some 1:=by kernel_rfl
theorem fl:Tryd.prog.globalNamed "zoneinfo/indicators.flags" = some 0:=by kernel_rfl
theorem rt:(Tryd.prog.cutTypes.find? (·.1 == "internal/reflectlite.rtype")).map (·.2) = some 130:=by kernel_rfl
theorem tsize:Tryd.prog.types.size = 171:=by kernel_rfl
theorem oneRow:((List.range 171).filter fun t=>Tryd.prog.rowNamed t [101,114,114,111,114]) = [94]:=by kernel_rfl
theorem var_of_laid {W:World} (h:laidMetH Tryd.prog YtmmioohcgdnpdaaDoor.Rows.blockMatchesReferenceRow.laid W):W.var? Tryd.prog "errors.errorType" = some #[errT]:=by
 have h':laidMet Tryd.prog [("zoneinfo/indicators.flags",YtmmioohcgdnpdaaDoor.Rows.laid_zoneinfo_indicators_flags)] W∧handlesMet Tryd.prog [("errors.errorType",YtmmioohcgdnpdaaDoor.Rows.laid_errors_errorType)] W:=h
 obtain ⟨name,u,ty,e1,e2,e3,e4,e5⟩:=h'.2 _ (List.mem_singleton.2 rfl)
 have en:name = [101,114,114,111,114]:=(Option.some.inj e1).symm
 subst en
 obtain rfl:=Option.some.inj (rt.symm.trans e2)
 have hm:ty ∈ (List.range 171).filter fun t=>Tryd.prog.rowNamed t [101,114,114,111,114]:=List.mem_filter.2 ⟨List.mem_range.2 (by rw [← tsize]; exact e3),e4⟩
 rw [oneRow] at hm
 obtain rfl:=List.mem_singleton.1 hm
 have hh:typeHandle Tryd.prog 94 = .pointer (some ⟨2,94,none⟩):=by kernel_rfl
 rw [hh] at e5
 exact e5
theorem list_two {α:Type} {l:List α} (h:l.length = 2):∃ a b,l = [a,b]:=by
 match l,h with
 | [a,b],_=>exact ⟨a,b,rfl⟩
theorem flags_of_laid {W:World} (h:laidMetH Tryd.prog YtmmioohcgdnpdaaDoor.Rows.blockMatchesReferenceRow.laid W):W.var? Tryd.prog "zoneinfo/indicators.flags" = some #[.bool false,.bool true]:=by
 have h':laidMet Tryd.prog [("zoneinfo/indicators.flags",YtmmioohcgdnpdaaDoor.Rows.laid_zoneinfo_indicators_flags)] W∧handlesMet Tryd.prog [("errors.errorType",YtmmioohcgdnpdaaDoor.Rows.laid_errors_errorType)] W:=h
 obtain ⟨ps,⟨g,t,cs,fuel,p,q,hg,ht,hv,hd,_,_⟩,_⟩:=h'.1
 obtain rfl:=Option.some.inj (fl.symm.trans hg)
 have ht':(Tryd.prog.globals[0]?).map (·.type) = some 100:=by kernel_rfl
 obtain rfl:=Option.some.inj (ht'.symm.trans ht)
 obtain ⟨xs,m,rfl,hx,hl,hn,hi⟩:=DataW.trod_array (n:=2) (e:=4) (by kernel_rfl) hd
 have hc4:Tryd.prog.cellsOf 4 = 1:=by kernel_rfl
 have hc100:Tryd.prog.cellsOf 100 = 2:=by kernel_rfl
 have hu4:Tryd.prog.underlying 4 = some .bool:=by kernel_rfl
 rw [hc100] at hl
 rw [hv]
 obtain ⟨cs⟩:=cs
 obtain ⟨a,b,rfl⟩:=list_two hl
 obtain ⟨x,y,rfl⟩:=list_two hn
 have h0:=hi 0 (by omega)
 have h1:=hi 1 (by omega)
 rw [hc4] at h0 h1
 have h0':DataW.trod (fun _=>()) Tryd.prog W 0 (fun _=>true) false m 4 [a] = some x:=h0
 have h1':DataW.trod (fun _=>()) Tryd.prog W 0 (fun _=>true) false m 4 [b] = some y:=h1
 obtain ⟨b0,e0,f0⟩:=DataW.trod_bool hu4 h0'
 obtain ⟨b1,e1,f1⟩:=DataW.trod_bool hu4 h1'
 have hx1:=congrArg Prod.fst hx
 have hx2:(DataW.agg [.lit (.bool false),.lit (.bool true)]:DataW Unit) = .agg [x.1,y.1]:=hx1
 rw [f0,f1] at hx2
 simp only [DataW.agg.injEq,List.cons.injEq,DataW.lit.injEq,Lit.bool.injEq,and_true] at hx2
 simp only [List.cons.injEq,and_true] at e0 e1
 rw [e0,e1,← hx2.1,← hx2.2]
theorem gok_of_laid {W:World} (h:laidMetH Tryd.prog YtmmioohcgdnpdaaDoor.Rows.blockMatchesReferenceRow.laid W):GOK G16 W (fun _=>False):=by
 have ht:=var_of_laid h
 have hf:=flags_of_laid h
 unfold World.var? at ht hf
 rw [et] at ht
 rw [fl] at hf
 simp only [Option.bind_some] at ht hf
 intro n l hl
 unfold G16 at hl
 cases hn:Nat.beq n 0 with
 | true =>
  rw [hn,cond_true] at hl
  cases hl
  have:=nbeq hn
  subst this
  refine ⟨fun h=>h,?_⟩
  split at hf
  case h_2=>cases hf
  rename_i cs T fr hc
  simp only [Option.some.injEq] at hf
  refine ⟨cs,T,fr,hc,by rw [hf]; rfl,fun j v hv=>?_,fun j hj=>?_⟩
  ·match j with
   | 0 =>
    simp only [List.getElem?_cons_zero,Option.some.injEq] at hv
    subst hv
    rw [hf]
    exact .bool
   | 1 =>
    simp only [List.getElem?_cons_succ,List.getElem?_cons_zero,Option.some.injEq] at hv
    subst hv
    rw [hf]
    exact .bool
   | j + 2=>simp at hv
  ·rw [hf] at hj ⊢
   match j,hj with
   | 0,_=>rfl
   | 1,_=>rfl
   | j + 2,hj=>exact absurd hj (by simp)
 | false =>
  rw [hn,cond_false] at hl
  cases hn1:Nat.beq n 1 with
  | false=>rw [hn1] at hl; cases hl
  | true =>
   rw [hn1,cond_true] at hl
   cases hl
   have:=nbeq hn1
   subst this
   refine ⟨fun h=>h,?_⟩
   split at ht
   case h_2=>cases ht
   rename_i cs T fr hc
   simp only [Option.some.injEq] at ht
   refine ⟨cs,T,fr,hc,by rw [ht]; rfl,fun j v hv=>?_,fun j hj=>?_⟩
   ·cases j with
    | zero =>
     simp only [List.getElem?_cons_zero,Option.some.injEq] at hv
     subst hv
     rw [ht]
     exact .val rfl
    | succ j=>simp at hv
   ·rw [ht] at hj ⊢
    have:j = 0:=by simpa using hj
    subst this
    rfl
noncomputable def laidWorld (os:Os):World :=
 let w0:=World.holding Tryd.prog os ⟨#[],#[],[]⟩
 { w0 with heap:=(w0.heap.modify 0 fun
   | .cells _ t frozen=>.cells #[.bool false,.bool true] t frozen
   | o=>o).modify 1 fun
   | .cells _ t frozen=>.cells #[errT] t frozen
   | o=>o }
theorem door_met (os:Os) (args:Array Value):laidMetH Tryd.prog YtmmioohcgdnpdaaDoor.Rows.blockMatchesReferenceRow.laid ((laidWorld os).forCall (fun _ _=>0) ⟨#[],args,[]⟩).memory :=
 laidMetH_of_parts (laidMet_of_run' 8 (by kernel_rfl) (by kernel_rfl)) (by kernel_rfl)
theorem u32_of {n:Int} (h:InR .u32 n):U32 n:=by
 have h':(0:Int)≤n∧n≤4294967295:=h
 exact ⟨h'.1,h'.2⟩
end Z19
namespace Z19
open Go Go.AE Go.Proofs D6
end Z19
namespace Go.AE
open Go.RowKit
variable {C:Cx} {g g1 gc:Gh} {st:St} {b0 n:Nat} {w0:World} {objs:List (Nat×Ob)} {os:List Ob} {G:Nat→Option (List AV)}
def numb:Nat→List Ob→List (Nat×Ob)
 | _,[]=>[]
 | k,o :: r=>(k,o) :: numb (k + 1) r
def shf (k id:Nat):Option (Nat×Nat):=some (Nat.add id k,0)
def rowOb:Ob→Bool
 | ⟨_,_,.row _⟩=>true
 | _=>false
structure SpecV (P:Program) (G:Nat→Option (List AV)) (f:FuncId) (args:List AV) (pres:List Prop) (rs:List AV) (os:List Ob):Prop where
 fn:∃ fn,P.funcs[f]? = some fn∧(fn.name == "runtime.NumGoroutine") = false∧fn.body.isNone = false
 rows:∀ ob,ob ∈ os→rowOb ob = true
 calls:(∀ p,p ∈ pres→p)→∀ (w:World) (own:Nat→Prop) (vals:Array Value),(∀ b,own b→b < w.heap.size)→vals.size = args.length→(∀ (j:Nat) c,args[j]? = some c→ARep (zeroGh w own) c (vals.getD j undef))→GOK G w own →
  Calls P f vals w fun e w'=>∃ (Vs:List Value) (g:Gh),e = .returned (resV Vs)∧g.w = w'∧Mem G w.heap.size w (numb 0 os) os.length g∧(∀ b,g.base b↔own b)∧Vs.length = rs.length∧∀ (j:Nat) c,rs[j]? = some c→∃ V,Vs[j]? = some V∧ARep g c V
theorem lookup_numb:∀ (os:List Ob) (k i:Nat),lookup (numb k os) i = if k≤i then os[i - k]? else none
 | [],k,i=>by simp [numb,lookup]
 | o :: r,k,i=>by
  simp only [numb,lookup]
  cases hb:Nat.beq k i with
  | true =>
   have:=nbeq hb
   subst this
   simp
  | false =>
   have hne:k≠i:=fun h=>by subst h; simp at hb
   rw [cond_false,lookup_numb r (k + 1) i]
   by_cases h:k≤i
   ·rw [if_pos h,if_pos (by omega)]
    obtain ⟨m,hm⟩:∃ m,i - k = m + 1:=⟨i - k - 1,by omega⟩
    rw [hm,List.getElem?_cons_succ]
    congr 1
    omega
   ·rw [if_neg h,if_neg (by omega)]
theorem lapp_none {l m:List (Nat×Ob)} {i:Nat} (h:lookup l i = none):lookup (lapp l m) i = lookup m i:=by
 induction l with
 | nil=>rfl
 | cons x l ih =>
  obtain ⟨j,o⟩:=x
  unfold lookup at h
  show (bif Nat.beq j i then some o else lookup (lapp l m) i) = _
  cases hb:Nat.beq j i with
  | true=>rw [hb] at h; cases h
  | false=>rw [hb] at h; exact ih h
theorem lapp_some {l m:List (Nat×Ob)} {i:Nat} {x:Ob} (h:lookup l i = some x):lookup (lapp l m) i = some x:=by
 induction l with
 | nil=>cases h
 | cons y l ih =>
  obtain ⟨j,o⟩:=y
  unfold lookup at h
  show (bif Nat.beq j i then some o else lookup (lapp l m) i) = _
  cases hb:Nat.beq j i with
  | true=>rw [hb] at h; exact h
  | false=>rw [hb] at h; exact ih h
def mergeGh (g1 gc:Gh) (n:Nat) (os:List Ob):Gh :=
 ⟨gc.w,lapp g1.objs (numb n os),fun i=>if i < n then g1.ρ i else gc.ρ (i - n),fun i=>if i < n then g1.ex i else gc.ex (i - n),g1.base⟩
theorem merge_lookup (h1:Mem G b0 w0 objs n g1) (i:Nat):lookup (mergeGh g1 gc n os).objs i = if i < n then lookup g1.objs i else os[i - n]?:=by
 show lookup (lapp g1.objs (numb n os)) i = _
 by_cases hi:i < n
 ·rw [if_pos hi]
  cases h:lookup g1.objs i with
  | some x=>exact lapp_some h
  | none=>rw [lapp_none h,lookup_numb,if_neg (Nat.not_le.2 hi)]
 ·rw [if_neg hi,lapp_none (h1.fresh i (Nat.not_lt.1 hi)),lookup_numb,if_pos (Nat.not_lt.1 hi)]
theorem call_lookup (hc:Mem G g1.w.heap.size g1.w (numb 0 os) os.length gc) (i:Nat):lookup gc.objs i = os[i]?:=by
 rw [hc.same,lookup_numb,if_pos (by omega)]; rfl
theorem merge_own (h1:Mem G b0 w0 objs n g1) (hc:Mem G g1.w.heap.size g1.w (numb 0 os) os.length gc) (hb:∀ b,gc.base b↔g1.own b) (b:Nat):(mergeGh g1 gc n os).own b↔gc.own b:=by
 unfold Gh.own
 simp only [merge_lookup h1,call_lookup hc]
 constructor
 ·rintro (h | ⟨i,h2,h3,h4⟩)
  ·exact .inl ((hb b).2 (.inl h))
  ·simp only [mergeGh] at h3 h4
   by_cases hi:i < n
   ·rw [if_pos hi] at h2 h3 h4
    exact .inl ((hb b).2 (.inr ⟨i,h2,h3,h4⟩))
   ·rw [if_neg hi] at h2 h3 h4
    exact .inr ⟨i - n,h2,h3,h4⟩
 ·rintro (h | ⟨i,h2,h3,h4⟩)
  ·rcases (hb b).1 h with h | ⟨i,h2,h3,h4⟩
   ·exact .inl h
   ·have hi:i < n:=by
     rcases Nat.lt_or_ge i n with h | h
     ·exact h
     ·rw [h1.fresh i h] at h2; cases h2
    exact .inr ⟨i,by rw [if_pos hi]; exact h2,by simp only [mergeGh]; rw [if_pos hi]; exact h3,by simp only [mergeGh]; rw [if_pos hi]; exact h4⟩
  ·have hi:¬ i + n < n:=by omega
   exact .inr ⟨i + n,by rw [if_neg hi,Nat.add_sub_cancel]; exact h2,by simp only [mergeGh]; rw [if_neg hi,Nat.add_sub_cancel]; exact h3,by simp only [mergeGh]; rw [if_neg hi,Nat.add_sub_cancel]; exact h4⟩
theorem merge_ext (h1:Mem G b0 w0 objs n g1) (hc:Mem G g1.w.heap.size g1.w (numb 0 os) os.length gc) (hb:∀ b,gc.base b↔g1.own b):Ext g1 (mergeGh g1 gc n os)∧Stays g1 (mergeGh g1 gc n os):=by
 have low:∀ id ob,lookup g1.objs id = some ob→id < n:=fun id ob h=>by
  rcases Nat.lt_or_ge id n with h' | h'
  ·exact h'
  ·rw [h1.fresh id h'] at h; cases h
 refine ⟨⟨hc.size,fun b hlt ho=>?_,fun b hlt _=>hc.below.block b hlt,fun id ob hl=>?_⟩,fun id ob b hl hr=>?_⟩
 ·rcases (merge_own h1 hc hb b).1 ho with h | ⟨i,h2,h3,h4⟩
  ·exact (hb b).1 h
  ·have:=(hc.above i b h2 h3 h4).1; omega
 ·have hi:=low id ob hl
  exact ⟨ob,by rw [merge_lookup h1,if_pos hi]; exact hl,Nat.le_refl _,fun _=>by simp only [mergeGh]; rw [if_pos hi],fun v h=>⟨v,h,rfl⟩⟩
 ·have hi:=low id ob hl
  simp only [mergeGh]
  rw [if_pos hi]; exact hr
theorem merge_rep (h1:Mem G b0 w0 objs n g1) (hc:Mem G g1.w.heap.size g1.w (numb 0 os) os.length gc) (hb:∀ b,gc.base b↔g1.own b) {v:AV} {V:Value} (hr:ARep gc v V):ARep (mergeGh g1 gc n os) (v.ren (shf n)) V:=by
 have ho:=merge_own h1 hc hb
 have mono:∀ {u:IV} {U:Value},Rep gc.w gc.own u U→Rep (mergeGh g1 gc n os).w (mergeGh g1 gc n os).own u U:=fun hr=>hr.mono (Nat.le_refl _) (fun b _ h=>(ho b).1 h) (fun _ _ _=>rfl)
 have at':∀ {id:Nat} {ob:Ob},lookup gc.objs id = some ob→lookup (mergeGh g1 gc n os).objs (id + n) = some ob∧(mergeGh g1 gc n os).ρ (id + n) = gc.ρ id:=fun {id ob} h=>by
  have hi:¬ id + n < n:=by omega
  refine ⟨?_,?_⟩
  ·rw [merge_lookup h1,if_neg hi,Nat.add_sub_cancel,← call_lookup hc]; exact h
  ·simp only [mergeGh]; rw [if_neg hi,Nat.add_sub_cancel]
 induction hr with
 | imm h1=>simp only [AV.ren]; exact .imm (mono h1)
 | full h1=>simp only [AV.ren]; exact .full (mono h1)
 | agg h1 _ h3 ih =>
  simp only [AV.ren,rens_eq]
  refine .agg (by simp [h1]) (fun j c hc=>?_) h3
  rw [List.getElem?_map,Option.map_eq_some_iff] at hc
  obtain ⟨x,hx,rfl⟩:=hc
  exact ih j x hx
 | tup h1 _ ih =>
  simp only [AV.ren,rens_eq]
  refine .tup (by simp [h1]) (fun j c hc=>?_)
  rw [List.getElem?_map,Option.map_eq_some_iff] at hc
  obtain ⟨x,hx,rfl⟩:=hc
  exact ih j x hx
 | ptr h1 h2 =>
  simp only [AV.ren,shf]
  exact .ptr (at' h1).1 ((at' h1).2.trans h2)
 | @row id ver0 ob u V h1 h2 h3 h4 h5 =>
  simp only [AV.ren,shf]
  cases hb:Nat.beq 0 ver0 with
  | true =>
   have:=nbeq hb
   subst this
   exact .row (at' h1).1 h2 (Nat.zero_le _) (fun h=>by rw [show Nat.add id n = id + n from rfl,(at' h1).2]; exact h4 h) h5
  | false=>exact .dead
 | @elp id ver i off ob u V h1 h2 h3 h4 h5 =>
  simp only [AV.ren,shf]
  cases hb:Nat.beq 0 ver with
  | true =>
   have:=nbeq hb
   subst this
   refine .elp (v:=u) (at' h1).1 h2 (Nat.zero_le _) h4 (fun h=>?_)
   rw [show Nat.add id n = id + n from rfl,(at' h1).2]
   exact h5 h
  | false=>exact .dead
 | @vw id ver lo m k ob u A h1 h2 h3 h4 h5 =>
  simp only [AV.ren,shf]
  cases hb:Nat.beq 0 ver with
  | true =>
   have:=nbeq hb
   subst this
   refine .vw (v:=u) (at' h1).1 h2 (Nat.zero_le _) h4 (fun h=>?_)
   rw [show Nat.add id n = id + n from rfl,(at' h1).2]
   exact h5 h
  | false=>exact .dead
 | elv vs h1 h2 h3 h4=>simp only [AV.ren]; exact .elv vs (fun h=>h1 ((ho _).1 h)) h2 h3 (fun j c hc=>mono (h4 j c hc))
 | asl h1 h2 h3 =>
  simp only [AV.ren,shf]
  exact .asl (at' h1).1 ((at' h1).2.trans h2) h3
 | gptr=>simp only [AV.ren]; exact .gptr
 | fn h1 _ h3 _ ih1 ih2 =>
  simp only [AV.ren,rens_eq]
  refine .fn (by simp [h1]) (fun j c hc=>?_) (by simp [h3]) (fun j c hc=>?_)
  ·rw [List.getElem?_map,Option.map_eq_some_iff] at hc
   obtain ⟨x,hx,rfl⟩:=hc
   exact ih1 j x hx
  ·rw [List.getElem?_map,Option.map_eq_some_iff] at hc
   obtain ⟨x,hx,rfl⟩:=hc
   exact ih2 j x hx
 | ifc _ ih=>simp only [AV.ren]; exact .ifc ih
 | opt=>simp only [AV.ren]; exact .opt
 | dead=>simp only [AV.ren]; exact .dead
theorem merge_mem (h1:Mem G b0 w0 objs n g1) (hc:Mem G g1.w.heap.size g1.w (numb 0 os) os.length gc) (hb:∀ b,gc.base b↔g1.own b) (hrow:∀ ob,ob ∈ os→rowOb ob = true) :
  Mem G b0 w0 (lapp objs (numb n os)) (n + os.length) (mergeGh g1 gc n os):=by
 obtain ⟨hx,hs⟩:=merge_ext h1 hc hb
 have ho:=merge_own h1 hc hb
 refine ⟨by simp only [mergeGh]; rw [h1.same],fun id ob hl=>?_,fun id id' b q1 q2 q3 q4 q5 q6=>?_,fun id hid=>?_,h1.below.trans (hc.below.mono h1.size),Nat.le_trans h1.size hc.size,fun b hbb=>⟨Nat.lt_of_lt_of_le (h1.basel b hbb).1 hc.size,fun id q1 q2 q3=>?_⟩,fun id b q1 q2 q3=>?_,h1.glob.ext hx⟩
 ·rw [merge_lookup h1] at hl
  by_cases hi:id < n
  ·rw [if_pos hi] at hl
   have:=(h1.each id ob hl).ext hx hs (fun _ b _ hlt=>hc.below.block b hlt)
   simp only [mergeGh]
   rw [if_pos hi,if_pos hi]
   exact this
  ·rw [if_neg hi] at hl
   have hr:=hrow ob (List.mem_of_getElem? hl)
   have hob:=hc.each (id - n) ob (by rw [call_lookup hc]; exact hl)
   have mono:∀ {u:IV} {U:Value},Rep gc.w gc.own u U→Rep (mergeGh g1 gc n os).w (mergeGh g1 gc n os).own u U:=fun hr=>hr.mono (Nat.le_refl _) (fun b _ h=>(ho b).1 h) (fun _ _ _=>rfl)
   have e1:(mergeGh g1 gc n os).ρ id = gc.ρ (id - n):=by simp only [mergeGh]; rw [if_neg hi]
   have e2:(mergeGh g1 gc n os).ex id = gc.ex (id - n):=by simp only [mergeGh]; rw [if_neg hi]
   rw [e1,e2]
   generalize gc.ρ (id - n) = R at hob
   generalize gc.ex (id - n) = ee at hob
   cases hob with
   | cells=>simp [rowOb] at hr
   | iter=>simp [rowOb] at hr
   | shared k1 k2 k3 k4=>exact .shared k1 k2 k3 (mono k4)
   | excl k1 k2 k3 k4 k5 k6 k7 k8 k9 k10 k11=>exact .excl k1 k2 k3 k4 k5 k6 k7 k8 k9 (fun i j u hu=>mono (k10 i j u hu)) k11
 ·rw [merge_lookup h1] at q1 q2
  simp only [mergeGh] at q3 q4 q5 q6
  by_cases hi:id < n <;> by_cases hj:id' < n
  ·rw [if_pos hi] at q1 q3 q5
   rw [if_pos hj] at q2 q4 q6
   exact h1.uniq id id' b q1 q2 q3 q4 q5 q6
  ·rw [if_pos hi] at q1 q3 q5
   rw [if_neg hj,← call_lookup hc] at q2
   rw [if_neg hj] at q4 q6
   have:=(h1.above id b q1 q3 q5).2
   have:=(hc.above _ b q2 q4 q6).1
   omega
  ·rw [if_neg hi,← call_lookup hc] at q1
   rw [if_neg hi] at q3 q5
   rw [if_pos hj] at q2 q4 q6
   have:=(h1.above id' b q2 q4 q6).2
   have:=(hc.above _ b q1 q3 q5).1
   omega
  ·rw [if_neg hi,← call_lookup hc] at q1
   rw [if_neg hi] at q3 q5
   rw [if_neg hj,← call_lookup hc] at q2
   rw [if_neg hj] at q4 q6
   have:=hc.uniq _ _ b q1 q2 q3 q4 q5 q6
   omega
 ·rw [merge_lookup h1,if_neg (by omega)]
  exact List.getElem?_eq_none (by omega)
 ·rw [merge_lookup h1] at q1
  simp only [mergeGh] at q2 q3
  by_cases hi:id < n
  ·rw [if_pos hi] at q1 q2 q3
   exact (h1.basel b hbb).2 id q1 q2 q3
  ·rw [if_neg hi,← call_lookup hc] at q1
   rw [if_neg hi] at q2 q3
   have:=(hc.above _ b q1 q2 q3).1
   have:=(h1.basel b hbb).1
   omega
 ·rw [merge_lookup h1] at q1
  simp only [mergeGh] at q2 q3
  by_cases hi:id < n
  ·rw [if_pos hi] at q1 q2 q3
   have:=h1.above id b q1 q2 q3
   exact ⟨this.1,Nat.lt_of_lt_of_le this.2 hc.size⟩
  ·rw [if_neg hi,← call_lookup hc] at q1
   rw [if_neg hi] at q2 q3
   have:=hc.above _ b q1 q2 q3
   have:=h1.size
   exact ⟨by omega,by simp only [mergeGh]; omega⟩
def callV (S:FuncId→List AV→Option (List Prop×List AV×List Ob)):FuncId→List AV→St→(AV→St→Prop)→(AV→St→Prop)→Prop:=fun f ars st k _=>match S f (lmap st.close ars) with
 | some (pres,rs,os)=>conj pres (k (resAV (AV.rens (shf st.next) rs)) { st.freeze (lflat rowIds ars) with objs:=lapp (st.freeze (lflat rowIds ars)).objs (numb st.next os),next:=st.next + llen os })
 | none=>False
theorem callV_ok {S:FuncId→List AV→Option (List Prop×List AV×List Ob)} (hS:∀ f args pres rs os,S f args = some (pres,rs,os)→SpecV C.P C.G f args pres rs os):XOK C (callV S):=by
 intro f args st k kp h
 unfold callV at h
 split at h
 case h_2=>exact h.elim
 rename_i pres rs os hs
 obtain ⟨hps,h⟩:=conj_elim h
 obtain ⟨⟨fn,hfn,hname,hbody⟩,hrows,hcalls⟩:=hS _ _ _ _ _ hs
 refine ⟨fn,hfn,hname,hbody,fun g b0 w0 vals hM hsz hr=>?_⟩
 obtain ⟨g1,f1,n1⟩:=freezeAll_sound (lflat rowIds args) hM
 have off:∀ id,id ∈ lflat rowIds args→∀ b,blk (g.ρ id) = some b→(¬ g1.own b∨∃ A,g.ρ id = .slice A 0 0):=fun id hid b hb=>by
  rw [lflat_eq,List.mem_flatMap] at hid
  obtain ⟨x,hx,hid⟩:=hid
  obtain ⟨j,hj,rfl⟩:=List.mem_iff_getElem.1 hx
  have hr:=hr j _ (List.getElem?_eq_getElem hj)
  have gof:∀ ob u,lookup g.objs id = some ob→ob.o = .row u→(¬ g1.own b∨∃ A,g.ρ id = .slice A 0 0):=fun ob u q1 q2=>by
   obtain ⟨own,ver',o⟩:=ob
   simp only at q2
   subst q2
   exact n1 id (by rw [lflat_eq,List.mem_flatMap]; exact ⟨_,hx,hid⟩) own ver' u (by rw [← hM.same]; exact q1) b hb
  have cell:∀ ver V,ARep g (.row id ver) V→(¬ g1.own b∨∃ A,g.ρ id = .slice A 0 0):=fun ver V hr=>by
   cases hr with
   | row q1 q2=>exact gof _ _ q1 q2
  have cellv:∀ ver lo n V,ARep g (.vw id ver lo n) V→(¬ g1.own b∨∃ A,g.ρ id = .slice A 0 0):=fun ver lo n V hr=>by
   cases hr with
   | vw q1 q2=>exact gof _ _ q1 q2
  generalize args[j] = x at *
  generalize vals.getD j undef = X at hr
  unfold rowIds at hid
  split at hid
  ·rw [List.mem_singleton] at hid
   subst hid
   exact cell _ _ hr
  ·rw [List.mem_singleton] at hid
   subst hid
   exact cellv _ _ _ _ hr
  ·rename_i cs
   rw [lflat_eq,List.mem_flatMap] at hid
   obtain ⟨c,hc,hidc⟩:=hid
   split at hidc
   ·rw [List.mem_singleton] at hidc
    subst hidc
    obtain ⟨q,hq,e⟩:=List.mem_iff_getElem.1 hc
    cases hr with
    | agg p1 p2=>exact cell _ _ (p2 q _ (by rw [List.getElem?_eq_getElem hq,e]))
   ·rw [List.mem_singleton] at hidc
    subst hidc
    obtain ⟨q,hq,e⟩:=List.mem_iff_getElem.1 hc
    cases hr with
    | agg p1 p2=>exact cellv _ _ _ _ (p2 q _ (by rw [List.getElem?_eq_getElem hq,e]))
   ·cases hidc
  ·cases hid
 have hc:=hcalls hps g.w g1.own vals (fun b hb=>hM.own_lt (f1.own b hb)) (by rw [lmap_eq,List.length_map]; exact hsz) (fun j c hc=>by
   rw [lmap_eq,List.getElem?_map,Option.map_eq_some_iff] at hc
   obtain ⟨x,hx,rfl⟩:=hc
   refine close_sound hM (hr j x hx) f1.own (fun id hid b hb=>off id ?_ b hb)
   rw [lflat_eq,List.mem_flatMap]
   exact ⟨x,List.mem_of_getElem? hx,hid⟩) (fun n l hG=>by
    obtain ⟨q1,c,T,fr,q2,q3,q4,q5⟩:=hM.glob n l hG
    refine ⟨fun h=>q1 (f1.own n h),c,T,fr,q2,q3,fun j u hu=>?_,q5⟩
    have:=q4 j u hu
    unfold GRep at this ⊢
    split at this
    ·exact this.mono (Nat.le_refl _) (fun b _ hb=>f1.own b hb) (fun _ _ _=>rfl)
    ·exact this
    ·exact this)
 refine hc.mono ?_
 rintro e w' ⟨Vs,gc,rfl,rfl,hMc,hbase,hl,hreps⟩
 have hMc':Mem C.G g1.w.heap.size g1.w (numb 0 os) os.length gc:=by rw [f1.w]; exact hMc
 have hm:=merge_mem f1.mem hMc' hbase hrows
 obtain ⟨hx,hs'⟩:=merge_ext f1.mem hMc' hbase
 refine .inl ⟨_,_,mergeGh g1 gc st.next os,_,rfl,h,by rw [llen_eq]; exact hm,rfl,(f1.step (st:=st) (st':=st.freeze (lflat rowIds args)) rfl rfl).trans (Step.of (st:=st.freeze (lflat rowIds args)) (st':={ st.freeze (lflat rowIds args) with objs:=lapp (st.freeze (lflat rowIds args)).objs (numb st.next os),next:=st.next + llen os }) hx hs' rfl rfl rfl),?_⟩
 refine resAV_rep (by rw [rens_eq,List.length_map]; exact hl) (fun j c hc=>?_)
 rw [rens_eq,List.getElem?_map,Option.map_eq_some_iff] at hc
 obtain ⟨x,hx',rfl⟩:=hc
 obtain ⟨V,hV,hrep⟩:=hreps j x hx'
 exact ⟨V,hV,merge_rep f1.mem hMc' hbase hrep⟩
theorem spec_okV {f:FuncId} {fn:Func} {args rs:List AV} {os:List Ob} {pres:List Prop} {p:Plan} (hE:EOK C.P C.E C.G) (hC:CallOK C) (hf:C.P.funcs[f]? = some fn) (hn:(fn.name == "runtime.NumGoroutine") = false) (hb:fn.body.isNone = false) (hrows:∀ ob,ob ∈ os→rowOb ob = true)
  (h:(∀ p,p ∈ pres→p)→evFunc C fn args st0 (fun vs st'=>norm p ⟨vs,st'.objs,st'.next,[]⟩ = some ⟨rs,numb 0 os,os.length,[]⟩) (fun _ _=>False)):SpecV C.P C.G f args pres rs os:=by
 refine ⟨⟨fn,hf,hn,hb⟩,hrows,fun hp w own vals hown hsz hargs hG=>?_⟩
 have hM:Mem C.G w.heap.size w st0.objs st0.next (zeroGh w own) :=
  ⟨rfl,fun id ob h=>by simp [zeroGh,lookup] at h,fun id id' b h=>by simp [zeroGh,lookup] at h,fun id _=>rfl,Below.refl _ _,Nat.le_refl _,fun b hb=>⟨hown b hb,fun id h=>by simp [zeroGh,lookup] at h⟩,fun id b h=>by simp [zeroGh,lookup] at h,fun n l hn=>by
   obtain ⟨q1,c,T,fr,q2,q3,q4,q5⟩:=hG n l hn
   refine ⟨fun h=>q1 (zero_own.1 h),c,T,fr,q2,q3,fun j u hu=>?_,q5⟩
   have:=q4 j u hu
   unfold GRep at this ⊢
   split at this
   ·exact this.mono (Nat.le_refl _) (fun b _ h=>zero_own.1 h) (fun _ _ _=>rfl)
   ·exact this
   ·exact this⟩
 obtain ⟨_,hc⟩:=evFunc_sound hE hC hf (h hp) hM hsz hargs
 refine hc.mono ?_
 rintro e w' (⟨vs,st',g',Vs,rfl,k1,k2,rfl,k4,k5,k6⟩ | ⟨v,st',g',V,rfl,k1,_⟩)
 ·have hT:∀ a:Act,a.tmps = Vs.toArray→TmpsRep g' vs a:=fun a ha=>by
   refine ⟨by rw [ha]; simpa using k5,fun t=>?_⟩
   rw [ha]
   cases hv:vs[t]? with
   | none =>
    rw [nth_out (List.getElem?_eq_none_iff.1 hv)]
    exact .dead
   | some c =>
    obtain ⟨V,hV,hr⟩:=k6 t c hv
    rw [nth_eq,List.getD_eq_getElem?_getD,hv,getD_of (by simpa using hV)]
    exact hr
  obtain ⟨g2,w2⟩:=norm_sound (C:=C) (st:=⟨vs,st'.objs,st'.next,[]⟩) (a:=⟨Vs.toArray,[]⟩) k2 (hT _ rfl) k1
  refine ⟨Vs,g2,rfl,w2.w,w2.mem,fun b=>?_,?_,fun j c hc=>?_⟩
  ·rw [w2.step.base,k4.base]; rfl
  ·have:=w2.tmps.1
   simpa using this
  ·have hlen:j < Vs.length:=by
    have h1:=w2.tmps.1
    have h2:=(List.getElem?_eq_some_iff.1 hc).1
    simp only [List.size_toArray] at h1
    omega
   refine ⟨Vs[j],List.getElem?_eq_getElem hlen,?_⟩
   have:=w2.tmps.2 j
   simp only at this
   rw [nth_eq,List.getD_eq_getElem?_getD,hc,getD_of (v:=Vs[j]) (by simp [List.getElem?_eq_getElem hlen])] at this
   exact this
 ·exact k1.elim
end Go.AE
namespace Z19
open Go Go.AE Go.Proofs D6
noncomputable section
noncomputable def sTotalT:List AV→Option (List Prop×List AV)
 | [.agg [.imm (.int .i64 v),.imm (.int .u32 iu),.imm (.int .u32 is),.imm (.int .u32 l),.imm (.int .u32 t),.imm (.int .u32 ty),.imm (.int .u32 c)],.imm (.int .i64 s),.imm (.int .u64 m)] =>
  some ([okH ⟨v,iu,is,l,t,ty,c⟩,sz48 s,0≤m,m≤18446744073709551615,sumU ⟨v,iu,is,l,t,ty,c⟩ s≤m],[u6 (sumU ⟨v,iu,is,l,t,ty,c⟩ s),bo true])
 | _=>none
noncomputable def sDecT:List AV→Option (List Prop×List AV)
 | [.imm (.bytes b)]=>some ([(b.length:Int)≤1000000000000,decOk b = true],[.new (slT (dec b)),bo true])
 | _=>none
noncomputable def sDecOT:List AV→Option (List Prop×List AV)
 | [.imm (.bytes b)]=>some ([(b.length:Int)≤big',indOk b = true],[.new (.bools (decO b)),bo true])
 | _=>none
noncomputable def F7s:=addE (addE (addE F3 25 sTotalT) 31 sDecT) 32 sDecOT
noncomputable def I30:FuncId→Option Func:=fun f=>bif Nat.beq f 30 then some Tryd.f30 else none
noncomputable def V12s:Cx:=⟨Tryd.prog,F7s,inl I30 Tryd.prog F7s G16 2006005 2,G16,2006022⟩
end
noncomputable def dD (d:List UInt8) (h:Hd) (s:Int):List UInt8:=takeU ⟨d,0,0,0⟩ (IntKind.wrap .i64 (sumU h s))
noncomputable def pc (D:List UInt8) (a b:Int):List UInt8:=List.take (a.toNat + (b.toNat - a.toNat) - a.toNat) (List.drop a.toNat D)
noncomputable def rowV (v:IV):Ob:=⟨true,0,.row v⟩
noncomputable def os12 (d:List UInt8) (h:Hd) (s:Int):List Ob:=[rowV (.bytes (dD d h s)),rowV (.ints .i64 (decI (pc (dD d h s) 0 (o1 h s)) s.toNat ((pc (dD d h s) 0 (o1 h s)).length / s.toNat))),rowV (slT (dec (pc (dD d h s) (o2 h s) (o3 h s)))),
 rowV (slL (decL (pc (dD d h s) (o4 h s) (o5 h s)) s.toNat ((pc (dD d h s) (o4 h s) (o5 h s)).length / (s.toNat + 4)))),rowV (.bools (decO (pc (dD d h s) (o5 h s) (o6 h s)))),rowV (.bools (decO (pc (dD d h s) (o6 h s) (o7 h s))))]
noncomputable def rs12 (d:List UInt8) (h:Hd) (s:Int):List AV:=[.agg [.row 1 0,.vw 0 0 (o1 h s).toNat ((o2 h s).toNat - (o1 h s).toNat),.row 2 0,.vw 0 0 (o3 h s).toNat ((o4 h s).toNat - (o3 h s).toNat),.row 3 0,.row 4 0,.row 5 0],(advU ⟨d,0,0,0⟩ (IntKind.wrap .i64 (sumU h s))).av]
noncomputable def sv12:List AV→Option (List Prop×List AV×List Ob)
 | [.agg [.imm (.bytes d),.imm (.int .i64 0),.imm (.int .i64 0),.imm (.int .i64 0)],.agg [.imm (.int .i64 v),.imm (.int .u32 iu),.imm (.int .u32 is),.imm (.int .u32 l),.imm (.int .u32 t),.imm (.int .u32 ty),.imm (.int .u32 c)],.imm (.int .i64 s),.imm (.int .i64 0)] =>
  some ([okU ⟨d,0,0,0⟩,okH ⟨v,iu,is,l,t,ty,c⟩,sz48 s,fitsD ⟨d,0,0,0⟩ ⟨v,iu,is,l,t,ty,c⟩ s = true,okD d ⟨v,iu,is,l,t,ty,c⟩ s = true],rs12 d ⟨v,iu,is,l,t,ty,c⟩ s,os12 d ⟨v,iu,is,l,t,ty,c⟩ s)
 | _=>none
noncomputable def SV:FuncId→List AV→Option (List Prop×List AV×List Ob):=fun f xs=>bif Nat.beq 12 f then sv12 xs else none
noncomputable def F8s:=addE (addE F3 21 sEncode) 8 sAwake
noncomputable def V7s:Cx:=⟨Tryd.prog,F8s,callV SV,G16,2006017⟩
noncomputable def hcs (v iu is l t ty c:Int):List AV:=[.imm (.int .i64 v),.imm (.int .u32 iu),.imm (.int .u32 is),.imm (.int .u32 l),.imm (.int .u32 t),.imm (.int .u32 ty),.imm (.int .u32 c)]
noncomputable def bk7 (r:Nat) (a n a' n':Nat):Ob:=⟨true,0,.cells [.row r 0,.vw (r + 1) 0 a n,.row (r + 2) 0,.vw (r + 1) 0 a' n',.row (r + 3) 0,.row (r + 4) 0,.row (r + 5) 0]⟩
noncomputable def k7a (d:List UInt8) (v iu is l t ty c s:Int) (O E:List UInt8) (T:List Int) (D:List UInt8) (X L:List (List IV)) (S U:List Bool) (a n a' n':Nat) (i:Int):St :=
  ⟨spr [(0,.imm (.bytes d)),(4,.ptr 0 0),(7,.imm (.int .i64 s)),(8,.row 1 0),(9,.ptr 2 0),(11,.row 3 0),(12,.imm (.int .i64 i))] 0 104,
   [(0,⟨true,0,.cells (hcs v iu is l t ty c)⟩),(1,⟨false,0,.row (.bytes O)⟩),(2,bk7 4 a n a' n'),(3,rowV (.bytes E)),(4,rowV (.ints .i64 T)),(5,rowV (.bytes D)),(6,rowV (.sl 3 X)),(7,rowV (.sl 2 L)),(8,rowV (.bools S)),(9,rowV (.bools U))],10,[]⟩
noncomputable def q7i:Plan:=⟨[],msk [0,4,7,8,9,11,12] 0 104,[0,1,2,4,5,6,7,8,9,10]⟩
noncomputable def q7a:Plan:=⟨[],msk [0,4,7,8,9,11,12] 0 104,[0,1,2,3,4,5,6,7,8,9]⟩
noncomputable def x7a (d:List UInt8) (v iu is l t ty c s:Int) (O E:List UInt8) (T:List Int) (D:List UInt8) (X L:List (List IV)) (S U:List Bool) (a n a' n':Nat) (i:Int):St :=
  ⟨spr [(0,.imm (.bytes d)),(4,.ptr 0 0),(7,.imm (.int .i64 s)),(8,.row 1 0),(9,.ptr 2 0),(11,.row 3 0),(12,.imm (.int .i64 i)),(41,.imm (.int .i64 i)),(42,.row 3 0),(43,.imm (.int .i64 (E.length:Int))),(44,.imm (.bool (decide (i < (E.length:Int)))))] 0 104,
   [(0,⟨true,0,.cells (hcs v iu is l t ty c)⟩),(1,⟨false,0,.row (.bytes O)⟩),(2,bk7 4 a n a' n'),(3,rowV (.bytes E)),(4,rowV (.ints .i64 T)),(5,rowV (.bytes D)),(6,rowV (.sl 3 X)),(7,rowV (.sl 2 L)),(8,rowV (.bools S)),(9,rowV (.bools U))],10,[]⟩
noncomputable def ob7 (O:List UInt8) (T:List Int) (D:List UInt8) (X L:List (List IV)) (S U:List Bool) (a n a' n':Nat):List (Nat×Ob) :=
 [(0,⟨false,0,.row (.bytes O)⟩),(1,bk7 2 a n a' n'),(2,rowV (.ints .i64 T)),(3,rowV (.bytes D)),(4,rowV (.sl 3 X)),(5,rowV (.sl 2 L)),(6,rowV (.bools S)),(7,rowV (.bools U))]
noncomputable def k7b (d O:List UInt8) (T:List Int) (D:List UInt8) (X L:List (List IV)) (S U:List Bool) (a n a' n':Nat) (i:Int):St :=
 ⟨spr [(0,.imm (.bytes d)),(8,.row 0 0),(9,.ptr 1 0),(15,.imm (.int .i64 i))] 0 104,ob7 O T D X L S U a n a' n',8,[]⟩
noncomputable def k7c (d O:List UInt8) (T:List Int) (D:List UInt8) (X L:List (List IV)) (S U:List Bool) (a n a' n':Nat) (i:Int):St :=
 ⟨spr [(0,.imm (.bytes d)),(8,.row 0 0),(9,.ptr 1 0),(16,.imm (.int .i64 i))] 0 104,ob7 O T D X L S U a n a' n',8,[]⟩
noncomputable def q7j:Plan:=⟨[],msk [0,8,9,15] 0 104,[1,2,6,7,8,9,10,11]⟩
noncomputable def q7b:Plan:=⟨[],msk [0,8,9,15] 0 104,[0,1,2,3,4,5,6,7]⟩
noncomputable def q7c:Plan:=⟨[],msk [0,8,9,16] 0 104,[0,1,2,3,4,5,6,7]⟩
noncomputable def x7b (d O:List UInt8) (T:List Int) (D:List UInt8) (X L:List (List IV)) (S U:List Bool) (a n a' n':Nat) (i:Int):St :=
 ⟨spr [(0,.imm (.bytes d)),(8,.row 0 0),(9,.ptr 1 0),(15,.imm (.int .i64 i)),(67,.imm (.int .i64 i)),(68,.ptr 1 1),(69,.vw 3 0 a n),(70,.imm (.int .i64 (n:Int))),(71,.imm (.bool (decide (i < (n:Int)))))] 0 104,ob7 O T D X L S U a n a' n',8,[]⟩
noncomputable def x7c (d O:List UInt8) (T:List Int) (D:List UInt8) (X L:List (List IV)) (S U:List Bool) (a n a' n':Nat) (i:Int):St :=
 ⟨spr [(0,.imm (.bytes d)),(8,.row 0 0),(9,.ptr 1 0),(16,.imm (.int .i64 i)),(84,.imm (.int .i64 i)),(85,.ptr 1 3),(86,.vw 3 0 a' n'),(87,.imm (.int .i64 (n':Int))),(88,.imm (.bool (decide (i < (n':Int)))))] 0 104,ob7 O T D X L S U a n a' n',8,[]⟩
noncomputable def V7e:Cx:=⟨Tryd.prog,F5,noCall,G16,4017⟩
noncomputable def b7e (T:List Int) (I:List UInt8) (X:List (List IV)) (C:List UInt8) (L:List (List IV)) (S U:List Bool):Ob:=⟨true,0,.cells [.imm (.ints .i64 T),.imm (.bytes I),.imm (.sl 3 X),.imm (.bytes C),.imm (.sl 2 L),.imm (.bools S),.imm (.bools U)]⟩
noncomputable def k8a (d:List UInt8) (v iu is l t ty c s:Int) (O E:List UInt8) (T:List Int) (I:List UInt8) (X:List (List IV)) (C:List UInt8) (L:List (List IV)) (S U:List Bool) (i:Int):St :=
  ⟨spr [(0,.imm (.bytes d)),(4,.ptr 0 0),(7,.imm (.int .i64 s)),(8,.row 1 0),(9,.ptr 2 0),(11,.row 3 0),(12,.imm (.int .i64 i))] 0 104,
   [(0,⟨true,0,.cells (hcs v iu is l t ty c)⟩),(1,⟨false,0,.row (.bytes O)⟩),(2,b7e T I X C L S U),(3,rowV (.bytes E))],4,[]⟩
noncomputable def x8a (d:List UInt8) (v iu is l t ty c s:Int) (O E:List UInt8) (T:List Int) (I:List UInt8) (X:List (List IV)) (C:List UInt8) (L:List (List IV)) (S U:List Bool) (i:Int):St :=
  ⟨spr [(0,.imm (.bytes d)),(4,.ptr 0 0),(7,.imm (.int .i64 s)),(8,.row 1 0),(9,.ptr 2 0),(11,.row 3 0),(12,.imm (.int .i64 i)),(41,.imm (.int .i64 i)),(42,.row 3 0),(43,.imm (.int .i64 (E.length:Int))),(44,.imm (.bool (decide (i < (E.length:Int)))))] 0 104,
   [(0,⟨true,0,.cells (hcs v iu is l t ty c)⟩),(1,⟨false,0,.row (.bytes O)⟩),(2,b7e T I X C L S U),(3,rowV (.bytes E))],4,[]⟩
noncomputable def q8i:Plan:=⟨[],msk [0,4,7,8,9,11,12] 0 104,[0,1,2,4]⟩
noncomputable def q8a:Plan:=⟨[],msk [0,4,7,8,9,11,12] 0 104,[0,1,2,3]⟩
noncomputable def k8b (j:Nat) (d O:List UInt8) (T:List Int) (I:List UInt8) (X:List (List IV)) (C:List UInt8) (L:List (List IV)) (S U:List Bool) (i:Int):St :=
 ⟨spr [(0,.imm (.bytes d)),(8,.row 0 0),(9,.ptr 1 0),(j,.imm (.int .i64 i))] 0 104,[(0,⟨false,0,.row (.bytes O)⟩),(1,b7e T I X C L S U)],2,[]⟩
noncomputable def x8b (d O:List UInt8) (T:List Int) (I:List UInt8) (X:List (List IV)) (C:List UInt8) (L:List (List IV)) (S U:List Bool) (i:Int):St :=
 ⟨spr [(0,.imm (.bytes d)),(8,.row 0 0),(9,.ptr 1 0),(15,.imm (.int .i64 i)),(67,.imm (.int .i64 i)),(68,.ptr 1 1),(69,.imm (.bytes I)),(70,.imm (.int .i64 (I.length:Int))),(71,.imm (.bool (decide (i < (I.length:Int)))))] 0 104,[(0,⟨false,0,.row (.bytes O)⟩),(1,b7e T I X C L S U)],2,[]⟩
noncomputable def x8c (d O:List UInt8) (T:List Int) (I:List UInt8) (X:List (List IV)) (C:List UInt8) (L:List (List IV)) (S U:List Bool) (i:Int):St :=
 ⟨spr [(0,.imm (.bytes d)),(8,.row 0 0),(9,.ptr 1 0),(16,.imm (.int .i64 i)),(84,.imm (.int .i64 i)),(85,.ptr 1 3),(86,.imm (.bytes C)),(87,.imm (.int .i64 (C.length:Int))),(88,.imm (.bool (decide (i < (C.length:Int)))))] 0 104,[(0,⟨false,0,.row (.bytes O)⟩),(1,b7e T I X C L S U)],2,[]⟩
end Z19
set_option maxRecDepth 100000
namespace Z19
open Go Go.AE Go.Proofs D6
attribute [local irreducible] loopK evCode evSpec loopB norm
theorem s12_in (d:List UInt8) (v:Int) (iu:Int) (is:Int) (l:Int) (t:Int) (ty:Int) (c:Int) (s:Int) (K:List AV→St→Prop):evFunc V12s Tryd.f12 [curAV d (0:Int) (0:Int) (0:Int),hdAV v iu is l t ty c,i64 s,i64 (0:Int)] st0 K (fun _ _=>False) = (let A2:Prop:=((K [.agg [AV.row (11:Nat) (0:Nat),AV.vw (10:Nat) (0:Nat) (o1 (Hd.mk v iu is l t ty c) s).toNat ((o2 (Hd.mk v iu is l t ty c) s).toNat - (o1 (Hd.mk v iu is l t ty c) s).toNat),AV.row (7:Nat) (0:Nat),AV.vw (10:Nat) (0:Nat) (o3 (Hd.mk v iu is l t ty c) s).toNat ((o4 (Hd.mk v iu is l t ty c) s).toNat - (o3 (Hd.mk v iu is l t ty c) s).toNat),AV.row (12:Nat) (0:Nat),AV.row (8:Nat) (0:Nat),AV.row (9:Nat) (0:Nat)],.agg [.imm (.bytes (Cu.d (advU (Cu.mk d (0:Int) (0:Int) (0:Int)) (IntKind.wrap .i64 (sumU (Hd.mk v iu is l t ty c) s))))),.imm (.int .i64 (Cu.p (advU (Cu.mk d (0:Int) (0:Int) (0:Int)) (IntKind.wrap .i64 (sumU (Hd.mk v iu is l t ty c) s))))),.imm (.int .i64 (Cu.e (advU (Cu.mk d (0:Int) (0:Int) (0:Int)) (IntKind.wrap .i64 (sumU (Hd.mk v iu is l t ty c) s))))),.imm (.int .i64 (Cu.a (advU (Cu.mk d (0:Int) (0:Int) (0:Int))
 (IntKind.wrap .i64 (sumU (Hd.mk v iu is l t ty c) s)))))]] (St.mk [] [(0,Ob.mk true 0 (AObj.cells [AV.row (10:Nat) (0:Nat)])),(1,Ob.mk true 0 (AObj.cells [.imm (.int IntKind.u64 (0:Int)),.imm (.int IntKind.u64 (o1 (Hd.mk v iu is l t ty c) s)),.imm (.int IntKind.u64 (o2 (Hd.mk v iu is l t ty c) s)),.imm (.int IntKind.u64 (o3 (Hd.mk v iu is l t ty c) s)),.imm (.int IntKind.u64 (o4 (Hd.mk v iu is l t ty c) s)),.imm (.int IntKind.u64 (o5 (Hd.mk v iu is l t ty c) s)),.imm (.int IntKind.u64 (o6 (Hd.mk v iu is l t ty c) s)),.imm (.int IntKind.u64 (o7 (Hd.mk v iu is l t ty c) s))])),(2,Ob.mk true 0 (AObj.cells [.imm (.bytes d),.imm (.int .i64 0),.imm (.int .i64 0),.imm (.int .i64 0)])),(3,Ob.mk true 0 (AObj.cells [.imm (.int .i64 v),.imm (.int IntKind.u32 iu),.imm (.int IntKind.u32 is),.imm (.int IntKind.u32 l),.imm (.int IntKind.u32 t),.imm (.int IntKind.u32 ty),.imm (.int IntKind.u32 c)])),(4,Ob.mk true 0 (AObj.cells [AV.row (11:Nat) (0:Nat),AV.vw (10:Nat) (0:Nat) (o1 (Hd.mk v iu is l t ty c) s).toNat ((o2 (Hd.mk v iu is l t ty c) s).toNat - (o1 (Hd.mk v iu is l t ty c) s).toNat),AV.row (7:Nat) (0:Nat),AV.vw (10:Nat) (0:Nat) (o3 (Hd.mk v
 iu is l t ty c) s).toNat ((o4 (Hd.mk v iu is l t ty c) s).toNat - (o3 (Hd.mk v iu is l t ty c) s).toNat),AV.row (12:Nat) (0:Nat),AV.row (8:Nat) (0:Nat),AV.row (9:Nat) (0:Nat)])),(5,Ob.mk true 0 (AObj.cells [.imm (.bytes (Cu.d (advU (Cu.mk d (0:Int) (0:Int) (0:Int)) (IntKind.wrap .i64 (sumU (Hd.mk v iu is l t ty c) s))))),.imm (.int .i64 (Cu.p (advU (Cu.mk d (0:Int) (0:Int) (0:Int)) (IntKind.wrap .i64 (sumU (Hd.mk v iu is l t ty c) s))))),.imm (.int .i64 (Cu.e (advU (Cu.mk d (0:Int) (0:Int) (0:Int)) (IntKind.wrap .i64 (sumU (Hd.mk v iu is l t ty c) s))))),.imm (.int .i64 (Cu.a (advU (Cu.mk d (0:Int) (0:Int) (0:Int)) (IntKind.wrap .i64 (sumU (Hd.mk v iu is l t ty c) s)))))])),(6,Ob.mk true 0 (AObj.cells [.imm (.bytes (Cu.d (advU (Cu.mk d (0:Int) (0:Int) (0:Int)) (IntKind.wrap .i64 (sumU (Hd.mk v iu is l t ty c) s))))),.imm (.int .i64 (Cu.p (advU (Cu.mk d (0:Int) (0:Int) (0:Int)) (IntKind.wrap .i64 (sumU (Hd.mk v iu is l t ty c) s))))),.imm (.int .i64 (Cu.e (advU (Cu.mk d (0:Int) (0:Int) (0:Int)) (IntKind.wrap .i64 (sumU (Hd.mk v iu is l t ty c) s))))),.imm (.int .i64 (Cu.a (advU (Cu.mk d (0:Int) (0:Int) (0:Int))
 (IntKind.wrap .i64 (sumU (Hd.mk v iu is l t ty c) s)))))])),(7,Ob.mk true 0 (AObj.row (IV.sl (3:Nat) (List.map cellsT (dec (List.take ((o2 (Hd.mk v iu is l t ty c) s).toNat + ((o3 (Hd.mk v iu is l t ty c) s).toNat - (o2 (Hd.mk v iu is l t ty c) s).toNat) - (o2 (Hd.mk v iu is l t ty c) s).toNat) (List.drop (o2 (Hd.mk v iu is l t ty c) s).toNat (takeU (Cu.mk d (0:Int) (0:Int) (0:Int)) (IntKind.wrap .i64 (sumU (Hd.mk v iu is l t ty c) s)))))))))),(8,Ob.mk true 0 (AObj.row (IV.bools (decO (List.take ((o5 (Hd.mk v iu is l t ty c) s).toNat + ((o6 (Hd.mk v iu is l t ty c) s).toNat - (o5 (Hd.mk v iu is l t ty c) s).toNat) - (o5 (Hd.mk v iu is l t ty c) s).toNat) (List.drop (o5 (Hd.mk v iu is l t ty c) s).toNat (takeU (Cu.mk d (0:Int) (0:Int) (0:Int)) (IntKind.wrap .i64 (sumU (Hd.mk v iu is l t ty c) s))))))))),(9,Ob.mk true 0 (AObj.row (IV.bools (decO (List.take ((o6 (Hd.mk v iu is l t ty c) s).toNat + ((o7 (Hd.mk v iu is l t ty c) s).toNat - (o6 (Hd.mk v iu is l t ty c) s).toNat) - (o6 (Hd.mk v iu is l t ty c) s).toNat) (List.drop (o6 (Hd.mk v iu is l t ty c) s).toNat (takeU (Cu.mk d (0:Int) (0:Int) (0:Int)) (IntKind.wrap .i64 (sumU (Hd.mk v iu is l t ty c)
 s))))))))),(10,Ob.mk true 0 (AObj.row (IV.bytes (takeU (Cu.mk d (0:Int) (0:Int) (0:Int)) (IntKind.wrap .i64 (sumU (Hd.mk v iu is l t ty c) s)))))),(11,Ob.mk true 0 (AObj.row (IV.ints IntKind.i64 (decI (List.take ((0:Nat) + ((o1 (Hd.mk v iu is l t ty c) s).toNat - (0:Int).toNat) - 0) (List.drop (0:Nat) (takeU (Cu.mk d (0:Int) (0:Int) (0:Int)) (IntKind.wrap .i64 (sumU (Hd.mk v iu is l t ty c) s))))) s.toNat ((List.take ((0:Nat) + ((o1 (Hd.mk v iu is l t ty c) s).toNat - (0:Int).toNat) - 0) (List.drop (0:Nat) (takeU (Cu.mk d (0:Int) (0:Int) (0:Int)) (IntKind.wrap .i64 (sumU (Hd.mk v iu is l t ty c) s))))).length / s.toNat))))),(12,Ob.mk true 0 (AObj.row (IV.sl (2:Nat) (List.map cellsL (decL (List.take ((o4 (Hd.mk v iu is l t ty c) s).toNat + ((o5 (Hd.mk v iu is l t ty c) s).toNat - (o4 (Hd.mk v iu is l t ty c) s).toNat) - (o4 (Hd.mk v iu is l t ty c) s).toNat) (List.drop (o4 (Hd.mk v iu is l t ty c) s).toNat (takeU (Cu.mk d (0:Int) (0:Int) (0:Int)) (IntKind.wrap .i64 (sumU (Hd.mk v iu is l t ty c) s))))) s.toNat ((List.take ((o4 (Hd.mk v iu is l t ty c) s).toNat + ((o5 (Hd.mk v iu is l t ty c) s).toNat - (o4 (Hd.mk v iu is l t ty c) s).toNat)
 - (o4 (Hd.mk v iu is l t ty c) s).toNat) (List.drop (o4 (Hd.mk v iu is l t ty c) s).toNat (takeU (Cu.mk d (0:Int) (0:Int) (0:Int)) (IntKind.wrap .i64 (sumU (Hd.mk v iu is l t ty c) s))))).length / (s.toNat + 4)))))))] (13:Nat) []))); let A3:Prop:=((A2)); let A6:Prop:=((A3)); let A8:Prop:=((sz48 s∧(↑(List.take ((o4 (Hd.mk v iu is l t ty c) s).toNat + ((o5 (Hd.mk v iu is l t ty c) s).toNat - (o4 (Hd.mk v iu is l t ty c) s).toNat) - (o4 (Hd.mk v iu is l t ty c) s).toNat) (List.drop (o4 (Hd.mk v iu is l t ty c) s).toNat (takeU (Cu.mk d (0:Int) (0:Int) (0:Int)) (IntKind.wrap .i64 (sumU (Hd.mk v iu is l t ty c) s))))).length:Int)≤big'∧(∀ (x:List IV),x ∈ List.map cellsL (decL (List.take ((o4 (Hd.mk v iu is l t ty c) s).toNat + ((o5 (Hd.mk v iu is l t ty c) s).toNat - (o4 (Hd.mk v iu is l t ty c) s).toNat) - (o4 (Hd.mk v iu is l t ty c) s).toNat) (List.drop (o4 (Hd.mk v iu is l t ty c) s).toNat (takeU (Cu.mk d (0:Int) (0:Int) (0:Int)) (IntKind.wrap .i64 (sumU (Hd.mk v iu is l t ty c) s))))) s.toNat ((List.take ((o4 (Hd.mk v iu is l t ty c) s).toNat + ((o5 (Hd.mk v iu is l t ty c) s).toNat - (o4 (Hd.mk v iu is l t ty c) s).toNat) - (o4 (Hd.mk v iu
 is l t ty c) s).toNat) (List.drop (o4 (Hd.mk v iu is l t ty c) s).toNat (takeU (Cu.mk d (0:Int) (0:Int) (0:Int)) (IntKind.wrap .i64 (sumU (Hd.mk v iu is l t ty c) s))))).length / (s.toNat + 4)))→∀ (c:IV),c ∈ x→scalarCell (.imm c) = true)∧A6)); let A42:Prop:=(((0:Int)≤o4 (Hd.mk v iu is l t ty c) s∧o4 (Hd.mk v iu is l t ty c) s≤o5 (Hd.mk v iu is l t ty c) s∧o5 (Hd.mk v iu is l t ty c) s≤o5 (Hd.mk v iu is l t ty c) s∧o5 (Hd.mk v iu is l t ty c) s≤(↑(takeU (Cu.mk d (0:Int) (0:Int) (0:Int)) (IntKind.wrap .i64 (sumU (Hd.mk v iu is l t ty c) s))).length:Int)∧A8)); let A76:Prop:=(((0:Int)≤o3 (Hd.mk v iu is l t ty c) s∧o3 (Hd.mk v iu is l t ty c) s≤o4 (Hd.mk v iu is l t ty c) s∧o4 (Hd.mk v iu is l t ty c) s≤o4 (Hd.mk v iu is l t ty c) s∧o4 (Hd.mk v iu is l t ty c) s≤(↑(takeU (Cu.mk d (0:Int) (0:Int) (0:Int)) (IntKind.wrap .i64 (sumU (Hd.mk v iu is l t ty c) s))).length:Int)∧A42)); let A110:Prop:=(((0:Int)≤o1 (Hd.mk v iu is l t ty c) s∧o1 (Hd.mk v iu is l t ty c) s≤o2 (Hd.mk v iu is l t ty c) s∧o2 (Hd.mk v iu is l t ty c) s≤o2 (Hd.mk v iu is l t ty c) s∧o2 (Hd.mk v iu is l t ty c) s≤(↑(takeU (Cu.mk
 d (0:Int) (0:Int) (0:Int)) (IntKind.wrap .i64 (sumU (Hd.mk v iu is l t ty c) s))).length:Int)∧A76)); let A112:Prop:=((sz48 s∧(↑(List.take ((0:Nat) + ((o1 (Hd.mk v iu is l t ty c) s).toNat - (0:Int).toNat) - 0) (List.drop (0:Nat) (takeU (Cu.mk d (0:Int) (0:Int) (0:Int)) (IntKind.wrap .i64 (sumU (Hd.mk v iu is l t ty c) s))))).length:Int)≤big'∧True∧A110)); let A220:Prop:=((okH (Hd.mk v iu is l t ty c)∧sz48 s∧(0:Int)≤IntKind.wrap IntKind.u64 (restU (Cu.mk d (0:Int) (0:Int) (0:Int)))∧IntKind.wrap IntKind.u64 (restU (Cu.mk d (0:Int) (0:Int) (0:Int)))≤18446744073709551615∧sumU (Hd.mk v iu is l t ty c) s≤IntKind.wrap IntKind.u64 (restU (Cu.mk d (0:Int) (0:Int) (0:Int)))∧okU (Cu.mk d (0:Int) (0:Int) (0:Int))∧okH (Hd.mk v iu is l t ty c)∧sz48 s∧(0:Int)≤o2 (Hd.mk v iu is l t ty c) s∧o2 (Hd.mk v iu is l t ty c) s≤o3 (Hd.mk v iu is l t ty c) s∧o3 (Hd.mk v iu is l t ty c) s≤o3 (Hd.mk v iu is l t ty c) s∧o3 (Hd.mk v iu is l t ty c) s≤(↑(takeU (Cu.mk d (0:Int) (0:Int) (0:Int)) (IntKind.wrap .i64 (sumU (Hd.mk v iu is l t ty c) s))).length:Int)∧(↑(List.take ((o2 (Hd.mk v iu is l t ty c)
 s).toNat + ((o3 (Hd.mk v iu is l t ty c) s).toNat - (o2 (Hd.mk v iu is l t ty c) s).toNat) - (o2 (Hd.mk v iu is l t ty c) s).toNat) (List.drop (o2 (Hd.mk v iu is l t ty c) s).toNat (takeU (Cu.mk d (0:Int) (0:Int) (0:Int)) (IntKind.wrap .i64 (sumU (Hd.mk v iu is l t ty c) s))))).length:Int)≤1000000000000∧decOk (List.take ((o2 (Hd.mk v iu is l t ty c) s).toNat + ((o3 (Hd.mk v iu is l t ty c) s).toNat - (o2 (Hd.mk v iu is l t ty c) s).toNat) - (o2 (Hd.mk v iu is l t ty c) s).toNat) (List.drop (o2 (Hd.mk v iu is l t ty c) s).toNat (takeU (Cu.mk d (0:Int) (0:Int) (0:Int)) (IntKind.wrap .i64 (sumU (Hd.mk v iu is l t ty c) s))))) = true∧(∀ (x:List IV),x ∈ List.map cellsT (dec (List.take ((o2 (Hd.mk v iu is l t ty c) s).toNat + ((o3 (Hd.mk v iu is l t ty c) s).toNat - (o2 (Hd.mk v iu is l t ty c) s).toNat) - (o2 (Hd.mk v iu is l t ty c) s).toNat) (List.drop (o2 (Hd.mk v iu is l t ty c) s).toNat (takeU (Cu.mk d (0:Int) (0:Int) (0:Int)) (IntKind.wrap .i64 (sumU (Hd.mk v iu is l t ty c) s))))))→∀ (c:IV),c ∈ x→scalarCell (.imm c) = true)∧(0:Int)≤o5 (Hd.mk v iu is l t ty c) s∧o5 (Hd.mk v iu is l t ty c) s≤o6 (Hd.mk v iu is l t ty c) s∧o6 (Hd.mk v
 iu is l t ty c) s≤o6 (Hd.mk v iu is l t ty c) s∧o6 (Hd.mk v iu is l t ty c) s≤(↑(takeU (Cu.mk d (0:Int) (0:Int) (0:Int)) (IntKind.wrap .i64 (sumU (Hd.mk v iu is l t ty c) s))).length:Int)∧(↑(List.take ((o5 (Hd.mk v iu is l t ty c) s).toNat + ((o6 (Hd.mk v iu is l t ty c) s).toNat - (o5 (Hd.mk v iu is l t ty c) s).toNat) - (o5 (Hd.mk v iu is l t ty c) s).toNat) (List.drop (o5 (Hd.mk v iu is l t ty c) s).toNat (takeU (Cu.mk d (0:Int) (0:Int) (0:Int)) (IntKind.wrap .i64 (sumU (Hd.mk v iu is l t ty c) s))))).length:Int)≤big'∧indOk (List.take ((o5 (Hd.mk v iu is l t ty c) s).toNat + ((o6 (Hd.mk v iu is l t ty c) s).toNat - (o5 (Hd.mk v iu is l t ty c) s).toNat) - (o5 (Hd.mk v iu is l t ty c) s).toNat) (List.drop (o5 (Hd.mk v iu is l t ty c) s).toNat (takeU (Cu.mk d (0:Int) (0:Int) (0:Int)) (IntKind.wrap .i64 (sumU (Hd.mk v iu is l t ty c) s))))) = true∧True∧(0:Int)≤o6 (Hd.mk v iu is l t ty c) s∧o6 (Hd.mk v iu is l t ty c) s≤o7 (Hd.mk v iu is l t ty c) s∧o7 (Hd.mk v iu is l t ty c) s≤o7 (Hd.mk v iu is l t ty c) s∧o7 (Hd.mk v iu is l t ty c) s≤(↑(takeU (Cu.mk d (0:Int) (0:Int) (0:Int)) (IntKind.wrap .i64 (sumU (Hd.mk v iu is l t
 ty c) s))).length:Int)∧(↑(List.take ((o6 (Hd.mk v iu is l t ty c) s).toNat + ((o7 (Hd.mk v iu is l t ty c) s).toNat - (o6 (Hd.mk v iu is l t ty c) s).toNat) - (o6 (Hd.mk v iu is l t ty c) s).toNat) (List.drop (o6 (Hd.mk v iu is l t ty c) s).toNat (takeU (Cu.mk d (0:Int) (0:Int) (0:Int)) (IntKind.wrap .i64 (sumU (Hd.mk v iu is l t ty c) s))))).length:Int)≤big'∧indOk (List.take ((o6 (Hd.mk v iu is l t ty c) s).toNat + ((o7 (Hd.mk v iu is l t ty c) s).toNat - (o6 (Hd.mk v iu is l t ty c) s).toNat) - (o6 (Hd.mk v iu is l t ty c) s).toNat) (List.drop (o6 (Hd.mk v iu is l t ty c) s).toNat (takeU (Cu.mk d (0:Int) (0:Int) (0:Int)) (IntKind.wrap .i64 (sumU (Hd.mk v iu is l t ty c) s))))) = true∧True∧((0:Int)≤0∧(0:Int)≤o1 (Hd.mk v iu is l t ty c) s∧o1 (Hd.mk v iu is l t ty c) s≤o1 (Hd.mk v iu is l t ty c) s∧o1 (Hd.mk v iu is l t ty c) s≤(↑(takeU (Cu.mk d (0:Int) (0:Int) (0:Int)) (IntKind.wrap .i64 (sumU (Hd.mk v iu is l t ty c) s))).length:Int)∧(sz48 s∧(↑(List.take ((0:Nat) + ((o1 (Hd.mk v iu is l t ty c) s).toNat - (0:Int).toNat) - 0) (List.drop (0:Nat) (takeU (Cu.mk d (0:Int) (0:Int) (0:Int)) (IntKind.wrap .i64 (sumU (Hd.mk
 v iu is l t ty c) s))))).length:Int)≤big'∧True∧((0:Int)≤o1 (Hd.mk v iu is l t ty c) s∧o1 (Hd.mk v iu is l t ty c) s≤o2 (Hd.mk v iu is l t ty c) s∧o2 (Hd.mk v iu is l t ty c) s≤o2 (Hd.mk v iu is l t ty c) s∧o2 (Hd.mk v iu is l t ty c) s≤(↑(takeU (Cu.mk d (0:Int) (0:Int) (0:Int)) (IntKind.wrap .i64 (sumU (Hd.mk v iu is l t ty c) s))).length:Int)∧((0:Int)≤o3 (Hd.mk v iu is l t ty c) s∧o3 (Hd.mk v iu is l t ty c) s≤o4 (Hd.mk v iu is l t ty c) s∧o4 (Hd.mk v iu is l t ty c) s≤o4 (Hd.mk v iu is l t ty c) s∧o4 (Hd.mk v iu is l t ty c) s≤(↑(takeU (Cu.mk d (0:Int) (0:Int) (0:Int)) (IntKind.wrap .i64 (sumU (Hd.mk v iu is l t ty c) s))).length:Int)∧((0:Int)≤o4 (Hd.mk v iu is l t ty c) s∧o4 (Hd.mk v iu is l t ty c) s≤o5 (Hd.mk v iu is l t ty c) s∧o5 (Hd.mk v iu is l t ty c) s≤o5 (Hd.mk v iu is l t ty c) s∧o5 (Hd.mk v iu is l t ty c) s≤(↑(takeU (Cu.mk d (0:Int) (0:Int) (0:Int)) (IntKind.wrap .i64 (sumU (Hd.mk v iu is l t ty c) s))).length:Int)∧(sz48 s∧(↑(List.take ((o4 (Hd.mk v iu is l t ty c) s).toNat + ((o5 (Hd.mk v iu is l t ty c) s).toNat - (o4 (Hd.mk v iu is l t ty c) s).toNat) - (o4 (Hd.mk v iu is l t ty
 c) s).toNat) (List.drop (o4 (Hd.mk v iu is l t ty c) s).toNat (takeU (Cu.mk d (0:Int) (0:Int) (0:Int)) (IntKind.wrap .i64 (sumU (Hd.mk v iu is l t ty c) s))))).length:Int)≤big'∧(∀ (x:List IV),x ∈ List.map cellsL (decL (List.take ((o4 (Hd.mk v iu is l t ty c) s).toNat + ((o5 (Hd.mk v iu is l t ty c) s).toNat - (o4 (Hd.mk v iu is l t ty c) s).toNat) - (o4 (Hd.mk v iu is l t ty c) s).toNat) (List.drop (o4 (Hd.mk v iu is l t ty c) s).toNat (takeU (Cu.mk d (0:Int) (0:Int) (0:Int)) (IntKind.wrap .i64 (sumU (Hd.mk v iu is l t ty c) s))))) s.toNat ((List.take ((o4 (Hd.mk v iu is l t ty c) s).toNat + ((o5 (Hd.mk v iu is l t ty c) s).toNat - (o4 (Hd.mk v iu is l t ty c) s).toNat) - (o4 (Hd.mk v iu is l t ty c) s).toNat) (List.drop (o4 (Hd.mk v iu is l t ty c) s).toNat (takeU (Cu.mk d (0:Int) (0:Int) (0:Int)) (IntKind.wrap .i64 (sumU (Hd.mk v iu is l t ty c) s))))).length / (s.toNat + 4)))→∀ (c:IV),c ∈ x→scalarCell (.imm c) = true)∧(A3∧A2)∧A6)∧A8)∧A42)∧A76)∧A110)∧A112)∧(0:Int)≤0∧(0:Int)≤o1 (Hd.mk v iu is l t ty c) s∧o1 (Hd.mk v iu is l t ty c) s≤o1 (Hd.mk v iu is l t ty c) s∧o1 (Hd.mk v iu is l t ty c) s≤(↑(takeU (Cu.mk d (0
 : Int) (0:Int) (0:Int)) (IntKind.wrap .i64 (sumU (Hd.mk v iu is l t ty c) s))).length:Int)∧A112)); let A222:Prop:=((okU (Cu.mk d (0:Int) (0:Int) (0:Int))∧A220)); A222∧A222∧okU (Cu.mk d (0:Int) (0:Int) (0:Int))∧A220):=by kernel_rfl
end Z19
set_option maxRecDepth 100000
namespace Z19
open Go Go.AE Go.Proofs D6
attribute [local irreducible] loopK evCode evSpec loopB norm evFunc
theorem pt_cut {d:List UInt8} {n x y:Int} (hx:0≤x) (hy:x≤y) (hn:y≤n):pc (d.take n.toNat) x y = pt d x (y - x):=by
 unfold pc
 have:x.toNat + (y.toNat - x.toNat) - x.toNat = y.toNat - x.toNat:=by omega
 rw [this]
 exact cut_pt d hx hy hn
structure Fit (d:List UInt8) (h:Hd) (s:Int):Prop where
 hu:okU ⟨d,0,0,0⟩
 hh:okH h
 hs:sz48 s
 le:sumU h s≤(d.length:Int)
 big:sumU h s≤1000000000000
 nn:0≤sumU h s
 D:dD d h s = d.take (sumU h s).toNat
 len:((dD d h s).length:Int) = sumU h s
 g1:0≤o1 h s
 k1:o1 h s≤o2 h s
 k2:o2 h s≤o3 h s
 k3:o3 h s≤o4 h s
 k4:o4 h s≤o5 h s
 k5:o5 h s≤o6 h s
 k6:o6 h s≤o7 h s
 k7:o7 h s = sumU h s
 p0:pc (dD d h s) 0 (o1 h s) = b0 d h s
 p1:pc (dD d h s) (o1 h s) (o2 h s) = b1 d h s
 p2:pc (dD d h s) (o2 h s) (o3 h s) = b2 d h s
 p3:pc (dD d h s) (o3 h s) (o4 h s) = b3 d h s
 p4:pc (dD d h s) (o4 h s) (o5 h s) = b4 d h s
 p5:pc (dD d h s) (o5 h s) (o6 h s) = b5 d h s
 p6:pc (dD d h s) (o6 h s) (o7 h s) = b6 d h s
theorem fit {d:List UInt8} {h:Hd} {s:Int} (hu:okU ⟨d,0,0,0⟩) (hh:okH h) (hs:sz48 s) (hf:fitsD ⟨d,0,0,0⟩ h s = true):Fit d h s:=by
 obtain ⟨q0,q1,q2,q3,q4,q5,q6,q7⟩:=sum_pos hh hs
 have hsum:sumU h s = l0 h s + l1 h + l2 h + l3 h + l4 h s + l5 h + l6 h:=rfl
 have e1:o1 h s = l0 h s:=rfl
 have e2:o2 h s = o1 h s + l1 h:=rfl
 have e3:o3 h s = o2 h s + l2 h:=rfl
 have e4:o4 h s = o3 h s + l3 h:=rfl
 have e5:o5 h s = o4 h s + l4 h s:=rfl
 have e6:o6 h s = o5 h s + l5 h:=rfl
 have e7:o7 h s = o6 h s + l6 h:=rfl
 have hle:sumU h s≤(d.length:Int):=by
  unfold fitsD restU at hf
  simpa using hf
 have hn:0≤sumU h s:=by omega
 have hw:IntKind.wrap .i64 (sumU h s) = sumU h s:=wrap64 (by omega) (by omega)
 have hD:dD d h s = d.take (sumU h s).toNat:=by
  unfold dD takeU advOk restU
  rw [hw,if_pos (decide_eq_true ⟨rfl,by omega,by simpa using hle⟩)]
  rfl
 have cut:∀ {x y n:Int},0≤x→0≤n→x + n = y→y≤sumU h s→pc (dD d h s) x y = pt d x n:=fun {x y n} hx hn0 hxy hy=>by
  rw [hD,pt_cut hx (by omega) hy,show y - x = n by omega]
 exact ⟨hu,hh,hs,hle,q7,hn,hD,by rw [hD,List.length_take]; omega,by omega,by omega,by omega,by omega,by omega,by omega,by omega,by omega,
  cut (by omega) q0 (by omega) (by omega),cut (by omega) q1 (by omega) (by omega),cut (by omega) q2 (by omega) (by omega),cut (by omega) q3 (by omega) (by omega),cut (by omega) q4 (by omega) (by omega),cut (by omega) q5 (by omega) (by omega),cut (by omega) q6 (by omega) (by omega)⟩
theorem told_T (L:List Ty):∀ x:List IV,x ∈ L.map cellsT→∀ c,c ∈ x→scalarCell (.imm c) = true:=by
 intro x hx c hc
 obtain ⟨t,_,rfl⟩:=List.mem_map.1 hx
 unfold cellsT at hc
 simp only [List.mem_cons,List.not_mem_nil,or_false] at hc
 rcases hc with rfl | rfl | rfl <;> rfl
theorem told_L (L:List Lp):∀ x:List IV,x ∈ L.map cellsL→∀ c,c ∈ x→scalarCell (.imm c) = true:=by
 intro x hx c hc
 obtain ⟨t,_,rfl⟩:=List.mem_map.1 hx
 unfold cellsL at hc
 simp only [List.mem_cons,List.not_mem_nil,or_false] at hc
 rcases hc with rfl | rfl <;> rfl
theorem spec_re {P:Program} {G:Nat→Option (List AV)} {f:FuncId} {args:List AV} {pres pres':List Prop} {res res':List AV} (h:SpecOK P G f args pres res) (hp:(∀ p,p ∈ pres'→p)→(∀ p,p ∈ pres→p)∧res = res'):SpecOK P G f args pres' res' :=
 ⟨h.fn,fun hp' w own vals h1 h2 h3 h4=>by
  obtain ⟨q1,rfl⟩:=hp hp'
  exact h.calls q1 w own vals h1 h2 h3 h4⟩
theorem sp_of {P:Program} {G:Nat→Option (List AV)} {E:FuncId→List AV→Option (List Prop×List AV)} (hE:EOK P E G) {f:FuncId} {args:List AV} {pres:List Prop} {res:List AV} (h:E f args = some (pres,res)):SpecOK P G f args pres res:=hE f args pres res h
theorem ok25t:∀ args pres res,sTotalT args = some (pres,res)→SpecOK Tryd.prog G16 25 args pres res:=by
 intro args pres res h
 unfold sTotalT at h
 split at h
 case h_2=>cases h
 cases h
 rename_i v iu is l t ty c s m
 refine spec_re (sp_of okF3 (show F3 25 _ = some ([okH ⟨v,iu,is,l,t,ty,c⟩,sz48 s,0≤m,m≤18446744073709551615],[u6 (if sumU ⟨v,iu,is,l,t,ty,c⟩ s≤m then sumU ⟨v,iu,is,l,t,ty,c⟩ s else 0),bo (decide (sumU ⟨v,iu,is,l,t,ty,c⟩ s≤m))]) from rfl)) (fun hp=>?_)
 have h5:sumU ⟨v,iu,is,l,t,ty,c⟩ s≤m:=hp _ (by simp)
 refine ⟨fun p hpp=>hp p ?_,by rw [if_pos h5,decide_eq_true h5]⟩
 simp only [List.mem_cons,List.not_mem_nil,or_false] at hpp ⊢
 rcases hpp with h | h | h | h <;> simp [h]
theorem ok31t:∀ args pres res,sDecT args = some (pres,res)→SpecOK Tryd.prog G16 31 args pres res:=by
 intro args pres res h
 unfold sDecT at h
 split at h
 case h_2=>cases h
 cases h
 rename_i b
 refine spec_re (sp_of okF3 (show F3 31 _ = some ([(b.length:Int)≤1000000000000],[.new (slT (dec b)),bo (decOk b)]) from rfl)) (fun hp=>?_)
 have h5:decOk b = true:=hp _ (by simp)
 exact ⟨fun p hpp=>hp p (by simp only [List.mem_cons,List.not_mem_nil,or_false] at hpp ⊢; exact .inl hpp),by rw [h5]⟩
theorem ok32t:∀ args pres res,sDecOT args = some (pres,res)→SpecOK Tryd.prog G16 32 args pres res:=by
 intro args pres res h
 unfold sDecOT at h
 split at h
 case h_2=>cases h
 cases h
 rename_i b
 refine spec_re (sp_of okF3 (show F3 32 _ = some ([(b.length:Int)≤big'],[.new (.bools (decO b)),bo (indOk b)]) from rfl)) (fun hp=>?_)
 have h5:indOk b = true:=hp _ (by simp)
 exact ⟨fun p hpp=>hp p (by simp only [List.mem_cons,List.not_mem_nil,or_false] at hpp ⊢; exact .inl hpp),by rw [h5]⟩
theorem okF7s:EOK Tryd.prog F7s G16:=addE_ok (addE_ok (addE_ok okF3 ok25t) ok31t) ok32t
theorem I30_ok:∀ f fn,I30 f = some fn→Tryd.prog.funcs[f]? = some fn∧(fn.name == "runtime.NumGoroutine") = false:=by
 intro f fn h
 unfold I30 at h
 cases h1:Nat.beq f 30 with
 | true=>rw [h1,cond_true] at h; cases h; obtain rfl:=nbeq h1; exact ⟨Tryd.func30,by kernel_rfl⟩
 | false=>rw [h1,cond_false] at h; cases h
theorem ok12v (d:List UInt8) (v iu is l t ty c s:Int):SpecV Tryd.prog G16 12 [curAV d 0 0 0,hdAV v iu is l t ty c,i64 s,i64 0] [okU ⟨d,0,0,0⟩,okH ⟨v,iu,is,l,t,ty,c⟩,sz48 s,fitsD ⟨d,0,0,0⟩ ⟨v,iu,is,l,t,ty,c⟩ s = true,okD d ⟨v,iu,is,l,t,ty,c⟩ s = true]
  (rs12 d ⟨v,iu,is,l,t,ty,c⟩ s) (os12 d ⟨v,iu,is,l,t,ty,c⟩ s):=by
 refine spec_okV (C:=V12s) (p:=⟨[],[true,true],[10,11,7,12,8,9]⟩) okF7s (inl_ok okF7s I30_ok 2) Tryd.func12 (by kernel_rfl) (by kernel_rfl) (fun ob hob=>?_) (fun hp=>?_)
 ·unfold os12 at hob
  simp only [List.mem_cons,List.not_mem_nil,or_false] at hob
  rcases hob with rfl | rfl | rfl | rfl | rfl | rfl <;> rfl
 have hu:okU ⟨d,0,0,0⟩:=hp _ (by simp)
 have hh:okH ⟨v,iu,is,l,t,ty,c⟩:=hp (okH ⟨v,iu,is,l,t,ty,c⟩) (by simp)
 have hs:sz48 s:=hp (sz48 s) (by simp)
 have hf:fitsD ⟨d,0,0,0⟩ ⟨v,iu,is,l,t,ty,c⟩ s = true:=hp (fitsD ⟨d,0,0,0⟩ ⟨v,iu,is,l,t,ty,c⟩ s = true) (by simp)
 have hk:okD d ⟨v,iu,is,l,t,ty,c⟩ s = true:=hp (okD d ⟨v,iu,is,l,t,ty,c⟩ s = true) (by simp)
 have F:=fit hu hh hs hf
 have hbig:big' = 1000000000000:=rfl
 have hd:=hu.2.2
 unfold okD at hk
 simp only [Bool.and_eq_true] at hk
 obtain ⟨⟨t2,t5⟩,t6⟩:=hk
 refine Eq.mpr (s12_in d v iu is l t ty c s _) ?_
 intro A2 A3 A6 A8 A42 A76 A110 A112 A220 A222
 have hr:restU ⟨d,0,0,0⟩ = (d.length:Int):=by unfold restU; rw [if_pos rfl]; show (d.length:Int) - 0 = _; omega
 have hw:IntKind.wrap .u64 (restU ⟨d,0,0,0⟩) = (d.length:Int):=by rw [hr]; exact wrapU (by omega) (by simp only at hd; omega)
 have F1:=F.le
 have F2:=F.big
 have F3:=F.len
 have F4:=F.g1
 have F5:=F.k1
 have F6:=F.k2
 have F7:=F.k3
 have F8:=F.k4
 have F9:=F.k5
 have F10:=F.k6
 have F11:=F.k7
 have plen:∀ x y:Int,(pc (dD d ⟨v,iu,is,l,t,ty,c⟩ s) x y).length≤(dD d ⟨v,iu,is,l,t,ty,c⟩ s).length:=fun x y=>by
  unfold pc
  rw [List.length_take,List.length_drop]
  omega
 have pl:∀ x y:Int,((pc (dD d ⟨v,iu,is,l,t,ty,c⟩ s) x y).length:Int)≤1000000000000:=fun x y=>by have:=plen x y; omega
 have j1:o1 ⟨v,iu,is,l,t,ty,c⟩ s≤((dD d ⟨v,iu,is,l,t,ty,c⟩ s).length:Int):=by omega
 have j2:o2 ⟨v,iu,is,l,t,ty,c⟩ s≤((dD d ⟨v,iu,is,l,t,ty,c⟩ s).length:Int):=by omega
 have j3:o3 ⟨v,iu,is,l,t,ty,c⟩ s≤((dD d ⟨v,iu,is,l,t,ty,c⟩ s).length:Int):=by omega
 have j4:o4 ⟨v,iu,is,l,t,ty,c⟩ s≤((dD d ⟨v,iu,is,l,t,ty,c⟩ s).length:Int):=by omega
 have j5:o5 ⟨v,iu,is,l,t,ty,c⟩ s≤((dD d ⟨v,iu,is,l,t,ty,c⟩ s).length:Int):=by omega
 have j6:o6 ⟨v,iu,is,l,t,ty,c⟩ s≤((dD d ⟨v,iu,is,l,t,ty,c⟩ s).length:Int):=by omega
 have j7:o7 ⟨v,iu,is,l,t,ty,c⟩ s≤((dD d ⟨v,iu,is,l,t,ty,c⟩ s).length:Int):=by omega
 have z0:(0:Int)≤0:=Int.le_refl 0
 have le:∀ x:Int,x≤x:=Int.le_refl
 have a2:A2:=by
  show norm _ _ = some _
  kernel_rfl
 have a3:A3:=a2
 have a6:A6:=a3
 have n4:=pl (o4 ⟨v,iu,is,l,t,ty,c⟩ s) (o5 ⟨v,iu,is,l,t,ty,c⟩ s)
 have a8:A8:=⟨hs,n4,told_L _,a6⟩
 have a42:A42:=⟨by omega,F8,le _,j5,a8⟩
 have a76:A76:=⟨by omega,F7,le _,j4,a42⟩
 have a110:A110:=⟨F4,F5,le _,j2,a76⟩
 have n0:=pl 0 (o1 ⟨v,iu,is,l,t,ty,c⟩ s)
 have a112:A112:=⟨hs,n0,trivial,a110⟩
 have q2:decOk (pc (dD d ⟨v,iu,is,l,t,ty,c⟩ s) (o2 ⟨v,iu,is,l,t,ty,c⟩ s) (o3 ⟨v,iu,is,l,t,ty,c⟩ s)) = true:=by rw [F.p2]; exact t2
 have q5:indOk (pc (dD d ⟨v,iu,is,l,t,ty,c⟩ s) (o5 ⟨v,iu,is,l,t,ty,c⟩ s) (o6 ⟨v,iu,is,l,t,ty,c⟩ s)) = true:=by rw [F.p5]; exact t5
 have q6:indOk (pc (dD d ⟨v,iu,is,l,t,ty,c⟩ s) (o6 ⟨v,iu,is,l,t,ty,c⟩ s) (o7 ⟨v,iu,is,l,t,ty,c⟩ s)) = true:=by rw [F.p6]; exact t6
 have n2:=pl (o2 ⟨v,iu,is,l,t,ty,c⟩ s) (o3 ⟨v,iu,is,l,t,ty,c⟩ s)
 have n5:=pl (o5 ⟨v,iu,is,l,t,ty,c⟩ s) (o6 ⟨v,iu,is,l,t,ty,c⟩ s)
 have n6:=pl (o6 ⟨v,iu,is,l,t,ty,c⟩ s) (o7 ⟨v,iu,is,l,t,ty,c⟩ s)
 have a220:A220:=by
  refine ⟨hh,hs,by rw [hw]; omega,by rw [hw]; simp only at hd; omega,by rw [hw]; exact F1,hu,hh,hs,by omega,F6,le _,j3,n2,q2,told_T _,by omega,F9,le _,j6,n5,q5,trivial,by omega,F10,le _,j7,n6,q6,trivial,⟨z0,F4,le _,j1,⟨hs,n0,trivial,⟨F4,F5,le _,j2,⟨by omega,F7,le _,j4,⟨by omega,F8,le _,j5,⟨hs,n4,told_L _,⟨a3,a2⟩,a6⟩,a8⟩,a42⟩,a76⟩,a110⟩,a112⟩,z0,F4,le _,j1,a112⟩
 have a222:A222:=⟨hu,a220⟩
 exact ⟨a222,a222,hu,a220⟩
end Z19
set_option maxRecDepth 100000
namespace Z19
open Go Go.AE Go.Proofs D6
attribute [local irreducible] loopK evCode evSpec loopB norm
theorem s7_in (d:List UInt8) (v:Int) (iu:Int) (is:Int) (l:Int) (t:Int) (ty:Int) (c:Int) (w:Bool) (K:List AV→Prop):evSpec V7s Tryd.f7 [.imm (.bytes d),hdAV v iu is l t ty c,.imm (.bool w)] K = (let Q1:List UInt8:=(encB (decI (pc (dD (List.map u8 [] ++ d) (Hd.mk v iu is l t ty c) (if w = true then (8:Int) else (4:Int))) (0:Int) (o1 (Hd.mk v iu is l t ty c) (if w = true then (8:Int) else (4:Int)))) (if w = true then (8:Int) else (4:Int)).toNat ((pc (dD (List.map u8 [] ++ d) (Hd.mk v iu is l t ty c) (if w = true then (8:Int) else (4:Int))) (0:Int) (o1 (Hd.mk v iu is l t ty c) (if w = true then (8:Int) else (4:Int)))).length / (if w = true then (8:Int) else (4:Int)).toNat)) (List.take ((o1 (Hd.mk v iu is l t ty c) (if w = true then (8:Int) else (4:Int))).toNat + ((o2 (Hd.mk v iu is l t ty c) (if w = true then (8:Int) else (4:Int))).toNat - (o1 (Hd.mk v iu is l t ty c) (if w = true then (8:Int) else (4:Int))).toNat) - (o1 (Hd.mk v iu is l t ty c) (if w = true then (8:Int) else (4:Int))).toNat) (List.drop (o1 (Hd.mk v iu is l t ty c) (if w = true then (8:Int) else (4:Int))).toNat (dD (List.map u8 [] ++ d) (Hd.mk
 v iu is l t ty c) (if w = true then (8:Int) else (4:Int))))) (tys (List.map cellsT (dec (pc (dD (List.map u8 [] ++ d) (Hd.mk v iu is l t ty c) (if w = true then (8:Int) else (4:Int))) (o2 (Hd.mk v iu is l t ty c) (if w = true then (8:Int) else (4:Int))) (o3 (Hd.mk v iu is l t ty c) (if w = true then (8:Int) else (4:Int))))))) (List.take ((o3 (Hd.mk v iu is l t ty c) (if w = true then (8:Int) else (4:Int))).toNat + ((o4 (Hd.mk v iu is l t ty c) (if w = true then (8:Int) else (4:Int))).toNat - (o3 (Hd.mk v iu is l t ty c) (if w = true then (8:Int) else (4:Int))).toNat) - (o3 (Hd.mk v iu is l t ty c) (if w = true then (8:Int) else (4:Int))).toNat) (List.drop (o3 (Hd.mk v iu is l t ty c) (if w = true then (8:Int) else (4:Int))).toNat (dD (List.map u8 [] ++ d) (Hd.mk v iu is l t ty c) (if w = true then (8:Int) else (4:Int))))) (lps (List.map cellsL (decL (pc (dD (List.map u8 [] ++ d) (Hd.mk v iu is l t ty c) (if w = true then (8:Int) else (4:Int))) (o4 (Hd.mk v iu is l t ty c) (if w = true then (8:Int) else (4:Int))) (o5 (Hd.mk v iu is l t ty c) (if w = true then (8:Int) else (4:Int)))) (if w = true then (8:Int) else (4:Int)).toNat
 ((pc (dD (List.map u8 [] ++ d) (Hd.mk v iu is l t ty c) (if w = true then (8:Int) else (4:Int))) (o4 (Hd.mk v iu is l t ty c) (if w = true then (8:Int) else (4:Int))) (o5 (Hd.mk v iu is l t ty c) (if w = true then (8:Int) else (4:Int)))).length / ((if w = true then (8:Int) else (4:Int)).toNat + 4))))) (decO (pc (dD (List.map u8 [] ++ d) (Hd.mk v iu is l t ty c) (if w = true then (8:Int) else (4:Int))) (o5 (Hd.mk v iu is l t ty c) (if w = true then (8:Int) else (4:Int))) (o6 (Hd.mk v iu is l t ty c) (if w = true then (8:Int) else (4:Int))))) (decO (pc (dD (List.map u8 [] ++ d) (Hd.mk v iu is l t ty c) (if w = true then (8:Int) else (4:Int))) (o6 (Hd.mk v iu is l t ty c) (if w = true then (8:Int) else (4:Int))) (o7 (Hd.mk v iu is l t ty c) (if w = true then (8:Int) else (4:Int))))) (if w = true then (8:Int) else (4:Int)).toNat); let A3:Prop:=((Z19.okE (decI (pc (dD (List.map u8 [] ++ d) (Hd.mk v iu is l t ty c) (if w = true then (8:Int) else (4:Int))) (0:Int) (o1 (Hd.mk v iu is l t ty c) (if w = true then (8:Int) else (4:Int)))) (if w = true then (8:Int) else (4:Int)).toNat ((pc (dD (List.map u8 [] ++ d) (Hd.mk v iu is l t
 ty c) (if w = true then (8:Int) else (4:Int))) (0:Int) (o1 (Hd.mk v iu is l t ty c) (if w = true then (8:Int) else (4:Int)))).length / (if w = true then (8:Int) else (4:Int)).toNat)) (List.take ((o1 (Hd.mk v iu is l t ty c) (if w = true then (8:Int) else (4:Int))).toNat + ((o2 (Hd.mk v iu is l t ty c) (if w = true then (8:Int) else (4:Int))).toNat - (o1 (Hd.mk v iu is l t ty c) (if w = true then (8:Int) else (4:Int))).toNat) - (o1 (Hd.mk v iu is l t ty c) (if w = true then (8:Int) else (4:Int))).toNat) (List.drop (o1 (Hd.mk v iu is l t ty c) (if w = true then (8:Int) else (4:Int))).toNat (dD (List.map u8 [] ++ d) (Hd.mk v iu is l t ty c) (if w = true then (8:Int) else (4:Int))))) (List.map cellsT (dec (pc (dD (List.map u8 [] ++ d) (Hd.mk v iu is l t ty c) (if w = true then (8:Int) else (4:Int))) (o2 (Hd.mk v iu is l t ty c) (if w = true then (8:Int) else (4:Int))) (o3 (Hd.mk v iu is l t ty c) (if w = true then (8:Int) else (4:Int)))))) (List.take ((o3 (Hd.mk v iu is l t ty c) (if w = true then (8:Int) else (4:Int))).toNat + ((o4 (Hd.mk v iu is l t ty c) (if w = true then (8:Int) else (4:Int))).toNat - (o3 (Hd.mk v iu is l t
 ty c) (if w = true then (8:Int) else (4:Int))).toNat) - (o3 (Hd.mk v iu is l t ty c) (if w = true then (8:Int) else (4:Int))).toNat) (List.drop (o3 (Hd.mk v iu is l t ty c) (if w = true then (8:Int) else (4:Int))).toNat (dD (List.map u8 [] ++ d) (Hd.mk v iu is l t ty c) (if w = true then (8:Int) else (4:Int))))) (List.map cellsL (decL (pc (dD (List.map u8 [] ++ d) (Hd.mk v iu is l t ty c) (if w = true then (8:Int) else (4:Int))) (o4 (Hd.mk v iu is l t ty c) (if w = true then (8:Int) else (4:Int))) (o5 (Hd.mk v iu is l t ty c) (if w = true then (8:Int) else (4:Int)))) (if w = true then (8:Int) else (4:Int)).toNat ((pc (dD (List.map u8 [] ++ d) (Hd.mk v iu is l t ty c) (if w = true then (8:Int) else (4:Int))) (o4 (Hd.mk v iu is l t ty c) (if w = true then (8:Int) else (4:Int))) (o5 (Hd.mk v iu is l t ty c) (if w = true then (8:Int) else (4:Int)))).length / ((if w = true then (8:Int) else (4:Int)).toNat + 4)))) (decO (pc (dD (List.map u8 [] ++ d) (Hd.mk v iu is l t ty c) (if w = true then (8:Int) else (4:Int))) (o5 (Hd.mk v iu is l t ty c) (if w = true then (8:Int) else (4:Int))) (o6 (Hd.mk v iu is l t ty c) (if w = true then (8 :
 Int) else (4:Int))))) (decO (pc (dD (List.map u8 [] ++ d) (Hd.mk v iu is l t ty c) (if w = true then (8:Int) else (4:Int))) (o6 (Hd.mk v iu is l t ty c) (if w = true then (8:Int) else (4:Int))) (o7 (Hd.mk v iu is l t ty c) (if w = true then (8:Int) else (4:Int)))))∧sz48 (if w = true then (8:Int) else (4:Int))∧True∧LoopI V7s (bodyOf Tryd.f7) (0:Nat) (St.mk (lapp [.imm (.bytes d),.agg [.imm (.int .i64 v),.imm (.int IntKind.u32 iu),.imm (.int IntKind.u32 is),.imm (.int IntKind.u32 l),.imm (.int IntKind.u32 t),.imm (.int IntKind.u32 ty),.imm (.int IntKind.u32 c)],.imm (.bool w),.dead,.ptr 0 0,.dead,.imm (.bool false),.imm (.int .i64 (if w = true then (8:Int) else (4:Int))),AV.row (1:Nat) (0:Nat),.ptr 2 0,.ptr 3 0,AV.row (4:Nat) (0:Nat),.imm (.int .i64 0)] (dN 91)) [(0,Ob.mk true 0 (AObj.cells [.imm (.int .i64 v),.imm (.int IntKind.u32 iu),.imm (.int IntKind.u32 is),.imm (.int IntKind.u32 l),.imm (.int IntKind.u32 t),.imm (.int IntKind.u32 ty),.imm (.int IntKind.u32 c)])),(1,Ob.mk false 0 (AObj.row (IV.bytes (List.map u8 [] ++ d)))),(2,Ob.mk true 0 (AObj.cells [AV.row (5:Nat) (0:Nat),AV.vw (6:Nat) (0:Nat) (o1
 (Hd.mk v iu is l t ty c) (if w = true then (8:Int) else (4:Int))).toNat ((o2 (Hd.mk v iu is l t ty c) (if w = true then (8:Int) else (4:Int))).toNat - (o1 (Hd.mk v iu is l t ty c) (if w = true then (8:Int) else (4:Int))).toNat),AV.row (7:Nat) (0:Nat),AV.vw (6:Nat) (0:Nat) (o3 (Hd.mk v iu is l t ty c) (if w = true then (8:Int) else (4:Int))).toNat ((o4 (Hd.mk v iu is l t ty c) (if w = true then (8:Int) else (4:Int))).toNat - (o3 (Hd.mk v iu is l t ty c) (if w = true then (8:Int) else (4:Int))).toNat),AV.row (8:Nat) (0:Nat),AV.row (9:Nat) (0:Nat),AV.row (10:Nat) (0:Nat)])),(3,Ob.mk true 0 (AObj.cells [.imm (.bytes (Cu.d (advU (Cu.mk (List.map u8 [] ++ d) (0:Int) (0:Int) (0:Int)) (IntKind.wrap .i64 (sumU (Hd.mk v iu is l t ty c) (if w = true then (8:Int) else (4:Int))))))),.imm (.int .i64 (Cu.p (advU (Cu.mk (List.map u8 [] ++ d) (0:Int) (0:Int) (0:Int)) (IntKind.wrap .i64 (sumU (Hd.mk v iu is l t ty c) (if w = true then (8:Int) else (4:Int))))))),.imm (.int .i64 (Cu.e (advU (Cu.mk (List.map u8 [] ++ d) (0:Int) (0:Int) (0:Int)) (IntKind.wrap .i64 (sumU (Hd.mk v iu is l t ty c) (if w = true then (8:Int) else
 (4:Int))))))),.imm (.int .i64 (Cu.a (advU (Cu.mk (List.map u8 [] ++ d) (0:Int) (0:Int) (0:Int)) (IntKind.wrap .i64 (sumU (Hd.mk v iu is l t ty c) (if w = true then (8:Int) else (4:Int)))))))])),(4,Ob.mk true 0 (AObj.row (IV.bytes Q1))),(5,Ob.mk true 0 (AObj.row (IV.ints IntKind.i64 (decI (pc (dD (List.map u8 [] ++ d) (Hd.mk v iu is l t ty c) (if w = true then (8:Int) else (4:Int))) (0:Int) (o1 (Hd.mk v iu is l t ty c) (if w = true then (8:Int) else (4:Int)))) (if w = true then (8:Int) else (4:Int)).toNat ((pc (dD (List.map u8 [] ++ d) (Hd.mk v iu is l t ty c) (if w = true then (8:Int) else (4:Int))) (0:Int) (o1 (Hd.mk v iu is l t ty c) (if w = true then (8:Int) else (4:Int)))).length / (if w = true then (8:Int) else (4:Int)).toNat))))),(6,Ob.mk true 0 (AObj.row (IV.bytes (dD (List.map u8 [] ++ d) (Hd.mk v iu is l t ty c) (if w = true then (8:Int) else (4:Int)))))),(7,Ob.mk true 0 (AObj.row (IV.sl (3:Nat) (List.map cellsT (dec (pc (dD (List.map u8 [] ++ d) (Hd.mk v iu is l t ty c) (if w = true then (8:Int) else (4:Int))) (o2 (Hd.mk v iu is l t ty c) (if w = true then (8:Int) else (4:Int))) (o3 (Hd.mk v iu is l t ty c) (if
 w = true then (8:Int) else (4:Int))))))))),(8,Ob.mk true 0 (AObj.row (IV.sl (2:Nat) (List.map cellsL (decL (pc (dD (List.map u8 [] ++ d) (Hd.mk v iu is l t ty c) (if w = true then (8:Int) else (4:Int))) (o4 (Hd.mk v iu is l t ty c) (if w = true then (8:Int) else (4:Int))) (o5 (Hd.mk v iu is l t ty c) (if w = true then (8:Int) else (4:Int)))) (if w = true then (8:Int) else (4:Int)).toNat ((pc (dD (List.map u8 [] ++ d) (Hd.mk v iu is l t ty c) (if w = true then (8:Int) else (4:Int))) (o4 (Hd.mk v iu is l t ty c) (if w = true then (8:Int) else (4:Int))) (o5 (Hd.mk v iu is l t ty c) (if w = true then (8:Int) else (4:Int)))).length / ((if w = true then (8:Int) else (4:Int)).toNat + 4))))))),(9,Ob.mk true 0 (AObj.row (IV.bools (decO (pc (dD (List.map u8 [] ++ d) (Hd.mk v iu is l t ty c) (if w = true then (8:Int) else (4:Int))) (o5 (Hd.mk v iu is l t ty c) (if w = true then (8:Int) else (4:Int))) (o6 (Hd.mk v iu is l t ty c) (if w = true then (8:Int) else (4:Int)))))))),(10,Ob.mk true 0 (AObj.row (IV.bools (decO (pc (dD (List.map u8 [] ++ d) (Hd.mk v iu is l t ty c) (if w = true then (8:Int) else (4:Int))) (o6 (Hd.mk v iu is l t
 ty c) (if w = true then (8:Int) else (4:Int))) (o7 (Hd.mk v iu is l t ty c) (if w = true then (8:Int) else (4:Int))))))))] (11:Nat) []) (finK V7s Tryd.f7 K))); let A5:Prop:=((A3)); let A6:Prop:=((A5)); let A7:Prop:=((A6)); let A9:Prop:=((A3)); let A10:Prop:=((A9)); let A11:Prop:=((A10)); let A12:Prop:=((A7∧A11)); let A14:Prop:=((A6∧A5)); let A15:Prop:=((A7∧A14)); let A17:Prop:=((A10∧A9)); let A18:Prop:=((A11∧A17)); let A20:Prop:=((A6)); let A21:Prop:=((A7∧A20)); let A22:Prop:=((A10)); let A23:Prop:=((A11∧A22)); let A32:Prop:=((A3)); let A33:Prop:=((A32)); let A34:Prop:=((A33)); let A36:Prop:=((A33∧A32)); let A38:Prop:=((A33)); let A44:Prop:=((A3)); let A45:Prop:=((A44)); let A51:Prop:=((okU (Cu.mk (List.map u8 [] ++ d) (0:Int) (0:Int) (0:Int))∧okH (Hd.mk v iu is l t ty c)∧sz48 (if w = true then (8:Int) else (4:Int))∧fitsD (Cu.mk (List.map u8 [] ++ d) (0:Int) (0:Int) (0:Int)) (Hd.mk v iu is l t ty c) (if w = true then (8:Int) else (4:Int)) = true∧okD (List.map u8 [] ++ d) (Hd.mk v iu is l t ty c) (if w = true then (8:Int) else (4:Int))
 = true∧(A45∧A44)∧A45)); let A52:Prop:=(((okU (Cu.mk (List.map u8 [] ++ d) (0:Int) (0:Int) (0:Int))∧okH (Hd.mk v iu is l t ty c)∧sz48 (if w = true then (8:Int) else (4:Int))∧fitsD (Cu.mk (List.map u8 [] ++ d) (0:Int) (0:Int) (0:Int)) (Hd.mk v iu is l t ty c) (if w = true then (8:Int) else (4:Int)) = true∧okD (List.map u8 [] ++ d) (Hd.mk v iu is l t ty c) (if w = true then (8:Int) else (4:Int)) = true∧(A34∧A36)∧(A34∧A38)∧A36∧A38)∧A51)); let A54:Prop:=((A3)); let A55:Prop:=((A54)); let A56:Prop:=((A55)); let A58:Prop:=((A55∧A54)); let A60:Prop:=((A55)); let A66:Prop:=((A3)); let A67:Prop:=((A66)); let A73:Prop:=((okU (Cu.mk (List.map u8 [] ++ d) (0:Int) (0:Int) (0:Int))∧okH (Hd.mk v iu is l t ty c)∧sz48 (if w = true then (8:Int) else (4:Int))∧fitsD (Cu.mk (List.map u8 [] ++ d) (0:Int) (0:Int) (0:Int)) (Hd.mk v iu is l t ty c) (if w = true then (8:Int) else (4:Int)) = true∧okD (List.map u8 [] ++ d) (Hd.mk v iu is l t ty c) (if w = true then (8:Int) else (4:Int)) = true∧(A67∧A66)∧A67)); let A74:Prop:=(((okU (Cu.mk (List.map u8 [] ++ d) (0:Int) (0:Int) (0
 : Int))∧okH (Hd.mk v iu is l t ty c)∧sz48 (if w = true then (8:Int) else (4:Int))∧fitsD (Cu.mk (List.map u8 [] ++ d) (0:Int) (0:Int) (0:Int)) (Hd.mk v iu is l t ty c) (if w = true then (8:Int) else (4:Int)) = true∧okD (List.map u8 [] ++ d) (Hd.mk v iu is l t ty c) (if w = true then (8:Int) else (4:Int)) = true∧(A56∧A58)∧(A56∧A60)∧A58∧A60)∧A73)); let A75:Prop:=(((okU (Cu.mk (List.map u8 [] ++ d) (0:Int) (0:Int) (0:Int))∧okH (Hd.mk v iu is l t ty c)∧sz48 (if w = true then (8:Int) else (4:Int))∧fitsD (Cu.mk (List.map u8 [] ++ d) (0:Int) (0:Int) (0:Int)) (Hd.mk v iu is l t ty c) (if w = true then (8:Int) else (4:Int)) = true∧okD (List.map u8 [] ++ d) (Hd.mk v iu is l t ty c) (if w = true then (8:Int) else (4:Int)) = true∧(A12∧A15∧A18)∧(A12∧A21∧A23)∧(A15∧A21∧A14∧A20)∧A18∧A23∧A17∧A22)∧A52∧A74)); let A77:Prop:=((A51)); let A78:Prop:=((A52∧A77)); let A79:Prop:=((A73)); let A80:Prop:=((A74∧A79)); brn (!true || decide ((d.length:Int) > 1000)) (K [.imm (.bool true)]) (((List.map u8 []).length + d.length) * 1≤140737488355328∧(List.map u8 []).length + d.length ≤
 140737488355328∧A75∧(A75∧A78∧A80)∧(A52∧A78∧A51∧A77)∧A74∧A80∧A73∧A79)):=by kernel_rfl
theorem s7_lp (d:List UInt8) (v:Int) (iu:Int) (is:Int) (l:Int) (t:Int) (ty:Int) (c:Int) (s:Int) (O:List UInt8) (E:List UInt8) (T:List Int) (D:List UInt8) (X:List (List IV)) (L:List (List IV)) (S:List Bool) (U:List Bool) (a:Nat) (n:Nat) (a':Nat) (n':Nat) (i:Int) (k:AX→St→Prop):evCode V7s (loopB (bodyOf Tryd.f7) (0:Nat)) (k7a d v iu is l t ty c s O E T D X L S U a n a' n' i) k = (brn (decide (i < (E.length:Int))) ((0:Int)≤i∧i < (E.length:Int)∧(0:Int)≤i∧i < (E.length:Int)∧k AX.normal (St.mk [.imm (.bytes d),.dead,.dead,.dead,.ptr 0 0,.dead,.dead,.imm (.int .i64 s),AV.row (1:Nat) (0:Nat),.ptr 2 0,.dead,AV.row (3:Nat) (0:Nat),.imm (.int .i64 (IntKind.wrap .i64 (i + 1))),.dead,.dead,.dead,.dead,.dead,.dead,.dead,.dead,.dead,.dead,.dead,.dead,.dead,.dead,.dead,.dead,.dead,.dead,.dead,.dead,.dead,.dead,.dead,.dead,.dead,.dead,.dead,.dead,.dead,.dead,.dead,.dead,.imm (.int .i64 i),.imm (.int .i64 (IntKind.wrap .i64 (i + 1))),.dead,.dead,.dead,.dead,.dead,.dead,.dead,.dead,.dead,.dead,.dead,.dead,.dead,.dead,.dead,.dead,.dead,.dead,.dead,.dead,
 .dead,.dead,.dead,.dead,.dead,.dead,.dead,.dead,.dead,.dead,.dead,.dead,.dead,.dead,.dead,.dead,.dead,.dead,.dead,.dead,.dead,.dead,.dead,.dead,.dead,.dead,.dead,.dead,.dead,.dead,.dead,.dead,.dead,.dead,.dead,.dead,.dead] [(0,Ob.mk true 0 (AObj.cells [.imm (.int .i64 v),.imm (.int IntKind.u32 iu),.imm (.int IntKind.u32 is),.imm (.int IntKind.u32 l),.imm (.int IntKind.u32 t),.imm (.int IntKind.u32 ty),.imm (.int IntKind.u32 c)])),(1,Ob.mk false 0 (AObj.row (IV.bytes O))),(2,Ob.mk true 0 (AObj.cells [AV.row (4:Nat) (0:Nat),AV.vw (5:Nat) (0:Nat) a n,AV.row (6:Nat) (0:Nat),AV.vw (5:Nat) (0:Nat) a' n',AV.row (7:Nat) (0:Nat),AV.row (8:Nat) (0:Nat),AV.row (9:Nat) (0:Nat)])),(3,Ob.mk true 0 (AObj.row (IV.bytes (List.set E i.toNat (u8 (IntKind.wrap IntKind.u8 ((↑(UInt8.toNat (List.getD E i.toNat (0:UInt8))):Int) + 1))))))),(4,Ob.mk true 0 (AObj.row (IV.ints IntKind.i64 T))),(5,Ob.mk true 0 (AObj.row (IV.bytes D))),(6,Ob.mk true 0 (AObj.row (IV.sl (3:Nat) X))),(7,Ob.mk true 0 (AObj.row (IV.sl (2:Nat) L))),(8,Ob.mk true 0 (AObj.row (IV.bools S))),(9,Ob.mk true 0 (AObj.row (IV.bools U)))] (10
 : Nat) [])) (k (AX.exit (0:Nat)) (St.mk [.imm (.bytes d),.dead,.dead,.dead,.ptr 0 0,.dead,.dead,.imm (.int .i64 s),AV.row (1:Nat) (0:Nat),.ptr 2 0,.dead,AV.row (3:Nat) (0:Nat),.imm (.int .i64 i),.dead,.dead,.dead,.dead,.dead,.dead,.dead,.dead,.dead,.dead,.dead,.dead,.dead,.dead,.dead,.dead,.dead,.dead,.dead,.dead,.dead,.dead,.dead,.dead,.dead,.dead,.dead,.dead,.imm (.int .i64 i),AV.row (3:Nat) (0:Nat),.imm (.int .i64 (E.length:Int)),.imm (.bool (decide (i < (E.length:Int)))),.dead,.dead,.dead,.dead,.dead,.dead,.dead,.dead,.dead,.dead,.dead,.dead,.dead,.dead,.dead,.dead,.dead,.dead,.dead,.dead,.dead,.dead,.dead,.dead,.dead,.dead,.dead,.dead,.dead,.dead,.dead,.dead,.dead,.dead,.dead,.dead,.dead,.dead,.dead,.dead,.dead,.dead,.dead,.dead,.dead,.dead,.dead,.dead,.dead,.dead,.dead,.dead,.dead,.dead,.dead,.dead,.dead,.dead,.dead] [(0,Ob.mk true 0 (AObj.cells [.imm (.int .i64 v),.imm (.int IntKind.u32 iu),.imm (.int IntKind.u32 is),.imm (.int IntKind.u32 l),.imm (.int IntKind.u32 t),.imm (.int IntKind.u32 ty),.imm (.int IntKind.u32 c)])),(1,Ob.mk false 0
 (AObj.row (IV.bytes O))),(2,Ob.mk true 0 (AObj.cells [AV.row (4:Nat) (0:Nat),AV.vw (5:Nat) (0:Nat) a n,AV.row (6:Nat) (0:Nat),AV.vw (5:Nat) (0:Nat) a' n',AV.row (7:Nat) (0:Nat),AV.row (8:Nat) (0:Nat),AV.row (9:Nat) (0:Nat)])),(3,Ob.mk true 0 (AObj.row (IV.bytes E))),(4,Ob.mk true 0 (AObj.row (IV.ints IntKind.i64 T))),(5,Ob.mk true 0 (AObj.row (IV.bytes D))),(6,Ob.mk true 0 (AObj.row (IV.sl (3:Nat) X))),(7,Ob.mk true 0 (AObj.row (IV.sl (2:Nat) L))),(8,Ob.mk true 0 (AObj.row (IV.bools S))),(9,Ob.mk true 0 (AObj.row (IV.bools U)))] (10:Nat) []))):=by kernel_rfl
theorem s7_out (d:List UInt8) (v:Int) (iu:Int) (is:Int) (l:Int) (t:Int) (ty:Int) (c:Int) (s:Int) (O:List UInt8) (E:List UInt8) (T:List Int) (D:List UInt8) (X:List (List IV)) (L:List (List IV)) (S:List Bool) (U:List Bool) (a:Nat) (n:Nat) (a':Nat) (n':Nat) (i:Int) (K:List AV→Prop):loopK V7s (bodyOf Tryd.f7) (0:Nat) (finK V7s Tryd.f7 K) (AX.exit (0:Nat)) (x7a d v iu is l t ty c s O E T D X L S U a n a' n' i) = (let A3:Prop:=((okB T (List.take (a + n - a) (List.drop a D)) X (List.take (a' + n' - a') (List.drop a' D)) L S U∧okB (decI (pc (dD d (Hd.mk v iu is l t ty c) s) (0:Int) (o1 (Hd.mk v iu is l t ty c) s)) s.toNat ((pc (dD d (Hd.mk v iu is l t ty c) s) (0:Int) (o1 (Hd.mk v iu is l t ty c) s)).length / s.toNat)) (List.take ((o1 (Hd.mk v iu is l t ty c) s).toNat + ((o2 (Hd.mk v iu is l t ty c) s).toNat - (o1 (Hd.mk v iu is l t ty c) s).toNat) - (o1 (Hd.mk v iu is l t ty c) s).toNat) (List.drop (o1 (Hd.mk v iu is l t ty c) s).toNat (dD d (Hd.mk v iu is l t ty c) s))) (List.map cellsT (dec (pc (dD d (Hd.mk v iu is l t ty c) s) (o2 (Hd.mk v iu is l t ty c) s) (o3 (Hd.mk v iu is l t ty c) s)))) (List.take ((o3 (Hd.mk v iu is
 l t ty c) s).toNat + ((o4 (Hd.mk v iu is l t ty c) s).toNat - (o3 (Hd.mk v iu is l t ty c) s).toNat) - (o3 (Hd.mk v iu is l t ty c) s).toNat) (List.drop (o3 (Hd.mk v iu is l t ty c) s).toNat (dD d (Hd.mk v iu is l t ty c) s))) (List.map cellsL (decL (pc (dD d (Hd.mk v iu is l t ty c) s) (o4 (Hd.mk v iu is l t ty c) s) (o5 (Hd.mk v iu is l t ty c) s)) s.toNat ((pc (dD d (Hd.mk v iu is l t ty c) s) (o4 (Hd.mk v iu is l t ty c) s) (o5 (Hd.mk v iu is l t ty c) s)).length / (s.toNat + 4)))) (decO (pc (dD d (Hd.mk v iu is l t ty c) s) (o5 (Hd.mk v iu is l t ty c) s) (o6 (Hd.mk v iu is l t ty c) s))) (decO (pc (dD d (Hd.mk v iu is l t ty c) s) (o6 (Hd.mk v iu is l t ty c) s) (o7 (Hd.mk v iu is l t ty c) s)))∧brn (!sameK T (List.take (a + n - a) (List.drop a D)) X (List.take (a' + n' - a') (List.drop a' D)) L S U (decI (pc (dD d (Hd.mk v iu is l t ty c) s) (0:Int) (o1 (Hd.mk v iu is l t ty c) s)) s.toNat ((pc (dD d (Hd.mk v iu is l t ty c) s) (0:Int) (o1 (Hd.mk v iu is l t ty c) s)).length / s.toNat)) (List.take ((o1 (Hd.mk v iu is l t ty c) s).toNat + ((o2 (Hd.mk v iu is l t ty c) s).toNat - (o1 (Hd.mk v iu is l t ty c) s).toNat) - (o1 (Hd.mk v iu is l t ty c) s).toNat) (List.drop
 (o1 (Hd.mk v iu is l t ty c) s).toNat (dD d (Hd.mk v iu is l t ty c) s))) (List.map cellsT (dec (pc (dD d (Hd.mk v iu is l t ty c) s) (o2 (Hd.mk v iu is l t ty c) s) (o3 (Hd.mk v iu is l t ty c) s)))) (List.take ((o3 (Hd.mk v iu is l t ty c) s).toNat + ((o4 (Hd.mk v iu is l t ty c) s).toNat - (o3 (Hd.mk v iu is l t ty c) s).toNat) - (o3 (Hd.mk v iu is l t ty c) s).toNat) (List.drop (o3 (Hd.mk v iu is l t ty c) s).toNat (dD d (Hd.mk v iu is l t ty c) s))) (List.map cellsL (decL (pc (dD d (Hd.mk v iu is l t ty c) s) (o4 (Hd.mk v iu is l t ty c) s) (o5 (Hd.mk v iu is l t ty c) s)) s.toNat ((pc (dD d (Hd.mk v iu is l t ty c) s) (o4 (Hd.mk v iu is l t ty c) s) (o5 (Hd.mk v iu is l t ty c) s)).length / (s.toNat + 4)))) (decO (pc (dD d (Hd.mk v iu is l t ty c) s) (o5 (Hd.mk v iu is l t ty c) s) (o6 (Hd.mk v iu is l t ty c) s))) (decO (pc (dD d (Hd.mk v iu is l t ty c) s) (o6 (Hd.mk v iu is l t ty c) s) (o7 (Hd.mk v iu is l t ty c) s)))) (K [.imm (.bool false)]) (LoopI V7s (bodyOf Tryd.f7) (1:Nat) (St.mk [.imm (.bytes d),.dead,.dead,.dead,.ptr 0 0,.dead,.dead,.imm (.int .i64 s),AV.row (1:Nat) (0:Nat),.ptr 2 0,.dead,AV.row (3:Nat) (0:Nat),.imm (.int .i64 i),.ptr 4 0,
 .ptr 5 0,.imm (.int .i64 0),.dead,.dead,.dead,.dead,.dead,.dead,.dead,.dead,.dead,.dead,.dead,.dead,.dead,.dead,.dead,.dead,.dead,.dead,.dead,.dead,.dead,.dead,.dead,.dead,.dead,.dead,.dead,.dead,.dead,.dead,.dead,.dead,.dead,.dead,.dead,.dead,.dead,.dead,.dead,.dead,.dead,.dead,.dead,.dead,.dead,.dead,.dead,.dead,.dead,.dead,.dead,.dead,.dead,.dead,.dead,.dead,.dead,.dead,.dead,.dead,.dead,.dead,.dead,.dead,.dead,.dead,.dead,.dead,.dead,.dead,.dead,.dead,.dead,.dead,.dead,.dead,.dead,.dead,.dead,.dead,.dead,.dead,.dead,.dead,.dead,.dead,.dead,.dead] [(0,Ob.mk true 0 (AObj.cells [.imm (.int .i64 v),.imm (.int IntKind.u32 iu),.imm (.int IntKind.u32 is),.imm (.int IntKind.u32 l),.imm (.int IntKind.u32 t),.imm (.int IntKind.u32 ty),.imm (.int IntKind.u32 c)])),(1,Ob.mk false 0 (AObj.row (IV.bytes O))),(2,Ob.mk true 0 (AObj.cells [AV.row (6:Nat) (0:Nat),AV.vw (7:Nat) (0:Nat) a n,AV.row (8:Nat) (0:Nat),AV.vw (7:Nat) (0:Nat) a' n',AV.row (9:Nat) (0:Nat),AV.row (10:Nat) (0:Nat),AV.row (11:Nat) (0:Nat)])),(3,Ob.mk true 0 (AObj.row (IV.bytes E))),(4,Ob.mk
 true 0 (AObj.cells [AV.row (12:Nat) (0:Nat),AV.vw (13:Nat) (0:Nat) (o1 (Hd.mk v iu is l t ty c) s).toNat ((o2 (Hd.mk v iu is l t ty c) s).toNat - (o1 (Hd.mk v iu is l t ty c) s).toNat),AV.row (14:Nat) (0:Nat),AV.vw (13:Nat) (0:Nat) (o3 (Hd.mk v iu is l t ty c) s).toNat ((o4 (Hd.mk v iu is l t ty c) s).toNat - (o3 (Hd.mk v iu is l t ty c) s).toNat),AV.row (15:Nat) (0:Nat),AV.row (16:Nat) (0:Nat),AV.row (17:Nat) (0:Nat)])),(5,Ob.mk true 0 (AObj.cells [.imm (.bytes (Cu.d (advU (Cu.mk d (0:Int) (0:Int) (0:Int)) (IntKind.wrap .i64 (sumU (Hd.mk v iu is l t ty c) s))))),.imm (.int .i64 (Cu.p (advU (Cu.mk d (0:Int) (0:Int) (0:Int)) (IntKind.wrap .i64 (sumU (Hd.mk v iu is l t ty c) s))))),.imm (.int .i64 (Cu.e (advU (Cu.mk d (0:Int) (0:Int) (0:Int)) (IntKind.wrap .i64 (sumU (Hd.mk v iu is l t ty c) s))))),.imm (.int .i64 (Cu.a (advU (Cu.mk d (0:Int) (0:Int) (0:Int)) (IntKind.wrap .i64 (sumU (Hd.mk v iu is l t ty c) s)))))])),(6,Ob.mk true 0 (AObj.row (IV.ints IntKind.i64 T))),(7,Ob.mk true 0 (AObj.row (IV.bytes D))),(8,Ob.mk true 0 (AObj.row (IV.sl (3:Nat) X))),(9,Ob.mk true 0 (AObj.row (IV.sl (2:Nat) L))),(10,Ob.mk
 true 0 (AObj.row (IV.bools S))),(11,Ob.mk true 0 (AObj.row (IV.bools U))),(12,Ob.mk true 0 (AObj.row (IV.ints IntKind.i64 (decI (pc (dD d (Hd.mk v iu is l t ty c) s) (0:Int) (o1 (Hd.mk v iu is l t ty c) s)) s.toNat ((pc (dD d (Hd.mk v iu is l t ty c) s) (0:Int) (o1 (Hd.mk v iu is l t ty c) s)).length / s.toNat))))),(13,Ob.mk true 0 (AObj.row (IV.bytes (dD d (Hd.mk v iu is l t ty c) s)))),(14,Ob.mk true 0 (AObj.row (IV.sl (3:Nat) (List.map cellsT (dec (pc (dD d (Hd.mk v iu is l t ty c) s) (o2 (Hd.mk v iu is l t ty c) s) (o3 (Hd.mk v iu is l t ty c) s))))))),(15,Ob.mk true 0 (AObj.row (IV.sl (2:Nat) (List.map cellsL (decL (pc (dD d (Hd.mk v iu is l t ty c) s) (o4 (Hd.mk v iu is l t ty c) s) (o5 (Hd.mk v iu is l t ty c) s)) s.toNat ((pc (dD d (Hd.mk v iu is l t ty c) s) (o4 (Hd.mk v iu is l t ty c) s) (o5 (Hd.mk v iu is l t ty c) s)).length / (s.toNat + 4))))))),(16,Ob.mk true 0 (AObj.row (IV.bools (decO (pc (dD d (Hd.mk v iu is l t ty c) s) (o5 (Hd.mk v iu is l t ty c) s) (o6 (Hd.mk v iu is l t ty c) s)))))),(17,Ob.mk true 0 (AObj.row (IV.bools (decO (pc (dD d (Hd.mk v iu is l t ty c) s) (o6 (Hd.mk v iu is l t ty c) s) (o7 (Hd.mk v iu is l t ty c) s))))))] (18 :
 Nat) []) (finK V7s Tryd.f7 K)))); let A5:Prop:=((A3)); let A6:Prop:=((A5)); let A7:Prop:=((A6)); let A9:Prop:=((A3)); let A10:Prop:=((A9)); let A11:Prop:=((A10)); let A12:Prop:=((A7∧A11)); let A14:Prop:=((A6∧A5)); let A15:Prop:=((A7∧A14)); let A17:Prop:=((A10∧A9)); let A18:Prop:=((A11∧A17)); let A20:Prop:=((A6)); let A21:Prop:=((A7∧A20)); let A22:Prop:=((A10)); let A23:Prop:=((A11∧A22)); let A32:Prop:=((A3)); let A33:Prop:=((A32)); let A34:Prop:=((A33)); let A36:Prop:=((A33∧A32)); let A38:Prop:=((A33)); let A44:Prop:=((A3)); let A45:Prop:=((A44)); let A51:Prop:=((okU (Cu.mk d (0:Int) (0:Int) (0:Int))∧okH (Hd.mk v iu is l t ty c)∧sz48 s∧fitsD (Cu.mk d (0:Int) (0:Int) (0:Int)) (Hd.mk v iu is l t ty c) s = true∧okD d (Hd.mk v iu is l t ty c) s = true∧(A45∧A44)∧A45)); let A52:Prop:=(((okU (Cu.mk d (0:Int) (0:Int) (0:Int))∧okH (Hd.mk v iu is l t ty c)∧sz48 s∧fitsD (Cu.mk d (0:Int) (0:Int) (0:Int)) (Hd.mk v iu is l t ty c) s = true∧okD d (Hd.mk v iu is l t ty c) s = true∧(A34∧A36)∧(A34∧A38)∧A36∧A38)∧A51)); let A54 :
 Prop:=((A3)); let A55:Prop:=((A54)); let A56:Prop:=((A55)); let A58:Prop:=((A55∧A54)); let A60:Prop:=((A55)); let A66:Prop:=((A3)); let A67:Prop:=((A66)); let A73:Prop:=((okU (Cu.mk d (0:Int) (0:Int) (0:Int))∧okH (Hd.mk v iu is l t ty c)∧sz48 s∧fitsD (Cu.mk d (0:Int) (0:Int) (0:Int)) (Hd.mk v iu is l t ty c) s = true∧okD d (Hd.mk v iu is l t ty c) s = true∧(A67∧A66)∧A67)); let A74:Prop:=(((okU (Cu.mk d (0:Int) (0:Int) (0:Int))∧okH (Hd.mk v iu is l t ty c)∧sz48 s∧fitsD (Cu.mk d (0:Int) (0:Int) (0:Int)) (Hd.mk v iu is l t ty c) s = true∧okD d (Hd.mk v iu is l t ty c) s = true∧(A56∧A58)∧(A56∧A60)∧A58∧A60)∧A73)); let A75:Prop:=(((okU (Cu.mk d (0:Int) (0:Int) (0:Int))∧okH (Hd.mk v iu is l t ty c)∧sz48 s∧fitsD (Cu.mk d (0:Int) (0:Int) (0:Int)) (Hd.mk v iu is l t ty c) s = true∧okD d (Hd.mk v iu is l t ty c) s = true∧(A12∧A15∧A18)∧(A12∧A21∧A23)∧(A15∧A21∧A14∧A20)∧A18∧A23∧A17∧A22)∧A52∧A74)); let A77:Prop:=((A51)); let A78:Prop:=((A52∧A77)); let A79:Prop:=((A73)); let A80:Prop:=((A74∧A79)); A75∧(A75∧A78∧A80)∧(A52 ∧
 A78∧A51∧A77)∧A74∧A80∧A73∧A79):=by kernel_rfl
theorem s7_lb (d:List UInt8) (O:List UInt8) (T:List Int) (D:List UInt8) (X:List (List IV)) (L:List (List IV)) (S:List Bool) (U:List Bool) (a:Nat) (n:Nat) (a':Nat) (n':Nat) (i:Int) (k:AX→St→Prop):evCode V7s (loopB (bodyOf Tryd.f7) (1:Nat)) (k7b d O T D X L S U a n a' n' i) k = (let A4:Prop:=(((0:Int)≤i∧i < (↑n:Int)∧k AX.normal (St.mk [.imm (.bytes d),.dead,.dead,.dead,.dead,.dead,.dead,.dead,AV.row (0:Nat) (0:Nat),.ptr 1 0,.dead,.dead,.dead,.dead,.dead,.imm (.int .i64 (IntKind.wrap .i64 (i + 1))),.dead,.dead,.dead,.dead,.dead,.dead,.dead,.dead,.dead,.dead,.dead,.dead,.dead,.dead,.dead,.dead,.dead,.dead,.dead,.dead,.dead,.dead,.dead,.dead,.dead,.dead,.dead,.dead,.dead,.dead,.dead,.dead,.dead,.dead,.dead,.dead,.dead,.dead,.dead,.dead,.dead,.dead,.dead,.dead,.dead,.dead,.dead,.dead,.dead,.dead,.dead,.dead,.dead,.dead,.dead,.dead,.imm (.int .i64 i),.imm (.int .i64 (IntKind.wrap .i64 (i + 1))),.dead,.dead,.dead,.dead,.dead,.dead,.dead,.dead,.dead,.dead,.dead,.dead,.dead,.dead,.dead,.dead,.dead,.dead,.dead,.dead,.dead,.dead,.dead,.dead,
 .dead,.dead,.dead,.dead,.dead,.dead] [(0,Ob.mk false 0 (AObj.row (IV.bytes O))),(1,Ob.mk true 0 (AObj.cells [AV.row (2:Nat) (0:Nat),AV.vw (3:Nat) (0:Nat) a n,AV.row (4:Nat) (0:Nat),AV.vw (3:Nat) (0:Nat) a' n',AV.row (5:Nat) (0:Nat),AV.row (6:Nat) (0:Nat),AV.row (7:Nat) (0:Nat)])),(2,Ob.mk true 0 (AObj.row (IV.ints IntKind.i64 T))),(3,Ob.mk true 0 (AObj.row (IV.bytes (List.set D (a + i.toNat) (u8 (IntKind.wrap IntKind.u8 ((↑(UInt8.toNat (List.getD D (a + i.toNat) (0:UInt8))):Int) + 1))))))),(4,Ob.mk true 0 (AObj.row (IV.sl (3:Nat) X))),(5,Ob.mk true 0 (AObj.row (IV.sl (2:Nat) L))),(6,Ob.mk true 0 (AObj.row (IV.bools S))),(7,Ob.mk true 0 (AObj.row (IV.bools U)))] (8:Nat) []))); brn (decide (i < (↑n:Int))) (((0:Int)≤i∧i < (↑n:Int)∧A4)∧(0:Int)≤i∧i < (↑n:Int)∧A4) (k (AX.exit (2:Nat)) (St.mk [.imm (.bytes d),.dead,.dead,.dead,.dead,.dead,.dead,.dead,AV.row (0:Nat) (0:Nat),.ptr 1 0,.dead,.dead,.dead,.dead,.dead,.imm (.int .i64 i),.dead,.dead,.dead,.dead,.dead,.dead,.dead,.dead,.dead,.dead,.dead,.dead,.dead,.dead,.dead,.dead,.dead,.dead,.dead,.dead,.dead,.dead,
 .dead,.dead,.dead,.dead,.dead,.dead,.dead,.dead,.dead,.dead,.dead,.dead,.dead,.dead,.dead,.dead,.dead,.dead,.dead,.dead,.dead,.dead,.dead,.dead,.dead,.dead,.dead,.dead,.dead,.imm (.int .i64 i),.ptr 1 1,AV.vw (3:Nat) (0:Nat) a n,.imm (.int .i64 (↑n:Int)),.imm (.bool (decide (i < (↑n:Int)))),.dead,.dead,.dead,.dead,.dead,.dead,.dead,.dead,.dead,.dead,.dead,.dead,.dead,.dead,.dead,.dead,.dead,.dead,.dead,.dead,.dead,.dead,.dead,.dead,.dead,.dead,.dead,.dead,.dead,.dead,.dead,.dead] [(0,Ob.mk false 0 (AObj.row (IV.bytes O))),(1,Ob.mk true 0 (AObj.cells [AV.row (2:Nat) (0:Nat),AV.vw (3:Nat) (0:Nat) a n,AV.row (4:Nat) (0:Nat),AV.vw (3:Nat) (0:Nat) a' n',AV.row (5:Nat) (0:Nat),AV.row (6:Nat) (0:Nat),AV.row (7:Nat) (0:Nat)])),(2,Ob.mk true 0 (AObj.row (IV.ints IntKind.i64 T))),(3,Ob.mk true 0 (AObj.row (IV.bytes D))),(4,Ob.mk true 0 (AObj.row (IV.sl (3:Nat) X))),(5,Ob.mk true 0 (AObj.row (IV.sl (2:Nat) L))),(6,Ob.mk true 0 (AObj.row (IV.bools S))),(7,Ob.mk true 0 (AObj.row (IV.bools U)))] (8:Nat) []))):=by kernel_rfl
theorem s7_lc (d:List UInt8) (O:List UInt8) (T:List Int) (D:List UInt8) (X:List (List IV)) (L:List (List IV)) (S:List Bool) (U:List Bool) (a:Nat) (n:Nat) (a':Nat) (n':Nat) (i:Int) (k:AX→St→Prop):evCode V7s (loopB (bodyOf Tryd.f7) (2:Nat)) (k7c d O T D X L S U a n a' n' i) k = (let A4:Prop:=(((0:Int)≤i∧i < (↑n':Int)∧k AX.normal (St.mk [.imm (.bytes d),.dead,.dead,.dead,.dead,.dead,.dead,.dead,AV.row (0:Nat) (0:Nat),.ptr 1 0,.dead,.dead,.dead,.dead,.dead,.dead,.imm (.int .i64 (IntKind.wrap .i64 (i + 1))),.dead,.dead,.dead,.dead,.dead,.dead,.dead,.dead,.dead,.dead,.dead,.dead,.dead,.dead,.dead,.dead,.dead,.dead,.dead,.dead,.dead,.dead,.dead,.dead,.dead,.dead,.dead,.dead,.dead,.dead,.dead,.dead,.dead,.dead,.dead,.dead,.dead,.dead,.dead,.dead,.dead,.dead,.dead,.dead,.dead,.dead,.dead,.dead,.dead,.dead,.dead,.dead,.dead,.dead,.dead,.dead,.dead,.dead,.dead,.dead,.dead,.dead,.dead,.dead,.dead,.dead,.dead,.dead,.dead,.dead,.dead,.dead,.imm (.int .i64 i),.imm (.int .i64 (IntKind.wrap .i64 (i + 1))),.dead,.dead,.dead,.dead,.dead,.dead,.dead,
 .dead,.dead,.dead,.dead,.dead,.dead] [(0,Ob.mk false 0 (AObj.row (IV.bytes O))),(1,Ob.mk true 0 (AObj.cells [AV.row (2:Nat) (0:Nat),AV.vw (3:Nat) (0:Nat) a n,AV.row (4:Nat) (0:Nat),AV.vw (3:Nat) (0:Nat) a' n',AV.row (5:Nat) (0:Nat),AV.row (6:Nat) (0:Nat),AV.row (7:Nat) (0:Nat)])),(2,Ob.mk true 0 (AObj.row (IV.ints IntKind.i64 T))),(3,Ob.mk true 0 (AObj.row (IV.bytes (List.set D (a' + i.toNat) (u8 (IntKind.wrap IntKind.u8 ((↑(UInt8.toNat (List.getD D (a' + i.toNat) (0:UInt8))):Int) + 1))))))),(4,Ob.mk true 0 (AObj.row (IV.sl (3:Nat) X))),(5,Ob.mk true 0 (AObj.row (IV.sl (2:Nat) L))),(6,Ob.mk true 0 (AObj.row (IV.bools S))),(7,Ob.mk true 0 (AObj.row (IV.bools U)))] (8:Nat) []))); brn (decide (i < (↑n':Int))) (((0:Int)≤i∧i < (↑n':Int)∧A4)∧(0:Int)≤i∧i < (↑n':Int)∧A4) (k (AX.exit (4:Nat)) (St.mk [.imm (.bytes d),.dead,.dead,.dead,.dead,.dead,.dead,.dead,AV.row (0:Nat) (0:Nat),.ptr 1 0,.dead,.dead,.dead,.dead,.dead,.dead,.imm (.int .i64 i),.dead,.dead,.dead,.dead,.dead,.dead,.dead,.dead,.dead,.dead,.dead,.dead,.dead,.dead,.dead,.dead,.dead,.dead,.dead,.dead,
 .dead,.dead,.dead,.dead,.dead,.dead,.dead,.dead,.dead,.dead,.dead,.dead,.dead,.dead,.dead,.dead,.dead,.dead,.dead,.dead,.dead,.dead,.dead,.dead,.dead,.dead,.dead,.dead,.dead,.dead,.dead,.dead,.dead,.dead,.dead,.dead,.dead,.dead,.dead,.dead,.dead,.dead,.dead,.dead,.dead,.dead,.dead,.imm (.int .i64 i),.ptr 1 3,AV.vw (3:Nat) (0:Nat) a' n',.imm (.int .i64 (↑n':Int)),.imm (.bool (decide (i < (↑n':Int)))),.dead,.dead,.dead,.dead,.dead,.dead,.dead,.dead,.dead,.dead,.dead,.dead,.dead,.dead,.dead] [(0,Ob.mk false 0 (AObj.row (IV.bytes O))),(1,Ob.mk true 0 (AObj.cells [AV.row (2:Nat) (0:Nat),AV.vw (3:Nat) (0:Nat) a n,AV.row (4:Nat) (0:Nat),AV.vw (3:Nat) (0:Nat) a' n',AV.row (5:Nat) (0:Nat),AV.row (6:Nat) (0:Nat),AV.row (7:Nat) (0:Nat)])),(2,Ob.mk true 0 (AObj.row (IV.ints IntKind.i64 T))),(3,Ob.mk true 0 (AObj.row (IV.bytes D))),(4,Ob.mk true 0 (AObj.row (IV.sl (3:Nat) X))),(5,Ob.mk true 0 (AObj.row (IV.sl (2:Nat) L))),(6,Ob.mk true 0 (AObj.row (IV.bools S))),(7,Ob.mk true 0 (AObj.row (IV.bools U)))] (8:Nat) []))):=by kernel_rfl
end Z19
set_option maxRecDepth 100000
namespace Z19
open Go Go.AE Go.Proofs D6
attribute [local irreducible] loopK evCode evSpec loopB norm
theorem s7_ob (d:List UInt8) (O:List UInt8) (T:List Int) (D:List UInt8) (X:List (List IV)) (L:List (List IV)) (S:List Bool) (U:List Bool) (a:Nat) (n:Nat) (a':Nat) (n':Nat) (i:Int) (K:List AV→Prop):loopK V7s (bodyOf Tryd.f7) (1:Nat) (finK V7s Tryd.f7 K) (AX.exit (2:Nat)) (x7b d O T D X L S U a n a' n' i) = (LoopI V7s (bodyOf Tryd.f7) (2:Nat) (St.mk [.imm (.bytes d),.dead,.dead,.dead,.dead,.dead,.dead,.dead,AV.row (0:Nat) (0:Nat),.ptr 1 0,.dead,.dead,.dead,.dead,.dead,.imm (.int .i64 i),.imm (.int .i64 0),.dead,.dead,.dead,.dead,.dead,.dead,.dead,.dead,.dead,.dead,.dead,.dead,.dead,.dead,.dead,.dead,.dead,.dead,.dead,.dead,.dead,.dead,.dead,.dead,.dead,.dead,.dead,.dead,.dead,.dead,.dead,.dead,.dead,.dead,.dead,.dead,.dead,.dead,.dead,.dead,.dead,.dead,.dead,.dead,.dead,.dead,.dead,.dead,.dead,.dead,.dead,.dead,.dead,.dead,.dead,.dead,.dead,.dead,.dead,.dead,.dead,.dead,.dead,.dead,.dead,.dead,.dead,.dead,.dead,.dead,.dead,.dead,.dead,.dead,.dead,.dead,.dead,.dead,.dead,.dead,.dead,.dead,.dead,.dead,.dead,.dead,.dead] [(0,Ob.mk false 0
 (AObj.row (IV.bytes O))),(1,Ob.mk true 0 (AObj.cells [AV.row (2:Nat) (0:Nat),AV.vw (3:Nat) (0:Nat) a n,AV.row (4:Nat) (0:Nat),AV.vw (3:Nat) (0:Nat) a' n',AV.row (5:Nat) (0:Nat),AV.row (6:Nat) (0:Nat),AV.row (7:Nat) (0:Nat)])),(2,Ob.mk true 0 (AObj.row (IV.ints IntKind.i64 T))),(3,Ob.mk true 0 (AObj.row (IV.bytes D))),(4,Ob.mk true 0 (AObj.row (IV.sl (3:Nat) X))),(5,Ob.mk true 0 (AObj.row (IV.sl (2:Nat) L))),(6,Ob.mk true 0 (AObj.row (IV.bools S))),(7,Ob.mk true 0 (AObj.row (IV.bools U)))] (8:Nat) []) (finK V7s Tryd.f7 K)):=by kernel_rfl
theorem s7_oc (d:List UInt8) (O:List UInt8) (T:List Int) (D:List UInt8) (X:List (List IV)) (L:List (List IV)) (S:List Bool) (U:List Bool) (a:Nat) (n:Nat) (a':Nat) (n':Nat) (i:Int) (K:List AV→Prop):loopK V7s (bodyOf Tryd.f7) (2:Nat) (finK V7s Tryd.f7 K) (AX.exit (4:Nat)) (x7c d O T D X L S U a n a' n' i) = ((O.length:Int)≤big∧(d.length:Int)≤big∧K [.imm (.bool (decide (O = d)))]):=by kernel_rfl
theorem e7_in (d:List UInt8) (v:Int) (iu:Int) (is:Int) (l:Int) (t:Int) (ty:Int) (c:Int) (w:Bool) (K:List AV→Prop):evSpec V7e Tryd.f7 [.imm (.bytes d),hdAV v iu is l t ty c,.imm (.bool w)] K = (let Q1:Bk×Cu:=(decU (Cu.mk (List.map u8 [] ++ d) (0:Int) (0:Int) (0:Int)) (Hd.mk v iu is l t ty c) (if w = true then (8:Int) else (4:Int)) (0:Int)); let Q2:List UInt8:=(encB (Bk.T (Prod.fst Q1)) (Bk.I (Prod.fst Q1)) (tys (List.map cellsT (Bk.X (Prod.fst Q1)))) (Bk.C (Prod.fst Q1)) (lps (List.map cellsL (Bk.L (Prod.fst Q1)))) (Bk.S (Prod.fst Q1)) (Bk.U (Prod.fst Q1)) (if w = true then (8:Int) else (4:Int)).toNat); let E1:Prop:=((sm (St.mk (lapp [.imm (.bytes d),.agg [.imm (.int .i64 v),.imm (.int IntKind.u32 iu),.imm (.int IntKind.u32 is),.imm (.int IntKind.u32 l),.imm (.int IntKind.u32 t),.imm (.int IntKind.u32 ty),.imm (.int IntKind.u32 c)],.imm (.bool w),.dead,.ptr 0 0,.dead,.imm (.bool false),.imm (.int .i64 (if w = true then (8:Int) else (4:Int))),AV.row (1:Nat) (0:Nat),.ptr 2 0,.ptr 3 0] (lapp (dN 19) (lapp [.tup [.agg [.imm (.ints IntKind.i64 (Bk.T (Prod.fst Q1))),.imm (.bytes (Bk.I (Prod.fst Q1))),.imm
 (.sl (3:Nat) (List.map cellsT (Bk.X (Prod.fst Q1)))),.imm (.bytes (Bk.C (Prod.fst Q1))),.imm (.sl (2:Nat) (List.map cellsL (Bk.L (Prod.fst Q1)))),.imm (.bools (Bk.S (Prod.fst Q1))),.imm (.bools (Bk.U (Prod.fst Q1)))],.agg [.imm (.bytes (Cu.d (Prod.snd Q1))),.imm (.int .i64 (Cu.p (Prod.snd Q1))),.imm (.int .i64 (Cu.e (Prod.snd Q1))),.imm (.int .i64 (Cu.a (Prod.snd Q1)))]],AV.row (1:Nat) (0:Nat),.agg [.imm (.bytes (List.map u8 [] ++ d)),.imm (.int .i64 0),.imm (.int .i64 0),.imm (.int .i64 0)],.agg [.imm (.int .i64 v),.imm (.int IntKind.u32 iu),.imm (.int IntKind.u32 is),.imm (.int IntKind.u32 l),.imm (.int IntKind.u32 t),.imm (.int IntKind.u32 ty),.imm (.int IntKind.u32 c)],.imm (.int .i64 (if w = true then (8:Int) else (4:Int))),.tup [.agg [.imm (.ints IntKind.i64 (Bk.T (Prod.fst Q1))),.imm (.bytes (Bk.I (Prod.fst Q1))),.imm (.sl (3:Nat) (List.map cellsT (Bk.X (Prod.fst Q1)))),.imm (.bytes (Bk.C (Prod.fst Q1))),.imm (.sl (2:Nat) (List.map cellsL (Bk.L (Prod.fst Q1)))),.imm (.bools (Bk.S (Prod.fst Q1))),.imm (.bools (Bk.U (Prod.fst Q1)))],.agg [.imm (.bytes (Cu.d (Prod.snd Q1))),.imm (.int .i64 (Cu.p (Prod.snd Q1))),.imm (.int .i64 (Cu.e
 (Prod.snd Q1))),.imm (.int .i64 (Cu.a (Prod.snd Q1)))]],.agg [.imm (.ints IntKind.i64 (Bk.T (Prod.fst Q1))),.imm (.bytes (Bk.I (Prod.fst Q1))),.imm (.sl (3:Nat) (List.map cellsT (Bk.X (Prod.fst Q1)))),.imm (.bytes (Bk.C (Prod.fst Q1))),.imm (.sl (2:Nat) (List.map cellsL (Bk.L (Prod.fst Q1)))),.imm (.bools (Bk.S (Prod.fst Q1))),.imm (.bools (Bk.U (Prod.fst Q1)))],.agg [.imm (.bytes (Cu.d (Prod.snd Q1))),.imm (.int .i64 (Cu.p (Prod.snd Q1))),.imm (.int .i64 (Cu.e (Prod.snd Q1))),.imm (.int .i64 (Cu.a (Prod.snd Q1)))]] (dN 66)))) [(0,Ob.mk true 0 (AObj.cells [.imm (.int .i64 v),.imm (.int IntKind.u32 iu),.imm (.int IntKind.u32 is),.imm (.int IntKind.u32 l),.imm (.int IntKind.u32 t),.imm (.int IntKind.u32 ty),.imm (.int IntKind.u32 c)])),(1,Ob.mk false 0 (AObj.row (IV.bytes (List.map u8 [] ++ d)))),(2,Ob.mk true 0 (AObj.cells [.imm (.ints IntKind.i64 (Bk.T (Prod.fst Q1))),.imm (.bytes (Bk.I (Prod.fst Q1))),.imm (.sl (3:Nat) (List.map cellsT (Bk.X (Prod.fst Q1)))),.imm (.bytes (Bk.C (Prod.fst Q1))),.imm (.sl (2:Nat) (List.map cellsL (Bk.L (Prod.fst Q1)))),.imm (.bools (Bk.S (Prod.fst Q1))),.imm (.bools (Bk.U (Prod.fst Q1)))])),(3,Ob.mk true 0
 (AObj.cells [.imm (.bytes (Cu.d (Prod.snd Q1))),.imm (.int .i64 (Cu.p (Prod.snd Q1))),.imm (.int .i64 (Cu.e (Prod.snd Q1))),.imm (.int .i64 (Cu.a (Prod.snd Q1)))]))] (4:Nat) []))); let R1:Prop:=((okU (Cu.mk (List.map u8 [] ++ d) (0:Int) (0:Int) (0:Int))∧okH (Hd.mk v iu is l t ty c)∧sz48 (if w = true then (8:Int) else (4:Int))∧E1)∧okU (Cu.mk (List.map u8 [] ++ d) (0:Int) (0:Int) (0:Int))∧okH (Hd.mk v iu is l t ty c)∧sz48 (if w = true then (8:Int) else (4:Int))∧E1); brn (!true || decide ((d.length:Int) > 1000)) (K [.imm (.bool true)]) (((List.map u8 []).length + d.length) * 1≤140737488355328∧(List.map u8 []).length + d.length≤140737488355328∧(((okU (Cu.mk (List.map u8 [] ++ d) (0:Int) (0:Int) (0:Int))∧okH (Hd.mk v iu is l t ty c)∧sz48 (if w = true then (8:Int) else (4:Int))∧E1∧E1)∧R1∧(okU (Cu.mk (List.map u8 [] ++ d) (0:Int) (0:Int) (0:Int))∧okH (Hd.mk v iu is l t ty c)∧sz48 (if w = true then (8:Int) else (4:Int))∧E1)∧okU (Cu.mk (List.map u8 [] ++ d) (0:Int) (0:Int) (0:Int))∧okH (Hd.mk v iu is l t ty c)∧sz48 (if w = true then (8:Int) else (4:Int))∧E1)∧(R1∧okU (Cu.mk
 (List.map u8 [] ++ d) (0:Int) (0:Int) (0:Int))∧okH (Hd.mk v iu is l t ty c)∧sz48 (if w = true then (8:Int) else (4:Int))∧E1)∧R1∧okU (Cu.mk (List.map u8 [] ++ d) (0:Int) (0:Int) (0:Int))∧okH (Hd.mk v iu is l t ty c)∧sz48 (if w = true then (8:Int) else (4:Int))∧E1)∧Z19.okE (Bk.T (Prod.fst Q1)) (Bk.I (Prod.fst Q1)) (List.map cellsT (Bk.X (Prod.fst Q1))) (Bk.C (Prod.fst Q1)) (List.map cellsL (Bk.L (Prod.fst Q1))) (Bk.S (Prod.fst Q1)) (Bk.U (Prod.fst Q1))∧sz48 (if w = true then (8:Int) else (4:Int))∧LoopI V7e (bodyOf Tryd.f7) (0:Nat) (St.mk (lapp [.imm (.bytes d),.agg [.imm (.int .i64 v),.imm (.int IntKind.u32 iu),.imm (.int IntKind.u32 is),.imm (.int IntKind.u32 l),.imm (.int IntKind.u32 t),.imm (.int IntKind.u32 ty),.imm (.int IntKind.u32 c)],.imm (.bool w),.dead,.ptr 0 0,.dead,.imm (.bool false),.imm (.int .i64 (if w = true then (8:Int) else (4:Int))),AV.row (1:Nat) (0:Nat),.ptr 2 0,.ptr 3 0,AV.row (4:Nat) (0:Nat),.imm (.int .i64 0)] (dN 91)) [(0,Ob.mk true 0 (AObj.cells [.imm (.int .i64 v),.imm (.int IntKind.u32 iu),.imm (.int IntKind.u32 is),.imm (.int IntKind.u32 l),.imm (.int IntKind.u32 t),.imm
 (.int IntKind.u32 ty),.imm (.int IntKind.u32 c)])),(1,Ob.mk false 0 (AObj.row (IV.bytes (List.map u8 [] ++ d)))),(2,Ob.mk true 0 (AObj.cells [.imm (.ints IntKind.i64 (Bk.T (Prod.fst Q1))),.imm (.bytes (Bk.I (Prod.fst Q1))),.imm (.sl (3:Nat) (List.map cellsT (Bk.X (Prod.fst Q1)))),.imm (.bytes (Bk.C (Prod.fst Q1))),.imm (.sl (2:Nat) (List.map cellsL (Bk.L (Prod.fst Q1)))),.imm (.bools (Bk.S (Prod.fst Q1))),.imm (.bools (Bk.U (Prod.fst Q1)))])),(3,Ob.mk true 0 (AObj.cells [.imm (.bytes (Cu.d (Prod.snd Q1))),.imm (.int .i64 (Cu.p (Prod.snd Q1))),.imm (.int .i64 (Cu.e (Prod.snd Q1))),.imm (.int .i64 (Cu.a (Prod.snd Q1)))])),(4,Ob.mk true 0 (AObj.row (IV.bytes Q2)))] (5:Nat) []) (finK V7e Tryd.f7 K))):=by kernel_rfl
theorem e7_lp (d:List UInt8) (v:Int) (iu:Int) (is:Int) (l:Int) (t:Int) (ty:Int) (c:Int) (s:Int) (O:List UInt8) (E:List UInt8) (T:List Int) (I:List UInt8) (X:List (List IV)) (C:List UInt8) (L:List (List IV)) (S:List Bool) (U:List Bool) (i:Int) (k:AX→St→Prop):evCode V7e (loopB (bodyOf Tryd.f7) (0:Nat)) (k8a d v iu is l t ty c s O E T I X C L S U i) k = (brn (decide (i < (E.length:Int))) ((0:Int)≤i∧i < (E.length:Int)∧(0:Int)≤i∧i < (E.length:Int)∧k AX.normal (St.mk [.imm (.bytes d),.dead,.dead,.dead,.ptr 0 0,.dead,.dead,.imm (.int .i64 s),AV.row (1:Nat) (0:Nat),.ptr 2 0,.dead,AV.row (3:Nat) (0:Nat),.imm (.int .i64 (IntKind.wrap .i64 (i + 1))),.dead,.dead,.dead,.dead,.dead,.dead,.dead,.dead,.dead,.dead,.dead,.dead,.dead,.dead,.dead,.dead,.dead,.dead,.dead,.dead,.dead,.dead,.dead,.dead,.dead,.dead,.dead,.dead,.dead,.dead,.dead,.dead,.imm (.int .i64 i),.imm (.int .i64 (IntKind.wrap .i64 (i + 1))),.dead,.dead,.dead,.dead,.dead,.dead,.dead,.dead,.dead,.dead,.dead,.dead,.dead,.dead,.dead,.dead,.dead,.dead,.dead,.dead,.dead,.dead,.dead,.dead,
 .dead,.dead,.dead,.dead,.dead,.dead,.dead,.dead,.dead,.dead,.dead,.dead,.dead,.dead,.dead,.dead,.dead,.dead,.dead,.dead,.dead,.dead,.dead,.dead,.dead,.dead,.dead,.dead,.dead,.dead,.dead,.dead,.dead] [(0,Ob.mk true 0 (AObj.cells [.imm (.int .i64 v),.imm (.int IntKind.u32 iu),.imm (.int IntKind.u32 is),.imm (.int IntKind.u32 l),.imm (.int IntKind.u32 t),.imm (.int IntKind.u32 ty),.imm (.int IntKind.u32 c)])),(1,Ob.mk false 0 (AObj.row (IV.bytes O))),(2,Ob.mk true 0 (AObj.cells [.imm (.ints IntKind.i64 T),.imm (.bytes I),.imm (.sl (3:Nat) X),.imm (.bytes C),.imm (.sl (2:Nat) L),.imm (.bools S),.imm (.bools U)])),(3,Ob.mk true 0 (AObj.row (IV.bytes (List.set E i.toNat (u8 (IntKind.wrap IntKind.u8 ((↑(UInt8.toNat (List.getD E i.toNat (0:UInt8))):Int) + 1)))))))] (4:Nat) [])) (k (AX.exit (0:Nat)) (St.mk [.imm (.bytes d),.dead,.dead,.dead,.ptr 0 0,.dead,.dead,.imm (.int .i64 s),AV.row (1:Nat) (0:Nat),.ptr 2 0,.dead,AV.row (3:Nat) (0:Nat),.imm (.int .i64 i),.dead,.dead,.dead,.dead,.dead,.dead,.dead,.dead,.dead,.dead,.dead,.dead,.dead,.dead,.dead,.dead,.dead,.dead,.dead,.dead,.dead,.dead,
 .dead,.dead,.dead,.dead,.dead,.dead,.imm (.int .i64 i),AV.row (3:Nat) (0:Nat),.imm (.int .i64 (E.length:Int)),.imm (.bool (decide (i < (E.length:Int)))),.dead,.dead,.dead,.dead,.dead,.dead,.dead,.dead,.dead,.dead,.dead,.dead,.dead,.dead,.dead,.dead,.dead,.dead,.dead,.dead,.dead,.dead,.dead,.dead,.dead,.dead,.dead,.dead,.dead,.dead,.dead,.dead,.dead,.dead,.dead,.dead,.dead,.dead,.dead,.dead,.dead,.dead,.dead,.dead,.dead,.dead,.dead,.dead,.dead,.dead,.dead,.dead,.dead,.dead,.dead,.dead,.dead,.dead,.dead] [(0,Ob.mk true 0 (AObj.cells [.imm (.int .i64 v),.imm (.int IntKind.u32 iu),.imm (.int IntKind.u32 is),.imm (.int IntKind.u32 l),.imm (.int IntKind.u32 t),.imm (.int IntKind.u32 ty),.imm (.int IntKind.u32 c)])),(1,Ob.mk false 0 (AObj.row (IV.bytes O))),(2,Ob.mk true 0 (AObj.cells [.imm (.ints IntKind.i64 T),.imm (.bytes I),.imm (.sl (3:Nat) X),.imm (.bytes C),.imm (.sl (2:Nat) L),.imm (.bools S),.imm (.bools U)])),(3,Ob.mk true 0 (AObj.row (IV.bytes E)))] (4:Nat) []))):=by kernel_rfl
theorem e7_out (d:List UInt8) (v:Int) (iu:Int) (is:Int) (l:Int) (t:Int) (ty:Int) (c:Int) (s:Int) (O:List UInt8) (E:List UInt8) (T:List Int) (I:List UInt8) (X:List (List IV)) (C:List UInt8) (L:List (List IV)) (S:List Bool) (U:List Bool) (i:Int) (K:List AV→Prop):loopK V7e (bodyOf Tryd.f7) (0:Nat) (finK V7e Tryd.f7 K) (AX.exit (0:Nat)) (x8a d v iu is l t ty c s O E T I X C L S U i) = (let Q1:Bk×Cu:=(decU (Cu.mk d (0:Int) (0:Int) (0:Int)) (Hd.mk v iu is l t ty c) s (0:Int)); let E1:Prop:=((sm (St.mk [.imm (.bytes d),.dead,.dead,.dead,.ptr 0 0,.dead,.dead,.imm (.int .i64 s),AV.row (1:Nat) (0:Nat),.ptr 2 0,.dead,AV.row (3:Nat) (0:Nat),.imm (.int .i64 i),.ptr 4 0,.ptr 5 0,.dead,.dead,.dead,.dead,.dead,.dead,.dead,.dead,.dead,.dead,.dead,.dead,.dead,.dead,.dead,.dead,.dead,.dead,.dead,.dead,.dead,.dead,.dead,.dead,.dead,.dead,.dead,.dead,.dead,.dead,.dead,.dead,.dead,.dead,.dead,.dead,.dead,.dead,.dead,.dead,.tup [.agg [.imm (.ints IntKind.i64 (Bk.T (Prod.fst Q1))),.imm (.bytes (Bk.I (Prod.fst Q1))),.imm (.sl (3:Nat) (List.map cellsT (Bk.X (Prod.fst Q1)))),
 .imm (.bytes (Bk.C (Prod.fst Q1))),.imm (.sl (2:Nat) (List.map cellsL (Bk.L (Prod.fst Q1)))),.imm (.bools (Bk.S (Prod.fst Q1))),.imm (.bools (Bk.U (Prod.fst Q1)))],.agg [.imm (.bytes (Cu.d (Prod.snd Q1))),.imm (.int .i64 (Cu.p (Prod.snd Q1))),.imm (.int .i64 (Cu.e (Prod.snd Q1))),.imm (.int .i64 (Cu.a (Prod.snd Q1)))]],.imm (.bytes d),.agg [.imm (.bytes d),.imm (.int .i64 0),.imm (.int .i64 0),.imm (.int .i64 0)],.agg [.imm (.int .i64 v),.imm (.int IntKind.u32 iu),.imm (.int IntKind.u32 is),.imm (.int IntKind.u32 l),.imm (.int IntKind.u32 t),.imm (.int IntKind.u32 ty),.imm (.int IntKind.u32 c)],.imm (.int .i64 s),.tup [.agg [.imm (.ints IntKind.i64 (Bk.T (Prod.fst Q1))),.imm (.bytes (Bk.I (Prod.fst Q1))),.imm (.sl (3:Nat) (List.map cellsT (Bk.X (Prod.fst Q1)))),.imm (.bytes (Bk.C (Prod.fst Q1))),.imm (.sl (2:Nat) (List.map cellsL (Bk.L (Prod.fst Q1)))),.imm (.bools (Bk.S (Prod.fst Q1))),.imm (.bools (Bk.U (Prod.fst Q1)))],.agg [.imm (.bytes (Cu.d (Prod.snd Q1))),.imm (.int .i64 (Cu.p (Prod.snd Q1))),.imm (.int .i64 (Cu.e (Prod.snd Q1))),.imm (.int .i64 (Cu.a (Prod.snd Q1)))]],.agg [.imm (.ints IntKind.i64 (Bk.T (Prod.fst Q1))),.imm (.bytes
 (Bk.I (Prod.fst Q1))),.imm (.sl (3:Nat) (List.map cellsT (Bk.X (Prod.fst Q1)))),.imm (.bytes (Bk.C (Prod.fst Q1))),.imm (.sl (2:Nat) (List.map cellsL (Bk.L (Prod.fst Q1)))),.imm (.bools (Bk.S (Prod.fst Q1))),.imm (.bools (Bk.U (Prod.fst Q1)))],.agg [.imm (.bytes (Cu.d (Prod.snd Q1))),.imm (.int .i64 (Cu.p (Prod.snd Q1))),.imm (.int .i64 (Cu.e (Prod.snd Q1))),.imm (.int .i64 (Cu.a (Prod.snd Q1)))],.dead,.dead,.dead,.dead,.dead,.dead,.dead,.dead,.dead,.dead,.dead,.dead,.dead,.dead,.dead,.dead,.dead,.dead,.dead,.dead,.dead,.dead,.dead,.dead,.dead,.dead,.dead,.dead,.dead,.dead,.dead,.dead,.dead,.dead,.dead,.dead,.dead,.dead,.dead,.dead,.dead] [(0,Ob.mk true 0 (AObj.cells [.imm (.int .i64 v),.imm (.int IntKind.u32 iu),.imm (.int IntKind.u32 is),.imm (.int IntKind.u32 l),.imm (.int IntKind.u32 t),.imm (.int IntKind.u32 ty),.imm (.int IntKind.u32 c)])),(1,Ob.mk false 0 (AObj.row (IV.bytes O))),(2,Ob.mk true 0 (AObj.cells [.imm (.ints IntKind.i64 T),.imm (.bytes I),.imm (.sl (3:Nat) X),.imm (.bytes C),.imm (.sl (2:Nat) L),.imm (.bools S),.imm (.bools U)])),(3,Ob.mk true 0 (AObj.row (IV.bytes E))),(4,Ob.mk true 0
 (AObj.cells [.imm (.ints IntKind.i64 (Bk.T (Prod.fst Q1))),.imm (.bytes (Bk.I (Prod.fst Q1))),.imm (.sl (3:Nat) (List.map cellsT (Bk.X (Prod.fst Q1)))),.imm (.bytes (Bk.C (Prod.fst Q1))),.imm (.sl (2:Nat) (List.map cellsL (Bk.L (Prod.fst Q1)))),.imm (.bools (Bk.S (Prod.fst Q1))),.imm (.bools (Bk.U (Prod.fst Q1)))])),(5,Ob.mk true 0 (AObj.cells [.imm (.bytes (Cu.d (Prod.snd Q1))),.imm (.int .i64 (Cu.p (Prod.snd Q1))),.imm (.int .i64 (Cu.e (Prod.snd Q1))),.imm (.int .i64 (Cu.a (Prod.snd Q1)))]))] (6:Nat) []))); let R1:Prop:=((okU (Cu.mk d (0:Int) (0:Int) (0:Int))∧okH (Hd.mk v iu is l t ty c)∧sz48 s∧E1)∧okU (Cu.mk d (0:Int) (0:Int) (0:Int))∧okH (Hd.mk v iu is l t ty c)∧sz48 s∧E1); (((okU (Cu.mk d (0:Int) (0:Int) (0:Int))∧okH (Hd.mk v iu is l t ty c)∧sz48 s∧E1∧E1)∧R1∧(okU (Cu.mk d (0:Int) (0:Int) (0:Int))∧okH (Hd.mk v iu is l t ty c)∧sz48 s∧E1)∧okU (Cu.mk d (0:Int) (0:Int) (0:Int))∧okH (Hd.mk v iu is l t ty c)∧sz48 s∧E1)∧(R1∧okU (Cu.mk d (0:Int) (0:Int) (0:Int))∧okH (Hd.mk v iu is l t ty c)∧sz48 s∧E1)∧R1∧okU (Cu.mk d (0:Int) (0:Int) (0:Int))∧okH (Hd.mk v iu is l t ty c)
 ∧ sz48 s∧E1)∧okB T I X C L S U∧okB (Bk.T (Prod.fst Q1)) (Bk.I (Prod.fst Q1)) (List.map cellsT (Bk.X (Prod.fst Q1))) (Bk.C (Prod.fst Q1)) (List.map cellsL (Bk.L (Prod.fst Q1))) (Bk.S (Prod.fst Q1)) (Bk.U (Prod.fst Q1))∧brn (!sameK T I X C L S U (Bk.T (Prod.fst Q1)) (Bk.I (Prod.fst Q1)) (List.map cellsT (Bk.X (Prod.fst Q1))) (Bk.C (Prod.fst Q1)) (List.map cellsL (Bk.L (Prod.fst Q1))) (Bk.S (Prod.fst Q1)) (Bk.U (Prod.fst Q1))) (K [.imm (.bool false)]) (LoopI V7e (bodyOf Tryd.f7) (1:Nat) (St.mk [.imm (.bytes d),.dead,.dead,.dead,.ptr 0 0,.dead,.dead,.imm (.int .i64 s),AV.row (1:Nat) (0:Nat),.ptr 2 0,.dead,AV.row (3:Nat) (0:Nat),.imm (.int .i64 i),.ptr 4 0,.ptr 5 0,.imm (.int .i64 0),.dead,.dead,.dead,.dead,.dead,.dead,.dead,.dead,.dead,.dead,.dead,.dead,.dead,.dead,.dead,.dead,.dead,.dead,.dead,.dead,.dead,.dead,.dead,.dead,.dead,.dead,.dead,.dead,.dead,.dead,.dead,.dead,.dead,.dead,.dead,.dead,.dead,.dead,.dead,.dead,.dead,.dead,.dead,.dead,.dead,.dead,.dead,.dead,.dead,.dead,.dead,.dead,.dead,.dead,.dead,.dead,.dead,.dead,.dead,.dead,.dead,.dead,.dead,.dead,.dead,.dead,.dead,.dead,
 .dead,.dead,.dead,.dead,.dead,.dead,.dead,.dead,.dead,.dead,.dead,.dead,.dead,.dead,.dead,.dead,.dead,.dead,.dead,.dead] [(0,Ob.mk true 0 (AObj.cells [.imm (.int .i64 v),.imm (.int IntKind.u32 iu),.imm (.int IntKind.u32 is),.imm (.int IntKind.u32 l),.imm (.int IntKind.u32 t),.imm (.int IntKind.u32 ty),.imm (.int IntKind.u32 c)])),(1,Ob.mk false 0 (AObj.row (IV.bytes O))),(2,Ob.mk true 0 (AObj.cells [.imm (.ints IntKind.i64 T),.imm (.bytes I),.imm (.sl (3:Nat) X),.imm (.bytes C),.imm (.sl (2:Nat) L),.imm (.bools S),.imm (.bools U)])),(3,Ob.mk true 0 (AObj.row (IV.bytes E))),(4,Ob.mk true 0 (AObj.cells [.imm (.ints IntKind.i64 (Bk.T (Prod.fst Q1))),.imm (.bytes (Bk.I (Prod.fst Q1))),.imm (.sl (3:Nat) (List.map cellsT (Bk.X (Prod.fst Q1)))),.imm (.bytes (Bk.C (Prod.fst Q1))),.imm (.sl (2:Nat) (List.map cellsL (Bk.L (Prod.fst Q1)))),.imm (.bools (Bk.S (Prod.fst Q1))),.imm (.bools (Bk.U (Prod.fst Q1)))])),(5,Ob.mk true 0 (AObj.cells [.imm (.bytes (Cu.d (Prod.snd Q1))),.imm (.int .i64 (Cu.p (Prod.snd Q1))),.imm (.int .i64 (Cu.e (Prod.snd Q1))),.imm (.int .i64 (Cu.a (Prod.snd Q1)))]))] (6:Nat) []) (finK V7e Tryd.f7 K))):=by kernel_rfl
theorem e7_lb (d:List UInt8) (O:List UInt8) (T:List Int) (I:List UInt8) (X:List (List IV)) (C:List UInt8) (L:List (List IV)) (S:List Bool) (U:List Bool) (i:Int) (k:AX→St→Prop):evCode V7e (loopB (bodyOf Tryd.f7) (1:Nat)) (k8b (15:Nat) d O T I X C L S U i) k = (brn (decide (i < (I.length:Int))) False (k (AX.exit (2:Nat)) (St.mk [.imm (.bytes d),.dead,.dead,.dead,.dead,.dead,.dead,.dead,AV.row (0:Nat) (0:Nat),.ptr 1 0,.dead,.dead,.dead,.dead,.dead,.imm (.int .i64 i),.dead,.dead,.dead,.dead,.dead,.dead,.dead,.dead,.dead,.dead,.dead,.dead,.dead,.dead,.dead,.dead,.dead,.dead,.dead,.dead,.dead,.dead,.dead,.dead,.dead,.dead,.dead,.dead,.dead,.dead,.dead,.dead,.dead,.dead,.dead,.dead,.dead,.dead,.dead,.dead,.dead,.dead,.dead,.dead,.dead,.dead,.dead,.dead,.dead,.dead,.dead,.imm (.int .i64 i),.ptr 1 1,.imm (.bytes I),.imm (.int .i64 (I.length:Int)),.imm (.bool (decide (i < (I.length:Int)))),.dead,.dead,.dead,.dead,.dead,.dead,.dead,.dead,.dead,.dead,.dead,.dead,.dead,.dead,.dead,.dead,.dead,.dead,.dead,.dead,.dead,.dead,.dead,.dead,.dead,.dead,.dead,
 .dead,.dead,.dead,.dead,.dead] [(0,Ob.mk false 0 (AObj.row (IV.bytes O))),(1,Ob.mk true 0 (AObj.cells [.imm (.ints IntKind.i64 T),.imm (.bytes I),.imm (.sl (3:Nat) X),.imm (.bytes C),.imm (.sl (2:Nat) L),.imm (.bools S),.imm (.bools U)]))] (2:Nat) []))):=by kernel_rfl
theorem e7_lc (d:List UInt8) (O:List UInt8) (T:List Int) (I:List UInt8) (X:List (List IV)) (C:List UInt8) (L:List (List IV)) (S:List Bool) (U:List Bool) (i:Int) (k:AX→St→Prop):evCode V7e (loopB (bodyOf Tryd.f7) (2:Nat)) (k8b (16:Nat) d O T I X C L S U i) k = (brn (decide (i < (C.length:Int))) False (k (AX.exit (4:Nat)) (St.mk [.imm (.bytes d),.dead,.dead,.dead,.dead,.dead,.dead,.dead,AV.row (0:Nat) (0:Nat),.ptr 1 0,.dead,.dead,.dead,.dead,.dead,.dead,.imm (.int .i64 i),.dead,.dead,.dead,.dead,.dead,.dead,.dead,.dead,.dead,.dead,.dead,.dead,.dead,.dead,.dead,.dead,.dead,.dead,.dead,.dead,.dead,.dead,.dead,.dead,.dead,.dead,.dead,.dead,.dead,.dead,.dead,.dead,.dead,.dead,.dead,.dead,.dead,.dead,.dead,.dead,.dead,.dead,.dead,.dead,.dead,.dead,.dead,.dead,.dead,.dead,.dead,.dead,.dead,.dead,.dead,.dead,.dead,.dead,.dead,.dead,.dead,.dead,.dead,.dead,.dead,.dead,.dead,.imm (.int .i64 i),.ptr 1 3,.imm (.bytes C),.imm (.int .i64 (C.length:Int)),.imm (.bool (decide (i < (C.length:Int)))),.dead,.dead,.dead,.dead,.dead,.dead,.dead,.dead,.dead,.dead,
 .dead,.dead,.dead,.dead,.dead] [(0,Ob.mk false 0 (AObj.row (IV.bytes O))),(1,Ob.mk true 0 (AObj.cells [.imm (.ints IntKind.i64 T),.imm (.bytes I),.imm (.sl (3:Nat) X),.imm (.bytes C),.imm (.sl (2:Nat) L),.imm (.bools S),.imm (.bools U)]))] (2:Nat) []))):=by kernel_rfl
theorem e7_ob (d:List UInt8) (O:List UInt8) (T:List Int) (I:List UInt8) (X:List (List IV)) (C:List UInt8) (L:List (List IV)) (S:List Bool) (U:List Bool) (i:Int) (K:List AV→Prop):loopK V7e (bodyOf Tryd.f7) (1:Nat) (finK V7e Tryd.f7 K) (AX.exit (2:Nat)) (x8b d O T I X C L S U i) = (LoopI V7e (bodyOf Tryd.f7) (2:Nat) (St.mk [.imm (.bytes d),.dead,.dead,.dead,.dead,.dead,.dead,.dead,AV.row (0:Nat) (0:Nat),.ptr 1 0,.dead,.dead,.dead,.dead,.dead,.imm (.int .i64 i),.imm (.int .i64 0),.dead,.dead,.dead,.dead,.dead,.dead,.dead,.dead,.dead,.dead,.dead,.dead,.dead,.dead,.dead,.dead,.dead,.dead,.dead,.dead,.dead,.dead,.dead,.dead,.dead,.dead,.dead,.dead,.dead,.dead,.dead,.dead,.dead,.dead,.dead,.dead,.dead,.dead,.dead,.dead,.dead,.dead,.dead,.dead,.dead,.dead,.dead,.dead,.dead,.dead,.dead,.dead,.dead,.dead,.dead,.dead,.dead,.dead,.dead,.dead,.dead,.dead,.dead,.dead,.dead,.dead,.dead,.dead,.dead,.dead,.dead,.dead,.dead,.dead,.dead,.dead,.dead,.dead,.dead,.dead,.dead,.dead,.dead,.dead,.dead,.dead,.dead] [(0,Ob.mk false 0 (AObj.row (IV.bytes O))),(1,Ob.mk
 true 0 (AObj.cells [.imm (.ints IntKind.i64 T),.imm (.bytes I),.imm (.sl (3:Nat) X),.imm (.bytes C),.imm (.sl (2:Nat) L),.imm (.bools S),.imm (.bools U)]))] (2:Nat) []) (finK V7e Tryd.f7 K)):=by kernel_rfl
theorem e7_oc (d:List UInt8) (O:List UInt8) (T:List Int) (I:List UInt8) (X:List (List IV)) (C:List UInt8) (L:List (List IV)) (S:List Bool) (U:List Bool) (i:Int) (K:List AV→Prop):loopK V7e (bodyOf Tryd.f7) (2:Nat) (finK V7e Tryd.f7 K) (AX.exit (4:Nat)) (x8c d O T I X C L S U i) = ((O.length:Int)≤big∧(d.length:Int)≤big∧K [.imm (.bool (decide (O = d)))]):=by kernel_rfl
end Z19
set_option maxRecDepth 100000
namespace Z19
open Go Go.AE Go.Proofs D6
theorem tys_map5 (L:List Ty):tys (L.map cellsT) = L:=by
 simp only [tys,List.map_map]
 conv=>rhs; rw [← List.map_id L]
 exact List.map_congr_left fun t _=>rfl
theorem lps_map5 (L:List Lp):lps (L.map cellsL) = L:=by
 simp only [lps,List.map_map]
 conv=>rhs; rw [← List.map_id L]
 exact List.map_congr_left fun t _=>rfl
theorem okT_map5 {L:List Ty} (h:∀ t ∈ L,okTy t):okT (L.map cellsT):=⟨by rw [tys_map5],by rw [tys_map5]; exact h⟩
theorem okL_map5 {L:List Lp} (h:∀ t ∈ L,okLp t):okL (L.map cellsL):=⟨by rw [lps_map5],by rw [lps_map5]; exact h⟩
theorem okLp_of {n:Nat} {l:Lp} (h:inN n l.a∧inN 4 l.c):okLp l:=by
 obtain ⟨h1,h2⟩:=h
 have c2:-2147483648≤l.c∧l.c < 2147483648:=by
  rcases h2 with ⟨_,a,b⟩ | ⟨e,_⟩
  ·exact ⟨a,b⟩
  ·cases e
 refine ⟨?_,?_,c2.1,by omega⟩
 ·rcases h1 with ⟨_,a,b⟩ | ⟨_,a,b⟩ <;> omega
 ·rcases h1 with ⟨_,a,b⟩ | ⟨_,a,b⟩ <;> omega
theorem brn_F {b:Bool} {x y:Prop} (h:b = false) (h2:y):brn b x y:=by rw [h]; exact h2
theorem okB_zero:okB [] [] [] [] [] [] []:=by
 refine ⟨⟨rfl,fun t ht=>by cases ht⟩,⟨rfl,fun t ht=>by cases ht⟩,?_⟩
 decide
theorem u32w_of {n:Nat} (h:(n:Int)≤4294967295):u32w n = (n:Int):=by
 unfold u32w IntKind.wrap
 simp only [IntKind.signed,IntKind.bits,Bool.false_and,Bool.false_eq_true,if_false]
 omega
theorem dec_less {d:List UInt8} {h:Hd} {n:Nat} {at':Int} (hb:(d.length:Int) < sumU h n):decU ⟨d,0,0,0⟩ h n at' = (zB,⟨d,0,1,d.length⟩):=by
 unfold decU fitsD restU
 rw [if_pos rfl,if_pos rfl,if_neg]
 simp only [decide_eq_true_eq]
 omega
theorem dec_three {d:List UInt8} {h:Hd} {n:Nat} {at':Int}:(decU ⟨d,0,0,0⟩ h n at' = (zB,⟨d,0,1,d.length⟩)∧(d.length:Int) < sumU h n)∨(decU ⟨d,0,0,0⟩ h n at' = (zB,⟨d,sumU h n,10,at'⟩)) ∨
  (sumU h n≤d.length∧okD d h n = true∧decU ⟨d,0,0,0⟩ h n at' = (decB d h n,⟨d,sumU h n,0,0⟩)):=by
 by_cases hb:(d.length:Int) < sumU h n
 ·exact .inl ⟨dec_less hb,hb⟩
 ·refine .inr ?_
  have hf:fitsD ⟨d,0,0,0⟩ h n = true:=by
   unfold fitsD restU
   rw [if_pos rfl]
   simp only [decide_eq_true_eq]
   omega
  cases hok:okD d h n with
  | true =>
   refine .inr ⟨by omega,rfl,?_⟩
   unfold decU
   rw [if_pos rfl,if_pos hf]
   have:List.drop (Int.toNat (Cu.p ⟨d,0,0,0⟩)) (Cu.d ⟨d,0,0,0⟩) = d:=rfl
   rw [this,if_pos hok,Int.zero_add]
  | false =>
   refine .inl ?_
   unfold decU
   rw [if_pos rfl,if_pos hf]
   have:List.drop (Int.toNat (Cu.p ⟨d,0,0,0⟩)) (Cu.d ⟨d,0,0,0⟩) = d:=rfl
   rw [this,if_neg (by rw [hok]; decide),Int.zero_add]
theorem dec_facts {d:List UInt8} {v iu is l t ty c:Int} {n:Nat} (hh:okH ⟨v,iu,is,l,t,ty,c⟩) (hn:n = 4∨n = 8) (hD:sumU ⟨v,iu,is,l,t,ty,c⟩ n≤d.length) (hok:okD d ⟨v,iu,is,l,t,ty,c⟩ n = true) (hd:d.length≤2000) (b:Bk) (hb:b = decB d ⟨v,iu,is,l,t,ty,c⟩ n) :
  encB b.T b.I (tys (b.X.map cellsT)) b.C (lps (b.L.map cellsL)) b.S b.U n = d.take (sumU ⟨v,iu,is,l,t,ty,c⟩ n).toNat ∧
  (∀ v',hdOf b.T (b.X.map cellsT) b.C (b.L.map cellsL) b.S b.U v' = ⟨v',iu,is,l,t,ty,c⟩) ∧
  okE b.T b.I (b.X.map cellsT) b.C (b.L.map cellsL) b.S b.U∧okB b.T b.I (b.X.map cellsT) b.C (b.L.map cellsL) b.S b.U:=by
 obtain ⟨h1,h2,h3,h4,h5⟩:=enc_decB hh hn hD hok
 rw [← hb] at h1 h2 h3 h4 h5
 have hs:sz48 (n:Int):=by rcases hn with rfl | rfl; exact .inl rfl; exact .inr rfl
 obtain ⟨q0,q1,q2,q3,q4,q5,q6,q7⟩:=sum_pos hh hs
 obtain ⟨f1,f2,f3,f4,f5,f6,f7⟩:=h2
 have hsum:sumU ⟨v,iu,is,l,t,ty,c⟩ n = l0 ⟨v,iu,is,l,t,ty,c⟩ n + t + 6 * ty + c + l4 ⟨v,iu,is,l,t,ty,c⟩ n + is + iu:=rfl
 have e4:l4 ⟨v,iu,is,l,t,ty,c⟩ n = l * ((n:Int) + 4):=rfl
 have hl8:l≤l4 ⟨v,iu,is,l,t,ty,c⟩ n:=by
  rw [e4]
  have:0≤l:=hh.2.2.1.1
  rcases hn with rfl | rfl <;> omega
 have p1:0≤t:=hh.2.2.2.1.1
 have p2:0≤ty:=hh.2.2.2.2.1.1
 have p3:0≤c:=hh.2.2.2.2.2.1
 have p4:0≤l:=hh.2.2.1.1
 have p5:0≤is:=hh.2.1.1
 have p6:0≤iu:=hh.1.1
 simp only at f1 f2 f3 f4 f5 f6 f7
 have oT:=okT_map5 h4
 have oL:=okL_map5 (L:=b.L) fun t ht=>okLp_of (h5 t ht)
 refine ⟨by rw [tys_map5,lps_map5]; exact h1,fun v'=>?_,⟨oT,oL,?_⟩,⟨oT,oL,?_⟩⟩
 ·unfold hdOf
  rw [List.length_map,List.length_map,u32w_of (by omega),u32w_of (by omega),u32w_of (by omega),u32w_of (by omega),u32w_of (by omega),u32w_of (by omega),← f1,← f3,← f4,← f5,← f6,← f7]
 ·simp only [List.length_map]
  omega
 ·have hbig:big' = 1000000000000:=rfl
  simp only [List.length_map]
  omega
end Z19
set_option maxRecDepth 100000
namespace Z19
open Go Go.AE Go.Proofs D6
attribute [local irreducible] loopK evCode evSpec loopB norm evFunc
theorem loop_det {C:Cx} {c:Code} {σ α:Type} (I:σ→St) (Gd:σ→Prop) (μ:σ→Nat) (P:α→Prop) (r:α→List AV) (k:(List AV→Prop)→AX→St→Prop) (hu:C.rounds = 0)
  (step:∀ s,Gd s→(∃ s' p st1,Gd s'∧μ s' < μ s∧norm p st1 = some (I s')∧∀ K':AX→St→Prop,K' .normal st1→evCode C c (I s) K') ∨
   (∃ x st1,x≠.normal∧(∀ K':AX→St→Prop,K' x st1→evCode C c (I s) K')∧∃ v,P v∧∀ K,K (r v)→k K x st1)) :
  ∀ s,Gd s→∃ v,P v∧∀ K,K (r v)→∀ p st,norm p st = some (I s)→evCode C (.loop c) st (k K):=by
 have key:∀ n s,μ s < n→Gd s→∃ v,P v∧∀ K,K (r v)→∀ p st,norm p st = some (I s)→∃ m,LoopN (evCode C c) (k K) m st:=by
  intro n
  induction n with
  | zero=>intro s h; omega
  | succ n ih =>
   intro s hμ hs
   rcases step s hs with ⟨s',p',st1,hs',hμ',hn',hb⟩ | ⟨x,st1,hx,hb,v,hv,hk⟩
   ·obtain ⟨v,hv,hk⟩:=ih s' (by omega) hs'
    refine ⟨v,hv,fun K hK p st hn=>?_⟩
    obtain ⟨m,hm⟩:=hk K hK p' st1 hn'
    exact ⟨m + 1,p,I s,hn,hb _ hm⟩
   ·refine ⟨v,hv,fun K hK p st hn=>⟨1,p,I s,hn,hb _ ?_⟩⟩
    cases x with
    | normal=>exact absurd rfl hx
    | _=>exact hk K hK
 intro s hs
 obtain ⟨v,hv,hk⟩:=key (μ s + 1) s (by omega) hs
 refine ⟨v,hv,fun K hK p st hn=>?_⟩
 unfold evCode
 simp only [hu]
 exact hk K hK p st hn
theorem brn_T {b:Bool} {x y:Prop} (h:b = true) (hx:x):brn b x y:=by rw [h]; exact hx
theorem w7 {i:Nat} (h:i≤10000000000):IntKind.wrap .i64 ((i:Int) + 1) = ((i + 1:Nat):Int):=by rw [wrap64 (by omega) (by omega)]; rfl
theorem small_big {l:List UInt8} (h:l.length≤1000):(l.length:Int)≤big:=by
 have:big = 4611686018427387904:=rfl
 omega
theorem s7c_det (d:List UInt8) (T:List Int) (X L:List (List IV)) (S U:List Bool) (a n a' n':Nat) (hd:d.length≤1000) (hn:n'≤1000) (D0:List UInt8) :
  ∀ K:List AV→Prop,K [bo true]→∀ p st,norm p st = some (k7c d d T D0 X L S U a n a' n' 0)→evCode V7s (.loop (loopB (bodyOf Tryd.f7) 2)) st (loopK V7s (bodyOf Tryd.f7) 2 (finK V7s Tryd.f7 K)):=by
 refine Exists.elim (loop_det (C:=V7s) (c:=loopB (bodyOf Tryd.f7) 2) (fun s:Nat×List UInt8=>k7c d d T s.2 X L S U a n a' n' (s.1:Int)) (fun s=>s.1≤n') (fun s=>n' - s.1) (fun _:Unit=>True) (fun _=>[bo true])
  (fun K=>loopK V7s (bodyOf Tryd.f7) 2 (finK V7s Tryd.f7 K)) rfl (fun s hs=>?_) (0,D0) (Nat.zero_le _)) (fun v hv=>hv.2)
 obtain ⟨i,D⟩:=s
 have i1:i≤n':=hs
 have hw:=w7 (show i≤10000000000 by omega)
 by_cases h:i < n'
 ·have hz:(i:Int) < (n':Int):=by omega
  have i0:(0:Int)≤(i:Int):=by omega
  refine .inl ⟨(i + 1,D.set (a' + Int.toNat (i:Int)) (u8 (IntKind.wrap .u8 ((List.getD D (a' + Int.toNat (i:Int)) 0).toNat + 1)))),q7c,_,by show i + 1≤n'; omega,by show n' - (i + 1) < n' - i; omega,?_,fun K' hK'=>by
   show evCode V7s (loopB (bodyOf Tryd.f7) 2) (k7c d d T D X L S U a n a' n' (i:Int)) K'
   rw [s7_lc,hw]
   intro A4
   have h4:A4:=⟨i0,hz,hK'⟩
   exact brn_T (decide_eq_true hz) ⟨⟨i0,hz,h4⟩,i0,hz,h4⟩⟩
  kernel_rfl
 ·have hz:¬ (i:Int) < (n':Int):=by omega
  refine .inr ⟨.exit 4,_,by simp,fun K' hK'=>by
   show evCode V7s (loopB (bodyOf Tryd.f7) 2) (k7c d d T D X L S U a n a' n' (i:Int)) K'
   rw [s7_lc]
   intro A4
   exact brn_F (decide_eq_false hz) hK',(),trivial,fun K hK=>?_⟩
  refine Eq.mp (by kernel_rfl) (Eq.mpr (s7_oc d d T D X L S U a n a' n' (i:Int) K) ⟨small_big hd,small_big hd,?_⟩)
  rw [decide_eq_true rfl]
  exact hK
theorem s7b_det (d:List UInt8) (T:List Int) (X L:List (List IV)) (S U:List Bool) (a n a' n':Nat) (hd:d.length≤1000) (hn0:n≤1000) (hn:n'≤1000) (D0:List UInt8) :
  ∀ K:List AV→Prop,K [bo true]→∀ p st,norm p st = some (k7b d d T D0 X L S U a n a' n' 0)→evCode V7s (.loop (loopB (bodyOf Tryd.f7) 1)) st (loopK V7s (bodyOf Tryd.f7) 1 (finK V7s Tryd.f7 K)):=by
 refine Exists.elim (loop_det (C:=V7s) (c:=loopB (bodyOf Tryd.f7) 1) (fun s:Nat×List UInt8=>k7b d d T s.2 X L S U a n a' n' (s.1:Int)) (fun s=>s.1≤n) (fun s=>n - s.1) (fun _:Unit=>True) (fun _=>[bo true])
  (fun K=>loopK V7s (bodyOf Tryd.f7) 1 (finK V7s Tryd.f7 K)) rfl (fun s hs=>?_) (0,D0) (Nat.zero_le _)) (fun v hv=>hv.2)
 obtain ⟨i,D⟩:=s
 have i1:i≤n:=hs
 have hw:=w7 (show i≤10000000000 by omega)
 by_cases h:i < n
 ·have hz:(i:Int) < (n:Int):=by omega
  have i0:(0:Int)≤(i:Int):=by omega
  refine .inl ⟨(i + 1,D.set (a + Int.toNat (i:Int)) (u8 (IntKind.wrap .u8 ((List.getD D (a + Int.toNat (i:Int)) 0).toNat + 1)))),q7b,_,by show i + 1≤n; omega,by show n - (i + 1) < n - i; omega,?_,fun K' hK'=>by
   show evCode V7s (loopB (bodyOf Tryd.f7) 1) (k7b d d T D X L S U a n a' n' (i:Int)) K'
   rw [s7_lb,hw]
   intro A4
   have h4:A4:=⟨i0,hz,hK'⟩
   exact brn_T (decide_eq_true hz) ⟨⟨i0,hz,h4⟩,i0,hz,h4⟩⟩
  kernel_rfl
 ·have hz:¬ (i:Int) < (n:Int):=by omega
  refine .inr ⟨.exit 2,_,by simp,fun K' hK'=>by
   show evCode V7s (loopB (bodyOf Tryd.f7) 1) (k7b d d T D X L S U a n a' n' (i:Int)) K'
   rw [s7_lb]
   intro A4
   exact brn_F (decide_eq_false hz) hK',(),trivial,fun K hK=>?_⟩
  have key:=s7c_det d T X L S U a n a' n' hd hn D K hK
  refine Eq.mp (by kernel_rfl) (Eq.mpr (s7_ob d d T D X L S U a n a' n' (i:Int) K) ?_)
  unfold LoopI
  exact key q7c _ (by kernel_rfl)
theorem sameK_same (T:List Int) (I:List UInt8) (X:List (List IV)) (C:List UInt8) (L:List (List IV)) (S U:List Bool):sameK T I X C L S U T I X C L S U = true:=by
 unfold sameK; simp
theorem SV_ok:∀ f args pres rs os,SV f args = some (pres,rs,os)→SpecV Tryd.prog G16 f args pres rs os:=by
 intro f args pres rs os h
 unfold SV at h
 cases hb:Nat.beq 12 f with
 | false=>rw [hb,cond_false] at h; cases h
 | true =>
  obtain rfl:=nbeq hb
  rw [hb,cond_true] at h
  unfold sv12 at h
  split at h
  case h_2=>cases h
  cases h
  exact ok12v _ _ _ _ _ _ _ _ _
theorem okF8s:EOK Tryd.prog F8s G16:=addE_ok (addE_ok okF3 ok21) ok8
theorem okC7:CallOK V7s:=callV_ok (C:=V7s) SV_ok
theorem s7a_det (d:List UInt8) (v iu is l t ty c s:Int) (hd:d.length≤1000) (F:Fit d ⟨v,iu,is,l,t,ty,c⟩ s) (hk:okD d ⟨v,iu,is,l,t,ty,c⟩ s = true) (hB:okB (decI (pc (dD d ⟨v,iu,is,l,t,ty,c⟩ s) (0) (o1 ⟨v,iu,is,l,t,ty,c⟩ s)) s.toNat (((pc (dD d ⟨v,iu,is,l,t,ty,c⟩ s) (0) (o1 ⟨v,iu,is,l,t,ty,c⟩ s))).length / s.toNat)) (pc (dD d ⟨v,iu,is,l,t,ty,c⟩ s) (o1 ⟨v,iu,is,l,t,ty,c⟩ s) (o2 ⟨v,iu,is,l,t,ty,c⟩ s)) ((dec (pc (dD d ⟨v,iu,is,l,t,ty,c⟩ s) (o2 ⟨v,iu,is,l,t,ty,c⟩ s) (o3 ⟨v,iu,is,l,t,ty,c⟩ s))).map cellsT) (pc (dD d ⟨v,iu,is,l,t,ty,c⟩ s) (o3 ⟨v,iu,is,l,t,ty,c⟩ s) (o4 ⟨v,iu,is,l,t,ty,c⟩ s)) ((decL (pc (dD d ⟨v,iu,is,l,t,ty,c⟩ s) (o4 ⟨v,iu,is,l,t,ty,c⟩ s) (o5 ⟨v,iu,is,l,t,ty,c⟩ s)) s.toNat (((pc (dD d ⟨v,iu,is,l,t,ty,c⟩ s) (o4 ⟨v,iu,is,l,t,ty,c⟩ s) (o5 ⟨v,iu,is,l,t,ty,c⟩ s))).length / (s.toNat + 4))).map cellsL) (decO (pc (dD d ⟨v,iu,is,l,t,ty,c⟩ s) (o5 ⟨v,iu,is,l,t,ty,c⟩ s) (o6 ⟨v,iu,is,l,t,ty,c⟩ s))) (decO (pc (dD d ⟨v,iu,is,l,t,ty,c⟩ s) (o6 ⟨v,iu,is,l,t,ty,c⟩ s) (o7 ⟨v,iu,is,l,t,ty,c⟩ s)))) (E0:List UInt8) (hE:E0.length≤1000) :
  ∀ K:List AV→Prop,K [bo true]→∀ p st,norm p st = some (k7a d v iu is l t ty c s d E0 (decI (pc (dD d ⟨v,iu,is,l,t,ty,c⟩ s) (0) (o1 ⟨v,iu,is,l,t,ty,c⟩ s)) s.toNat (((pc (dD d ⟨v,iu,is,l,t,ty,c⟩ s) (0) (o1 ⟨v,iu,is,l,t,ty,c⟩ s))).length / s.toNat)) (dD d ⟨v,iu,is,l,t,ty,c⟩ s) ((dec (pc (dD d ⟨v,iu,is,l,t,ty,c⟩ s) (o2 ⟨v,iu,is,l,t,ty,c⟩ s) (o3 ⟨v,iu,is,l,t,ty,c⟩ s))).map cellsT) ((decL (pc (dD d ⟨v,iu,is,l,t,ty,c⟩ s) (o4 ⟨v,iu,is,l,t,ty,c⟩ s) (o5 ⟨v,iu,is,l,t,ty,c⟩ s)) s.toNat (((pc (dD d ⟨v,iu,is,l,t,ty,c⟩ s) (o4 ⟨v,iu,is,l,t,ty,c⟩ s) (o5 ⟨v,iu,is,l,t,ty,c⟩ s))).length / (s.toNat + 4))).map cellsL) (decO (pc (dD d ⟨v,iu,is,l,t,ty,c⟩ s) (o5 ⟨v,iu,is,l,t,ty,c⟩ s) (o6 ⟨v,iu,is,l,t,ty,c⟩ s))) (decO (pc (dD d ⟨v,iu,is,l,t,ty,c⟩ s) (o6 ⟨v,iu,is,l,t,ty,c⟩ s) (o7 ⟨v,iu,is,l,t,ty,c⟩ s))) ((o1 ⟨v,iu,is,l,t,ty,c⟩ s).toNat) ((o2 ⟨v,iu,is,l,t,ty,c⟩ s).toNat - (o1 ⟨v,iu,is,l,t,ty,c⟩ s).toNat) ((o3 ⟨v,iu,is,l,t,ty,c⟩ s).toNat) ((o4 ⟨v,iu,is,l,t,ty,c⟩ s).toNat - (o3 ⟨v,iu,is,l,t,ty,c⟩ s).toNat) 0)→evCode V7s (.loop (loopB (bodyOf Tryd.f7) 0)) st (loopK V7s (bodyOf Tryd.f7) 0 (finK V7s Tryd.f7 K)):=by
 have hu:=F.hu
 have hh:=F.hh
 have hs:=F.hs
 have hf:fitsD ⟨d,0,0,0⟩ ⟨v,iu,is,l,t,ty,c⟩ s = true:=by
  have:=F.le
  unfold fitsD restU
  simpa using this
 have g1:=F.g1
 have g2:=F.k1
 have g3:=F.k2
 have g4:=F.k3
 have g5:=F.k4
 have g6:=F.k5
 have g7:=F.k6
 have g8:=F.k7
 have g9:=F.le
 have n1:(o2 ⟨v,iu,is,l,t,ty,c⟩ s).toNat - (o1 ⟨v,iu,is,l,t,ty,c⟩ s).toNat≤1000:=by omega
 have n2:(o4 ⟨v,iu,is,l,t,ty,c⟩ s).toNat - (o3 ⟨v,iu,is,l,t,ty,c⟩ s).toNat≤1000:=by omega
 refine Exists.elim (loop_det (C:=V7s) (c:=loopB (bodyOf Tryd.f7) 0) (fun q:Nat×List UInt8=>k7a d v iu is l t ty c s d q.2 (decI (pc (dD d ⟨v,iu,is,l,t,ty,c⟩ s) (0) (o1 ⟨v,iu,is,l,t,ty,c⟩ s)) s.toNat (((pc (dD d ⟨v,iu,is,l,t,ty,c⟩ s) (0) (o1 ⟨v,iu,is,l,t,ty,c⟩ s))).length / s.toNat)) (dD d ⟨v,iu,is,l,t,ty,c⟩ s) ((dec (pc (dD d ⟨v,iu,is,l,t,ty,c⟩ s) (o2 ⟨v,iu,is,l,t,ty,c⟩ s) (o3 ⟨v,iu,is,l,t,ty,c⟩ s))).map cellsT) ((decL (pc (dD d ⟨v,iu,is,l,t,ty,c⟩ s) (o4 ⟨v,iu,is,l,t,ty,c⟩ s) (o5 ⟨v,iu,is,l,t,ty,c⟩ s)) s.toNat (((pc (dD d ⟨v,iu,is,l,t,ty,c⟩ s) (o4 ⟨v,iu,is,l,t,ty,c⟩ s) (o5 ⟨v,iu,is,l,t,ty,c⟩ s))).length / (s.toNat + 4))).map cellsL) (decO (pc (dD d ⟨v,iu,is,l,t,ty,c⟩ s) (o5 ⟨v,iu,is,l,t,ty,c⟩ s) (o6 ⟨v,iu,is,l,t,ty,c⟩ s))) (decO (pc (dD d ⟨v,iu,is,l,t,ty,c⟩ s) (o6 ⟨v,iu,is,l,t,ty,c⟩ s) (o7 ⟨v,iu,is,l,t,ty,c⟩ s))) ((o1 ⟨v,iu,is,l,t,ty,c⟩ s).toNat) ((o2 ⟨v,iu,is,l,t,ty,c⟩ s).toNat - (o1 ⟨v,iu,is,l,t,ty,c⟩ s).toNat) ((o3 ⟨v,iu,is,l,t,ty,c⟩ s).toNat) ((o4 ⟨v,iu,is,l,t,ty,c⟩ s).toNat - (o3 ⟨v,iu,is,l,t,ty,c⟩ s).toNat) (q.1:Int)) (fun q=>q.1≤q.2.length∧q.2.length≤1000) (fun q=>q.2.length - q.1) (fun _:Unit=>True) (fun _=>[bo true])
  (fun K=>loopK V7s (bodyOf Tryd.f7) 0 (finK V7s Tryd.f7 K)) rfl (fun q hq=>?_) (0,E0) ⟨Nat.zero_le _,hE⟩) (fun v hv=>hv.2)
 obtain ⟨i,E⟩:=q
 obtain ⟨i1,i2⟩:=hq
 have i1:i≤E.length:=i1
 have i2:E.length≤1000:=i2
 have hw:=w7 (show i≤10000000000 by omega)
 by_cases h:i < E.length
 ·have hz:(i:Int) < (E.length:Int):=by omega
  have i0:(0:Int)≤(i:Int):=by omega
  refine .inl ⟨(i + 1,E.set (Int.toNat (i:Int)) (u8 (IntKind.wrap .u8 ((List.getD E (Int.toNat (i:Int)) 0).toNat + 1)))),q7a,_,⟨by show i + 1≤(E.set _ _).length; rw [List.length_set]; omega,by show (E.set _ _).length≤1000; rw [List.length_set]; exact i2⟩,by show (E.set _ _).length - (i + 1) < E.length - i; rw [List.length_set]; omega,?_,fun K' hK'=>by
   show evCode V7s (loopB (bodyOf Tryd.f7) 0) (k7a d v iu is l t ty c s d E (decI (pc (dD d ⟨v,iu,is,l,t,ty,c⟩ s) (0) (o1 ⟨v,iu,is,l,t,ty,c⟩ s)) s.toNat (((pc (dD d ⟨v,iu,is,l,t,ty,c⟩ s) (0) (o1 ⟨v,iu,is,l,t,ty,c⟩ s))).length / s.toNat)) (dD d ⟨v,iu,is,l,t,ty,c⟩ s) ((dec (pc (dD d ⟨v,iu,is,l,t,ty,c⟩ s) (o2 ⟨v,iu,is,l,t,ty,c⟩ s) (o3 ⟨v,iu,is,l,t,ty,c⟩ s))).map cellsT) ((decL (pc (dD d ⟨v,iu,is,l,t,ty,c⟩ s) (o4 ⟨v,iu,is,l,t,ty,c⟩ s) (o5 ⟨v,iu,is,l,t,ty,c⟩ s)) s.toNat (((pc (dD d ⟨v,iu,is,l,t,ty,c⟩ s) (o4 ⟨v,iu,is,l,t,ty,c⟩ s) (o5 ⟨v,iu,is,l,t,ty,c⟩ s))).length / (s.toNat + 4))).map cellsL) (decO (pc (dD d ⟨v,iu,is,l,t,ty,c⟩ s) (o5 ⟨v,iu,is,l,t,ty,c⟩ s) (o6 ⟨v,iu,is,l,t,ty,c⟩ s))) (decO (pc (dD d ⟨v,iu,is,l,t,ty,c⟩ s) (o6 ⟨v,iu,is,l,t,ty,c⟩ s) (o7 ⟨v,iu,is,l,t,ty,c⟩ s))) ((o1 ⟨v,iu,is,l,t,ty,c⟩ s).toNat) ((o2 ⟨v,iu,is,l,t,ty,c⟩ s).toNat - (o1 ⟨v,iu,is,l,t,ty,c⟩ s).toNat) ((o3 ⟨v,iu,is,l,t,ty,c⟩ s).toNat) ((o4 ⟨v,iu,is,l,t,ty,c⟩ s).toNat - (o3 ⟨v,iu,is,l,t,ty,c⟩ s).toNat) (i:Int)) K'
   rw [s7_lp,hw]
   exact brn_T (decide_eq_true hz) ⟨i0,hz,i0,hz,hK'⟩⟩
  kernel_rfl
 ·have hz:¬ (i:Int) < (E.length:Int):=by omega
  refine .inr ⟨.exit 0,_,by simp,fun K' hK'=>by
   show evCode V7s (loopB (bodyOf Tryd.f7) 0) (k7a d v iu is l t ty c s d E (decI (pc (dD d ⟨v,iu,is,l,t,ty,c⟩ s) (0) (o1 ⟨v,iu,is,l,t,ty,c⟩ s)) s.toNat (((pc (dD d ⟨v,iu,is,l,t,ty,c⟩ s) (0) (o1 ⟨v,iu,is,l,t,ty,c⟩ s))).length / s.toNat)) (dD d ⟨v,iu,is,l,t,ty,c⟩ s) ((dec (pc (dD d ⟨v,iu,is,l,t,ty,c⟩ s) (o2 ⟨v,iu,is,l,t,ty,c⟩ s) (o3 ⟨v,iu,is,l,t,ty,c⟩ s))).map cellsT) ((decL (pc (dD d ⟨v,iu,is,l,t,ty,c⟩ s) (o4 ⟨v,iu,is,l,t,ty,c⟩ s) (o5 ⟨v,iu,is,l,t,ty,c⟩ s)) s.toNat (((pc (dD d ⟨v,iu,is,l,t,ty,c⟩ s) (o4 ⟨v,iu,is,l,t,ty,c⟩ s) (o5 ⟨v,iu,is,l,t,ty,c⟩ s))).length / (s.toNat + 4))).map cellsL) (decO (pc (dD d ⟨v,iu,is,l,t,ty,c⟩ s) (o5 ⟨v,iu,is,l,t,ty,c⟩ s) (o6 ⟨v,iu,is,l,t,ty,c⟩ s))) (decO (pc (dD d ⟨v,iu,is,l,t,ty,c⟩ s) (o6 ⟨v,iu,is,l,t,ty,c⟩ s) (o7 ⟨v,iu,is,l,t,ty,c⟩ s))) ((o1 ⟨v,iu,is,l,t,ty,c⟩ s).toNat) ((o2 ⟨v,iu,is,l,t,ty,c⟩ s).toNat - (o1 ⟨v,iu,is,l,t,ty,c⟩ s).toNat) ((o3 ⟨v,iu,is,l,t,ty,c⟩ s).toNat) ((o4 ⟨v,iu,is,l,t,ty,c⟩ s).toNat - (o3 ⟨v,iu,is,l,t,ty,c⟩ s).toNat) (i:Int)) K'
   rw [s7_lp]
   exact brn_F (decide_eq_false hz) hK',(),trivial,fun K hK=>?_⟩
  have key:=s7b_det d (decI (pc (dD d ⟨v,iu,is,l,t,ty,c⟩ s) (0) (o1 ⟨v,iu,is,l,t,ty,c⟩ s)) s.toNat (((pc (dD d ⟨v,iu,is,l,t,ty,c⟩ s) (0) (o1 ⟨v,iu,is,l,t,ty,c⟩ s))).length / s.toNat)) ((dec (pc (dD d ⟨v,iu,is,l,t,ty,c⟩ s) (o2 ⟨v,iu,is,l,t,ty,c⟩ s) (o3 ⟨v,iu,is,l,t,ty,c⟩ s))).map cellsT) ((decL (pc (dD d ⟨v,iu,is,l,t,ty,c⟩ s) (o4 ⟨v,iu,is,l,t,ty,c⟩ s) (o5 ⟨v,iu,is,l,t,ty,c⟩ s)) s.toNat (((pc (dD d ⟨v,iu,is,l,t,ty,c⟩ s) (o4 ⟨v,iu,is,l,t,ty,c⟩ s) (o5 ⟨v,iu,is,l,t,ty,c⟩ s))).length / (s.toNat + 4))).map cellsL) (decO (pc (dD d ⟨v,iu,is,l,t,ty,c⟩ s) (o5 ⟨v,iu,is,l,t,ty,c⟩ s) (o6 ⟨v,iu,is,l,t,ty,c⟩ s))) (decO (pc (dD d ⟨v,iu,is,l,t,ty,c⟩ s) (o6 ⟨v,iu,is,l,t,ty,c⟩ s) (o7 ⟨v,iu,is,l,t,ty,c⟩ s))) ((o1 ⟨v,iu,is,l,t,ty,c⟩ s).toNat) ((o2 ⟨v,iu,is,l,t,ty,c⟩ s).toNat - (o1 ⟨v,iu,is,l,t,ty,c⟩ s).toNat) ((o3 ⟨v,iu,is,l,t,ty,c⟩ s).toNat) ((o4 ⟨v,iu,is,l,t,ty,c⟩ s).toNat - (o3 ⟨v,iu,is,l,t,ty,c⟩ s).toNat) hd n1 n2 (dD d ⟨v,iu,is,l,t,ty,c⟩ s) K hK
  refine Eq.mp (by kernel_rfl) (Eq.mpr (s7_out d v iu is l t ty c s d E (decI (pc (dD d ⟨v,iu,is,l,t,ty,c⟩ s) (0) (o1 ⟨v,iu,is,l,t,ty,c⟩ s)) s.toNat (((pc (dD d ⟨v,iu,is,l,t,ty,c⟩ s) (0) (o1 ⟨v,iu,is,l,t,ty,c⟩ s))).length / s.toNat)) (dD d ⟨v,iu,is,l,t,ty,c⟩ s) ((dec (pc (dD d ⟨v,iu,is,l,t,ty,c⟩ s) (o2 ⟨v,iu,is,l,t,ty,c⟩ s) (o3 ⟨v,iu,is,l,t,ty,c⟩ s))).map cellsT) ((decL (pc (dD d ⟨v,iu,is,l,t,ty,c⟩ s) (o4 ⟨v,iu,is,l,t,ty,c⟩ s) (o5 ⟨v,iu,is,l,t,ty,c⟩ s)) s.toNat (((pc (dD d ⟨v,iu,is,l,t,ty,c⟩ s) (o4 ⟨v,iu,is,l,t,ty,c⟩ s) (o5 ⟨v,iu,is,l,t,ty,c⟩ s))).length / (s.toNat + 4))).map cellsL) (decO (pc (dD d ⟨v,iu,is,l,t,ty,c⟩ s) (o5 ⟨v,iu,is,l,t,ty,c⟩ s) (o6 ⟨v,iu,is,l,t,ty,c⟩ s))) (decO (pc (dD d ⟨v,iu,is,l,t,ty,c⟩ s) (o6 ⟨v,iu,is,l,t,ty,c⟩ s) (o7 ⟨v,iu,is,l,t,ty,c⟩ s))) ((o1 ⟨v,iu,is,l,t,ty,c⟩ s).toNat) ((o2 ⟨v,iu,is,l,t,ty,c⟩ s).toNat - (o1 ⟨v,iu,is,l,t,ty,c⟩ s).toNat) ((o3 ⟨v,iu,is,l,t,ty,c⟩ s).toNat) ((o4 ⟨v,iu,is,l,t,ty,c⟩ s).toNat - (o3 ⟨v,iu,is,l,t,ty,c⟩ s).toNat) (i:Int) K) ?_)
  intro A3 A5 A6 A7 A9 A10 A11 A12 A14 A15 A17 A18 A20 A21 A22 A23 A32 A33 A34 A36 A38 A44 A45 A51 A52 A54 A55 A56 A58 A60 A66 A67 A73 A74 A75 A77 A78 A79 A80
  have a3:A3:=by
   refine ⟨hB,hB,brn_F ?_ ?_⟩
   ·exact (congrArg (fun b=>!b) (sameK_same _ _ _ _ _ _ _)).trans rfl
   ·unfold LoopI
    exact key q7j _ (by kernel_rfl)
  have a5:A5:=a3
  have a6:A6:=a5
  have a7:A7:=a6
  have a9:A9:=a3
  have a10:A10:=a9
  have a11:A11:=a10
  have a12:A12:=⟨a7,a11⟩
  have a14:A14:=⟨a6,a5⟩
  have a15:A15:=⟨a7,a14⟩
  have a17:A17:=⟨a10,a9⟩
  have a18:A18:=⟨a11,a17⟩
  have a20:A20:=a6
  have a21:A21:=⟨a7,a20⟩
  have a22:A22:=a10
  have a23:A23:=⟨a11,a22⟩
  have a32:A32:=a3
  have a33:A33:=a32
  have a34:A34:=a33
  have a36:A36:=⟨a33,a32⟩
  have a38:A38:=a33
  have a44:A44:=a3
  have a45:A45:=a44
  have a51:A51:=⟨hu,hh,hs,hf,hk,⟨a45,a44⟩,a45⟩
  have a52:A52:=⟨⟨hu,hh,hs,hf,hk,⟨a34,a36⟩,⟨a34,a38⟩,a36,a38⟩,a51⟩
  have a54:A54:=a3
  have a55:A55:=a54
  have a56:A56:=a55
  have a58:A58:=⟨a55,a54⟩
  have a60:A60:=a55
  have a66:A66:=a3
  have a67:A67:=a66
  have a73:A73:=⟨hu,hh,hs,hf,hk,⟨a67,a66⟩,a67⟩
  have a74:A74:=⟨⟨hu,hh,hs,hf,hk,⟨a56,a58⟩,⟨a56,a60⟩,a58,a60⟩,a73⟩
  have a75:A75:=⟨⟨hu,hh,hs,hf,hk,⟨a12,a15,a18⟩,⟨a12,a21,a23⟩,⟨a15,a21,a14,a20⟩,a18,a23,a17,a22⟩,a52,a74⟩
  have a77:A77:=a51
  have a78:A78:=⟨a52,a77⟩
  have a79:A79:=a73
  have a80:A80:=⟨a74,a79⟩
  exact ⟨a75,⟨a75,a78,a80⟩,⟨a52,a78,a51,a77⟩,a74,a80,a73,a79⟩
theorem s7_ev (d:List UInt8) (v iu is l t ty c:Int) (w:Bool) (hh:okH ⟨v,iu,is,l,t,ty,c⟩) (hd:d.length≤1000) (n:Nat) (hn:n = 4∨n = 8) (hsw:(if w = true then (8:Int) else 4) = (n:Int)) (hle:sumU ⟨v,iu,is,l,t,ty,c⟩ n≤d.length) (hk:okD d ⟨v,iu,is,l,t,ty,c⟩ n = true) (K:List AV→Prop) (hK:K [bo true]):evSpec V7s Tryd.f7 [by' d,hdAV v iu is l t ty c,bo w] K:=by
 refine Eq.mpr (s7_in d v iu is l t ty c w K) ?_
 rw [hsw]
 have hu:okU ⟨d,0,0,0⟩:=⟨Int.le_refl 0,Int.natCast_nonneg _,by show (d.length:Int)≤_; omega⟩
 have hs:sz48 (n:Int):=by rcases hn with rfl | rfl; exact .inl rfl; exact .inr rfl
 have hf:fitsD ⟨d,0,0,0⟩ ⟨v,iu,is,l,t,ty,c⟩ n = true:=by
  unfold fitsD restU
  simpa using hle
 have F:=fit hu hh hs hf
 obtain ⟨g1,g2,g3,g4⟩:=dec_facts hh hn hle hk (by omega) (decB d ⟨v,iu,is,l,t,ty,c⟩ n) rfl
 generalize hsn:(n:Int) = s at *
 have hE:okE (decI (pc (dD d ⟨v,iu,is,l,t,ty,c⟩ s) (0) (o1 ⟨v,iu,is,l,t,ty,c⟩ s)) s.toNat (((pc (dD d ⟨v,iu,is,l,t,ty,c⟩ s) (0) (o1 ⟨v,iu,is,l,t,ty,c⟩ s))).length / s.toNat)) (pc (dD d ⟨v,iu,is,l,t,ty,c⟩ s) (o1 ⟨v,iu,is,l,t,ty,c⟩ s) (o2 ⟨v,iu,is,l,t,ty,c⟩ s)) ((dec (pc (dD d ⟨v,iu,is,l,t,ty,c⟩ s) (o2 ⟨v,iu,is,l,t,ty,c⟩ s) (o3 ⟨v,iu,is,l,t,ty,c⟩ s))).map cellsT) (pc (dD d ⟨v,iu,is,l,t,ty,c⟩ s) (o3 ⟨v,iu,is,l,t,ty,c⟩ s) (o4 ⟨v,iu,is,l,t,ty,c⟩ s)) ((decL (pc (dD d ⟨v,iu,is,l,t,ty,c⟩ s) (o4 ⟨v,iu,is,l,t,ty,c⟩ s) (o5 ⟨v,iu,is,l,t,ty,c⟩ s)) s.toNat (((pc (dD d ⟨v,iu,is,l,t,ty,c⟩ s) (o4 ⟨v,iu,is,l,t,ty,c⟩ s) (o5 ⟨v,iu,is,l,t,ty,c⟩ s))).length / (s.toNat + 4))).map cellsL) (decO (pc (dD d ⟨v,iu,is,l,t,ty,c⟩ s) (o5 ⟨v,iu,is,l,t,ty,c⟩ s) (o6 ⟨v,iu,is,l,t,ty,c⟩ s))) (decO (pc (dD d ⟨v,iu,is,l,t,ty,c⟩ s) (o6 ⟨v,iu,is,l,t,ty,c⟩ s) (o7 ⟨v,iu,is,l,t,ty,c⟩ s))):=by
  rw [F.p0,F.p1,F.p2,F.p3,F.p4,F.p5,F.p6]; exact g3
 have hB:okB (decI (pc (dD d ⟨v,iu,is,l,t,ty,c⟩ s) (0) (o1 ⟨v,iu,is,l,t,ty,c⟩ s)) s.toNat (((pc (dD d ⟨v,iu,is,l,t,ty,c⟩ s) (0) (o1 ⟨v,iu,is,l,t,ty,c⟩ s))).length / s.toNat)) (pc (dD d ⟨v,iu,is,l,t,ty,c⟩ s) (o1 ⟨v,iu,is,l,t,ty,c⟩ s) (o2 ⟨v,iu,is,l,t,ty,c⟩ s)) ((dec (pc (dD d ⟨v,iu,is,l,t,ty,c⟩ s) (o2 ⟨v,iu,is,l,t,ty,c⟩ s) (o3 ⟨v,iu,is,l,t,ty,c⟩ s))).map cellsT) (pc (dD d ⟨v,iu,is,l,t,ty,c⟩ s) (o3 ⟨v,iu,is,l,t,ty,c⟩ s) (o4 ⟨v,iu,is,l,t,ty,c⟩ s)) ((decL (pc (dD d ⟨v,iu,is,l,t,ty,c⟩ s) (o4 ⟨v,iu,is,l,t,ty,c⟩ s) (o5 ⟨v,iu,is,l,t,ty,c⟩ s)) s.toNat (((pc (dD d ⟨v,iu,is,l,t,ty,c⟩ s) (o4 ⟨v,iu,is,l,t,ty,c⟩ s) (o5 ⟨v,iu,is,l,t,ty,c⟩ s))).length / (s.toNat + 4))).map cellsL) (decO (pc (dD d ⟨v,iu,is,l,t,ty,c⟩ s) (o5 ⟨v,iu,is,l,t,ty,c⟩ s) (o6 ⟨v,iu,is,l,t,ty,c⟩ s))) (decO (pc (dD d ⟨v,iu,is,l,t,ty,c⟩ s) (o6 ⟨v,iu,is,l,t,ty,c⟩ s) (o7 ⟨v,iu,is,l,t,ty,c⟩ s))):=by
  rw [F.p0,F.p1,F.p2,F.p3,F.p4,F.p5,F.p6]; exact g4
 intro Q1
 have hQ:Q1.length≤1000:=by
  have e:Q1 = d.take (sumU ⟨v,iu,is,l,t,ty,c⟩ s).toNat:=by
   have e0:Q1 = encB (decI (pc (dD d ⟨v,iu,is,l,t,ty,c⟩ s) (0) (o1 ⟨v,iu,is,l,t,ty,c⟩ s)) s.toNat (((pc (dD d ⟨v,iu,is,l,t,ty,c⟩ s) (0) (o1 ⟨v,iu,is,l,t,ty,c⟩ s))).length / s.toNat)) (pc (dD d ⟨v,iu,is,l,t,ty,c⟩ s) (o1 ⟨v,iu,is,l,t,ty,c⟩ s) (o2 ⟨v,iu,is,l,t,ty,c⟩ s)) (tys ((dec (pc (dD d ⟨v,iu,is,l,t,ty,c⟩ s) (o2 ⟨v,iu,is,l,t,ty,c⟩ s) (o3 ⟨v,iu,is,l,t,ty,c⟩ s))).map cellsT)) (pc (dD d ⟨v,iu,is,l,t,ty,c⟩ s) (o3 ⟨v,iu,is,l,t,ty,c⟩ s) (o4 ⟨v,iu,is,l,t,ty,c⟩ s)) (lps ((decL (pc (dD d ⟨v,iu,is,l,t,ty,c⟩ s) (o4 ⟨v,iu,is,l,t,ty,c⟩ s) (o5 ⟨v,iu,is,l,t,ty,c⟩ s)) s.toNat (((pc (dD d ⟨v,iu,is,l,t,ty,c⟩ s) (o4 ⟨v,iu,is,l,t,ty,c⟩ s) (o5 ⟨v,iu,is,l,t,ty,c⟩ s))).length / (s.toNat + 4))).map cellsL)) (decO (pc (dD d ⟨v,iu,is,l,t,ty,c⟩ s) (o5 ⟨v,iu,is,l,t,ty,c⟩ s) (o6 ⟨v,iu,is,l,t,ty,c⟩ s))) (decO (pc (dD d ⟨v,iu,is,l,t,ty,c⟩ s) (o6 ⟨v,iu,is,l,t,ty,c⟩ s) (o7 ⟨v,iu,is,l,t,ty,c⟩ s))) s.toNat:=rfl
   rw [e0,F.p0,F.p1,F.p2,F.p3,F.p4,F.p5,F.p6,← hsn,Int.toNat_natCast]
   rw [← hsn] at g1
   exact g1
  rw [e,List.length_take]; omega
 clear_value Q1
 intro A3 A5 A6 A7 A9 A10 A11 A12 A14 A15 A17 A18 A20 A21 A22 A23 A32 A33 A34 A36 A38 A44 A45 A51 A52 A54 A55 A56 A58 A60 A66 A67 A73 A74 A75 A77 A78 A79 A80
 refine brn_intro (fun _=>hK) (fun _=>?_)
 have a3:A3:=by
  refine ⟨hE,hs,trivial,?_⟩
  unfold LoopI
  exact s7a_det d v iu is l t ty c s hd F hk hB Q1 hQ K hK q7i _ (by kernel_rfl)
 have a5:A5:=a3
 have a6:A6:=a5
 have a7:A7:=a6
 have a9:A9:=a3
 have a10:A10:=a9
 have a11:A11:=a10
 have a12:A12:=⟨a7,a11⟩
 have a14:A14:=⟨a6,a5⟩
 have a15:A15:=⟨a7,a14⟩
 have a17:A17:=⟨a10,a9⟩
 have a18:A18:=⟨a11,a17⟩
 have a20:A20:=a6
 have a21:A21:=⟨a7,a20⟩
 have a22:A22:=a10
 have a23:A23:=⟨a11,a22⟩
 have a32:A32:=a3
 have a33:A33:=a32
 have a34:A34:=a33
 have a36:A36:=⟨a33,a32⟩
 have a38:A38:=a33
 have a44:A44:=a3
 have a45:A45:=a44
 have a51:A51:=⟨hu,hh,hs,hf,hk,⟨a45,a44⟩,a45⟩
 have a52:A52:=⟨⟨hu,hh,hs,hf,hk,⟨a34,a36⟩,⟨a34,a38⟩,a36,a38⟩,a51⟩
 have a54:A54:=a3
 have a55:A55:=a54
 have a56:A56:=a55
 have a58:A58:=⟨a55,a54⟩
 have a60:A60:=a55
 have a66:A66:=a3
 have a67:A67:=a66
 have a73:A73:=⟨hu,hh,hs,hf,hk,⟨a67,a66⟩,a67⟩
 have a74:A74:=⟨⟨hu,hh,hs,hf,hk,⟨a56,a58⟩,⟨a56,a60⟩,a58,a60⟩,a73⟩
 have a75:A75:=⟨⟨hu,hh,hs,hf,hk,⟨a12,a15,a18⟩,⟨a12,a21,a23⟩,⟨a15,a21,a14,a20⟩,a18,a23,a17,a22⟩,a52,a74⟩
 have a77:A77:=a51
 have a78:A78:=⟨a52,a77⟩
 have a79:A79:=a73
 have a80:A80:=⟨a74,a79⟩
 have m1:(0 + d.length) * 1≤140737488355328:=by omega
 have m2:0 + d.length≤140737488355328:=by omega
 exact ⟨m1,m2,a75,⟨a75,a78,a80⟩,⟨a52,a78,a51,a77⟩,a74,a80,a73,a79⟩
end Z19
