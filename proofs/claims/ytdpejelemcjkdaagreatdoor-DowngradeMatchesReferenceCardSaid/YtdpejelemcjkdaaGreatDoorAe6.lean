/- For every file (two blocks, version, footer) and number the law DowngradeMatchesReference returns true and its arguments read as before. No further condition. -/
import Derived.Test.YtdpejelemcjkdaaGreatDoorAe5
import Derived.KernelRfl
set_option linter.all false
set_option maxRecDepth 100000
namespace Q6
open Go Go.AE Go.Proofs PE PF
attribute [local irreducible] loopK evCode evSpec loopB norm
theorem g28_in (i:Int) (kk:Int) (K:List AV→Prop):evSpec V28 Tryz.f28 [i6 i,i6 kk] K = (brn (i == 0) (K [i64 kk]) (brn (i == kk) (K [i64 0]) (K [i64 i]))):=by kernel_rfl
theorem g27_in (T:List Int) (I:List UInt8) (X:List (List IV)) (C:List UInt8) (L:List (List IV)) (S:List Bool) (U:List Bool) (t:Int) (K:List AV→Prop):evSpec V27 Tryz.f27 [.agg (blk6 T I X C L S U),i6 t] K = (LoopI V27 (bodyOf Tryz.f27) (0:Nat) (St.mk (lapp [.agg (blk6 T I X C L S U),i64 t,.ptr 0 0,.dead,i64 0,i64 0,i64 0] (dN 21)) [(0,Ob.mk true 0 (AObj.cells (blk6 T I X C L S U)))] (1:Nat) []) (finK V27 Tryz.f27 K)):=by kernel_rfl
theorem g15_in (K:List AV→Prop):evSpec V15 Tryz.f15 [] K = (K [.agg [AV.new (IV.ints IntKind.i64 []),AV.new (IV.bytes []),.imm (.sl (3:Nat) [[IV.int IntKind.i32 (0:Int),IV.bool false,IV.int .u8 0]]),by' (List.map u8 [(0:Int)]),AV.new (IV.sl (2:Nat) []),AV.new (IV.bools []),AV.new (IV.bools [])]]):=by kernel_rfl
theorem g13_in (T:List Int) (I:List UInt8) (X:List (List IV)) (C:List UInt8) (L:List (List IV)) (S:List Bool) (U:List Bool) (K:List AV→Prop):evSpec V13 Tryz.f13 [.agg (blk6 T I X C L S U)] K = (okV T I X C L S U∧LoopI V13 (bodyOf Tryz.f13) (0:Nat) (St.mk (lapp [.agg (blk6 T I X C L S U),.ptr 0 0,.ptr 1 0,i64 (inE T I (-2147483649:Int)),.ptr 2 0,i64 0] (dN 131)) [(0,Ob.mk true 0 (AObj.cells (blk6 T I X C L S U))),(1,Ob.mk true 0 (AObj.cells zB7)),(2,Ob.mk true 0 (AObj.cells zB7))] (3:Nat) []) (finK V13 Tryz.f13 K)):=by kernel_rfl
theorem g27_lp (T:List Int) (I:List UInt8) (X:List (List IV)) (C:List UInt8) (L:List (List IV)) (S:List Bool) (U:List Bool) (t:Int) (kk:Int) (i:Int) (k:AX→St→Prop):evCode V27 (loopB (bodyOf Tryz.f27) (0:Nat)) (k27 (blk6 T I X C L S U) t kk i) k = (brn (decide (i < (T.length:Int))) ((0:Int)≤i∧i < (T.length:Int)∧brn (decide (List.getD T i.toNat (0:Int)≤t)) ((0:Int)≤i∧i < (I.length:Int)∧k AX.normal (St.mk (lapp [.dead,i64 t,.ptr 0 0,.dead,.dead,i64 (IntKind.wrap .i64 (↑(UInt8.toNat (List.getD I i.toNat (0:UInt8))):Int)),i64 (IntKind.wrap .i64 (i + 1))] (lapp (dN 5) (lapp [i64 i,i64 (IntKind.wrap .i64 (i + 1))] (dN 14)))) [(0,Ob.mk true 0 (AObj.cells (blk6 T I X C L S U)))] (1:Nat) [])) (k AX.normal (St.mk (lapp [.dead,i64 t,.ptr 0 0,.dead,.dead,i64 kk,i64 (IntKind.wrap .i64 (i + 1))] (lapp (dN 5) (lapp [i64 i,i64 (IntKind.wrap .i64 (i + 1))] (dN 14)))) [(0,Ob.mk true 0 (AObj.cells (blk6 T I X C L S U)))] (1:Nat) []))) (k (AX.exit (0:Nat)) (St.mk (lapp [.dead,i64 t,.ptr 0 0,.dead,.dead,i64 kk,i64 i,i64 i,.ptr 0 0,.imm (.ints IntKind.i64 T),i64 (T.length:Int),bo (decide (i < (T.length:Int)))]
 (dN 16)) [(0,Ob.mk true 0 (AObj.cells (blk6 T I X C L S U)))] (1:Nat) []))):=by kernel_rfl
theorem g13_la (T:List Int) (I:List UInt8) (X:List (List IV)) (C:List UInt8) (L:List (List IV)) (S:List Bool) (U:List Bool) (kk:Int) (Tv:List Int) (Iv:List UInt8) (i:Int) (k:AX→St→Prop):evCode V13 (loopB (bodyOf Tryz.f13) (0:Nat)) (k13a (blk6 T I X C L S U) kk Tv Iv i) k = (let E1:Prop:=((sm (St.mk (lapp [.dead,.ptr 0 0,.ptr 1 0,i64 kk,.ptr 2 0,i64 i] (lapp (dN 25) (lapp [.ptr 2 0,.dead,.ptr 0 0,.imm (.ints IntKind.i64 T),i64 i,AV.elv [IV.int .i64 (List.getD T i.toNat (0:Int))],i64 (List.getD T i.toNat (0:Int)),.full (IV.ints IntKind.i64 [List.getD T i.toNat (0:Int)]),AV.row (3:Nat) (0:Nat),.ptr 2 0] (dN 96)))) [(0,Ob.mk true 0 (AObj.cells (blk6 T I X C L S U))),(1,Ob.mk true 0 (AObj.cells zB7)),(2,Ob.mk true 0 (AObj.cells [AV.row (3:Nat) (0:Nat),AV.row (4:Nat) (0:Nat),.imm nS,.imm nS,.imm nS,.imm nS,.imm nS])),(3,Ob.mk true 0 (AObj.row (IV.ints IntKind.i64 (Tv ++ [List.getD T i.toNat (0:Int)])))),(4,Ob.mk true 0 (AObj.row (IV.bytes Iv)))] (5:Nat) []))); let E2:Prop:=((sm (St.mk (lapp [.dead,.ptr 0 0,.ptr 1 0,i64 kk,.ptr 2 0,i64 i] (lapp (dN 35) (lapp [.ptr 2 1,.dead,.ptr 0 1,by' I,
 i64 i,AV.elv [IV.int .u8 (↑(UInt8.toNat (List.getD I i.toNat (0:UInt8))):Int)],.imm (.int .u8 (↑(UInt8.toNat (List.getD I i.toNat (0:UInt8))):Int)),i64 (IntKind.wrap .i64 (↑(UInt8.toNat (List.getD I i.toNat (0:UInt8))):Int)),i64 kk,i64 (otF (IntKind.wrap .i64 (↑(UInt8.toNat (List.getD I i.toNat (0:UInt8))):Int)) kk),.imm (.int .u8 (IntKind.wrap IntKind.u8 (otF (IntKind.wrap .i64 (↑(UInt8.toNat (List.getD I i.toNat (0:UInt8))):Int)) kk))),.full (IV.bytes (ub8 I i kk)),AV.row (3:Nat) (0:Nat),.ptr 2 1] (dN 82)))) [(0,Ob.mk true 0 (AObj.cells (blk6 T I X C L S U))),(1,Ob.mk true 0 (AObj.cells zB7)),(2,Ob.mk true 0 (AObj.cells [AV.row (4:Nat) (0:Nat),AV.row (3:Nat) (0:Nat),.imm nS,.imm nS,.imm nS,.imm nS,.imm nS])),(3,Ob.mk true 0 (AObj.row (IV.bytes (Iv ++ List.map u8 [IntKind.wrap IntKind.u8 (otF (IntKind.wrap .i64 (↑(UInt8.toNat (List.getD I i.toNat (0:UInt8))):Int)) kk)])))),(4,Ob.mk true 0 (AObj.row (IV.ints IntKind.i64 (Tv ++ [List.getD T i.toNat (0:Int)]))))] (5:Nat) []))); let R1:Prop:=((List.length Iv + (ub8 I i kk).length) * 1≤140737488355328∧List.length Iv + (ub8 I i kk).length≤140737488355328∧E2); brn
 (decide (i < (T.length:Int))) ((0:Int)≤i∧i < (T.length:Int)∧(decide (List.getD T i.toNat (0:Int)≥(-2147483648:Int)) = true→(0:Int)≤i)∧(decide (List.getD T i.toNat (0:Int)≥(-2147483648:Int)) = true→i < (T.length:Int))∧brn (decide (List.getD T i.toNat (0:Int)≥(-2147483648:Int)) && decide (List.getD T i.toNat (0:Int)≤2147483647)) (((0:Int)≤i∧i < (T.length:Int)∧((List.length Tv + List.length [List.getD T i.toNat (0:Int)]) * 8≤140737488355328∧List.length Tv + List.length [List.getD T i.toNat (0:Int)]≤140737488355328∧E1)∧((List.length Tv + List.length [List.getD T i.toNat (0:Int)]) * 8≤140737488355328∧List.length Tv + List.length [List.getD T i.toNat (0:Int)]≤140737488355328∧E1)∧(List.length Tv + List.length [List.getD T i.toNat (0:Int)]) * 8≤140737488355328∧List.length Tv + List.length [List.getD T i.toNat (0:Int)]≤140737488355328∧E1)∧((0:Int)≤i∧i < (I.length:Int)∧R1∧R1∧R1∧(List.length Iv + (ub8 I i kk).length) * 1≤140737488355328∧List.length Iv + (ub8 I i kk).length≤140737488355328∧E2)∧k AX.normal (St.mk (lapp [.dead,.ptr 0 0,.ptr 1 0,i64 kk,.ptr 2 0,i64
 (IntKind.wrap .i64 (i + 1))] (lapp (dN 9) (lapp [i64 i,i64 (IntKind.wrap .i64 (i + 1))] (dN 120)))) [(0,Ob.mk true 0 (AObj.cells (blk6 T I X C L S U))),(1,Ob.mk true 0 (AObj.cells zB7)),(2,Ob.mk true 0 (AObj.cells [AV.row (3:Nat) (0:Nat),AV.row (4:Nat) (0:Nat),.imm nS,.imm nS,.imm nS,.imm nS,.imm nS])),(3,Ob.mk true 0 (AObj.row (IV.ints IntKind.i64 (Tv ++ [List.getD T i.toNat (0:Int)])))),(4,Ob.mk true 0 (AObj.row (IV.bytes (Iv ++ List.map u8 [IntKind.wrap IntKind.u8 (otF (IntKind.wrap .i64 (↑(UInt8.toNat (List.getD I i.toNat (0:UInt8))):Int)) kk)]))))] (5:Nat) [])) (k AX.normal (St.mk (lapp [.dead,.ptr 0 0,.ptr 1 0,i64 kk,.ptr 2 0,i64 (IntKind.wrap .i64 (i + 1))] (lapp (dN 9) (lapp [i64 i,i64 (IntKind.wrap .i64 (i + 1))] (dN 120)))) [(0,Ob.mk true 0 (AObj.cells (blk6 T I X C L S U))),(1,Ob.mk true 0 (AObj.cells zB7)),(2,Ob.mk true 0 (AObj.cells [AV.row (3:Nat) (0:Nat),AV.row (4:Nat) (0:Nat),.imm nS,.imm nS,.imm nS,.imm nS,.imm nS])),(3,Ob.mk true 0 (AObj.row (IV.ints IntKind.i64 Tv))),(4,Ob.mk true 0 (AObj.row (IV.bytes Iv)))] (5:Nat) []))) (k (AX.exit (0:Nat)) (St.mk (lapp [.dead,.ptr 0 0,.ptr 1 0,i64 kk,.ptr 2
 0,i64 i] (lapp (dN 4) (lapp [i64 i,.ptr 0 0,.imm (.ints IntKind.i64 T),i64 (T.length:Int),bo (decide (i < (T.length:Int)))] (dN 122)))) [(0,Ob.mk true 0 (AObj.cells (blk6 T I X C L S U))),(1,Ob.mk true 0 (AObj.cells zB7)),(2,Ob.mk true 0 (AObj.cells [AV.row (3:Nat) (0:Nat),AV.row (4:Nat) (0:Nat),.imm nS,.imm nS,.imm nS,.imm nS,.imm nS])),(3,Ob.mk true 0 (AObj.row (IV.ints IntKind.i64 Tv))),(4,Ob.mk true 0 (AObj.row (IV.bytes Iv)))] (5:Nat) []))):=by kernel_rfl
theorem g27_out (T:List Int) (I:List UInt8) (X:List (List IV)) (C:List UInt8) (L:List (List IV)) (S:List Bool) (U:List Bool) (t:Int) (kk:Int) (i:Int) (K:List AV→Prop):loopK V27 (bodyOf Tryz.f27) (0:Nat) (finK V27 Tryz.f27 K) (AX.exit (0:Nat)) (St.mk (lapp [.dead,i64 t,.ptr 0 0,.dead,.dead,i64 kk,i64 i,i64 i,.ptr 0 0,.imm (.ints IntKind.i64 T),i64 (T.length:Int),bo (decide (i < (T.length:Int)))] (dN 16)) [(0,Ob.mk true 0 (AObj.cells (blk6 T I X C L S U)))] (1:Nat) []) = (K [i64 kk]):=by kernel_rfl
theorem g13_oa (T:List Int) (I:List UInt8) (X:List (List IV)) (C:List UInt8) (L:List (List IV)) (S:List Bool) (U:List Bool) (kk:Int) (Tv:List Int) (Iv:List UInt8) (i:Int) (K:List AV→Prop):loopK V13 (bodyOf Tryz.f13) (0:Nat) (finK V13 Tryz.f13 K) (AX.exit (0:Nat)) (x13a (blk6 T I X C L S U) kk T Tv Iv i) = (LoopI V13 (bodyOf Tryz.f13) (1:Nat) (St.mk (lapp [.dead,.ptr 0 0,.ptr 1 0,i64 kk,.ptr 2 0,i64 i,i64 0] (dN 130)) [(0,Ob.mk true 0 (AObj.cells (blk6 T I X C L S U))),(1,Ob.mk true 0 (AObj.cells zB7)),(2,Ob.mk true 0 (AObj.cells [AV.row (3:Nat) (0:Nat),AV.row (4:Nat) (0:Nat),.imm nS,.imm nS,.imm nS,.imm nS,.imm nS])),(3,Ob.mk true 0 (AObj.row (IV.ints IntKind.i64 Tv))),(4,Ob.mk true 0 (AObj.row (IV.bytes Iv)))] (5:Nat) []) (finK V13 Tryz.f13 K)):=by kernel_rfl
theorem g13_lb (T:List Int) (I:List UInt8) (X:List (List IV)) (C:List UInt8) (L:List (List IV)) (S:List Bool) (U:List Bool) (kk:Int) (Tv:List Int) (Iv:List UInt8) (Xv:List (List IV)) (Sv:List Bool) (Uv:List Bool) (i:Int) (k:AX→St→Prop):evCode V13 (loopB (bodyOf Tryz.f13) (1:Nat)) (k13b (blk6 T I X C L S U) kk Tv Iv Xv Sv Uv i) k = (let E1:Prop:=((sm (St.mk (lapp [.dead,.ptr 0 0,.ptr 1 0,i64 kk,.ptr 2 0,.dead,i64 i] (lapp (dN 55) (lapp [.ptr 2 2,.dead,.ptr 0 2,.imm (.sl (3:Nat) X),i64 i,i64 kk,i64 (otF i kk),AV.elv (ty3 X (otF i kk)),.agg [.imm (.int IntKind.i32 (ivInt (ivNth (List.getD X (otF i kk).toNat []) (0:Nat)))),bo (ivBool (ivNth (List.getD X (otF i kk).toNat []) ((0:Nat) + 1))),.imm (.int .u8 (ivInt (ivNth (List.getD X (otF i kk).toNat []) ((0:Nat) + 1 + 1))))],.full (IV.sl (3:Nat) [(ty3 X (otF i kk))]),AV.row (3:Nat) (0:Nat),.ptr 2 2] (dN 63)))) [(0,Ob.mk true 0 (AObj.cells (blk6 T I X C L S U))),(1,Ob.mk true 0 (AObj.cells zB7)),(2,Ob.mk true 0 (AObj.cells [AV.row (4:Nat) (0:Nat),AV.row (5:Nat) (0:Nat),AV.row (3:Nat) (0:Nat),.imm nS,.imm nS,AV.row (6:Nat) (0:Nat),AV.row (7
 : Nat) (0:Nat)])),(3,Ob.mk true 0 (AObj.row (IV.sl (3:Nat) (Xv ++ [(ty3 X (otF i kk))])))),(4,Ob.mk true 0 (AObj.row (IV.ints IntKind.i64 Tv))),(5,Ob.mk true 0 (AObj.row (IV.bytes Iv))),(6,Ob.mk true 0 (AObj.row (IV.bools Sv))),(7,Ob.mk true 0 (AObj.row (IV.bools Uv)))] (8:Nat) []))); let E2:Prop:=((sm (St.mk (lapp [.dead,.ptr 0 0,.ptr 1 0,i64 kk,.ptr 2 0,.dead,i64 i] (lapp (dN 71) (lapp [.ptr 2 5,.dead,.ptr 0 5,.imm (.bools S),i64 i,i64 kk,i64 (otF i kk),AV.elv [IV.bool (List.getD S (otF i kk).toNat false)],bo (List.getD S (otF i kk).toNat false),.full (IV.bools [List.getD S (otF i kk).toNat false]),AV.row (3:Nat) (0:Nat),.ptr 2 5] (dN 47)))) [(0,Ob.mk true 0 (AObj.cells (blk6 T I X C L S U))),(1,Ob.mk true 0 (AObj.cells zB7)),(2,Ob.mk true 0 (AObj.cells [AV.row (4:Nat) (0:Nat),AV.row (5:Nat) (0:Nat),AV.row (6:Nat) (0:Nat),.imm nS,.imm nS,AV.row (3:Nat) (0:Nat),AV.row (7:Nat) (0:Nat)])),(3,Ob.mk true 0 (AObj.row (IV.bools (Sv ++ [List.getD S (otF i kk).toNat false])))),(4,Ob.mk true 0 (AObj.row (IV.ints IntKind.i64 Tv))),(5,Ob.mk true 0 (AObj.row (IV.bytes Iv))),(6,Ob.mk true 0 (AObj.row (IV.sl (3 :
 Nat) (Xv ++ [(ty3 X (otF i kk))])))),(7,Ob.mk true 0 (AObj.row (IV.bools Uv)))] (8:Nat) []))); let E3:Prop:=((sm (St.mk (lapp [.dead,.ptr 0 0,.ptr 1 0,i64 kk,.ptr 2 0,.dead,i64 i] (lapp (dN 87) (lapp [.ptr 2 6,.dead,.ptr 0 6,.imm (.bools U),i64 i,i64 kk,i64 (otF i kk),AV.elv [IV.bool (List.getD U (otF i kk).toNat false)],bo (List.getD U (otF i kk).toNat false),.full (IV.bools [List.getD U (otF i kk).toNat false]),AV.row (3:Nat) (0:Nat),.ptr 2 6] (dN 31)))) [(0,Ob.mk true 0 (AObj.cells (blk6 T I X C L S U))),(1,Ob.mk true 0 (AObj.cells zB7)),(2,Ob.mk true 0 (AObj.cells [AV.row (4:Nat) (0:Nat),AV.row (5:Nat) (0:Nat),AV.row (6:Nat) (0:Nat),.imm nS,.imm nS,AV.row (7:Nat) (0:Nat),AV.row (3:Nat) (0:Nat)])),(3,Ob.mk true 0 (AObj.row (IV.bools (Uv ++ [List.getD U (otF i kk).toNat false])))),(4,Ob.mk true 0 (AObj.row (IV.ints IntKind.i64 Tv))),(5,Ob.mk true 0 (AObj.row (IV.bytes Iv))),(6,Ob.mk true 0 (AObj.row (IV.sl (3:Nat) (Xv ++ [(ty3 X (otF i kk))])))),(7,Ob.mk true 0 (AObj.row (IV.bools (Sv ++ [List.getD S (otF i kk).toNat false]))))] (8:Nat) []))); let E4:Prop:=((sm (St.mk (lapp [.dead,.ptr 0 0,.ptr 1 0,
 i64 kk,.ptr 2 0,.dead,i64 i] (lapp (dN 87) (lapp [.ptr 2 6,.dead,.ptr 0 6,.imm (.bools U),i64 i,i64 kk,i64 (otF i kk),AV.elv [IV.bool (List.getD U (otF i kk).toNat false)],bo (List.getD U (otF i kk).toNat false),.full (IV.bools [List.getD U (otF i kk).toNat false]),AV.row (3:Nat) (0:Nat),.ptr 2 6] (dN 31)))) [(0,Ob.mk true 0 (AObj.cells (blk6 T I X C L S U))),(1,Ob.mk true 0 (AObj.cells zB7)),(2,Ob.mk true 0 (AObj.cells [AV.row (4:Nat) (0:Nat),AV.row (5:Nat) (0:Nat),AV.row (6:Nat) (0:Nat),.imm nS,.imm nS,AV.row (7:Nat) (0:Nat),AV.row (3:Nat) (0:Nat)])),(3,Ob.mk true 0 (AObj.row (IV.bools (Uv ++ [List.getD U (otF i kk).toNat false])))),(4,Ob.mk true 0 (AObj.row (IV.ints IntKind.i64 Tv))),(5,Ob.mk true 0 (AObj.row (IV.bytes Iv))),(6,Ob.mk true 0 (AObj.row (IV.sl (3:Nat) (Xv ++ [(ty3 X (otF i kk))])))),(7,Ob.mk true 0 (AObj.row (IV.bools Sv)))] (8:Nat) []))); let R1:Prop:=((List.length Xv + List.length [(ty3 X (otF i kk))]) * 8≤140737488355328∧List.length Xv + List.length [(ty3 X (otF i kk))]≤140737488355328∧E1); brn (decide (i < (X.length:Int))) ((((0:Int)≤otF i kk∧otF i kk < (X.length:Int)∧kcells
 (List.getD X (otF i kk).toNat []) (0:Nat) (lapp [CK.int IntKind.i32] (lapp [CK.bool] (lapp [CK.int IntKind.u8] []))) = List.getD X (otF i kk).toNat []∧(List.length Xv + List.length [(ty3 X (otF i kk))]) * 8≤140737488355328∧List.length Xv + List.length [(ty3 X (otF i kk))]≤140737488355328∧E1)∧(0:Int)≤otF i kk∧otF i kk < (X.length:Int)∧kcells (List.getD X (otF i kk).toNat []) (0:Nat) (lapp [CK.int IntKind.i32] (lapp [CK.bool] (lapp [CK.int IntKind.u8] []))) = List.getD X (otF i kk).toNat []∧R1∧R1∧(List.length Xv + List.length [(ty3 X (otF i kk))]) * 8≤140737488355328∧List.length Xv + List.length [(ty3 X (otF i kk))]≤140737488355328∧E1)∧brn (decide ((S.length:Int) > 0)) ((((0:Int)≤otF i kk∧otF i kk < (S.length:Int)∧(List.length Sv + List.length [List.getD S (otF i kk).toNat false]) * 1≤140737488355328∧List.length Sv + List.length [List.getD S (otF i kk).toNat false]≤140737488355328∧E2)∧(0:Int)≤otF i kk∧otF i kk < (S.length:Int)∧((List.length Sv + List.length [List.getD S (otF i kk).toNat false]) * 1≤140737488355328∧List.length Sv + List.length [List.getD S (otF i kk).toNat false]≤140737488355328∧E2) ∧
 ((List.length Sv + List.length [List.getD S (otF i kk).toNat false]) * 1≤140737488355328∧List.length Sv + List.length [List.getD S (otF i kk).toNat false]≤140737488355328∧E2)∧(List.length Sv + List.length [List.getD S (otF i kk).toNat false]) * 1≤140737488355328∧List.length Sv + List.length [List.getD S (otF i kk).toNat false]≤140737488355328∧E2)∧brn (decide ((U.length:Int) > 0)) ((((0:Int)≤otF i kk∧otF i kk < (U.length:Int)∧(List.length Uv + List.length [List.getD U (otF i kk).toNat false]) * 1≤140737488355328∧List.length Uv + List.length [List.getD U (otF i kk).toNat false]≤140737488355328∧E3)∧(0:Int)≤otF i kk∧otF i kk < (U.length:Int)∧((List.length Uv + List.length [List.getD U (otF i kk).toNat false]) * 1≤140737488355328∧List.length Uv + List.length [List.getD U (otF i kk).toNat false]≤140737488355328∧E3)∧((List.length Uv + List.length [List.getD U (otF i kk).toNat false]) * 1≤140737488355328∧List.length Uv + List.length [List.getD U (otF i kk).toNat false]≤140737488355328∧E3)∧(List.length Uv + List.length [List.getD U (otF i kk).toNat false]) * 1≤140737488355328∧List.length Uv + List.length [List.getD U
 (otF i kk).toNat false]≤140737488355328∧E3)∧k AX.normal (St.mk (lapp [.dead,.ptr 0 0,.ptr 1 0,i64 kk,.ptr 2 0,.dead,i64 (IntKind.wrap .i64 (i + 1))] (lapp (dN 53) (lapp [i64 i,i64 (IntKind.wrap .i64 (i + 1))] (dN 75)))) [(0,Ob.mk true 0 (AObj.cells (blk6 T I X C L S U))),(1,Ob.mk true 0 (AObj.cells zB7)),(2,Ob.mk true 0 (AObj.cells [AV.row (3:Nat) (0:Nat),AV.row (4:Nat) (0:Nat),AV.row (5:Nat) (0:Nat),.imm nS,.imm nS,AV.row (6:Nat) (0:Nat),AV.row (7:Nat) (0:Nat)])),(3,Ob.mk true 0 (AObj.row (IV.ints IntKind.i64 Tv))),(4,Ob.mk true 0 (AObj.row (IV.bytes Iv))),(5,Ob.mk true 0 (AObj.row (IV.sl (3:Nat) (Xv ++ [(ty3 X (otF i kk))])))),(6,Ob.mk true 0 (AObj.row (IV.bools (Sv ++ [List.getD S (otF i kk).toNat false])))),(7,Ob.mk true 0 (AObj.row (IV.bools (Uv ++ [List.getD U (otF i kk).toNat false]))))] (8:Nat) [])) (k AX.normal (St.mk (lapp [.dead,.ptr 0 0,.ptr 1 0,i64 kk,.ptr 2 0,.dead,i64 (IntKind.wrap .i64 (i + 1))] (lapp (dN 53) (lapp [i64 i,i64 (IntKind.wrap .i64 (i + 1))] (dN 75)))) [(0,Ob.mk true 0 (AObj.cells (blk6 T I X C L S U))),(1,Ob.mk true 0 (AObj.cells zB7)),(2,Ob.mk true 0 (AObj.cells [AV.row (3:Nat) (0
 : Nat),AV.row (4:Nat) (0:Nat),AV.row (5:Nat) (0:Nat),.imm nS,.imm nS,AV.row (6:Nat) (0:Nat),AV.row (7:Nat) (0:Nat)])),(3,Ob.mk true 0 (AObj.row (IV.ints IntKind.i64 Tv))),(4,Ob.mk true 0 (AObj.row (IV.bytes Iv))),(5,Ob.mk true 0 (AObj.row (IV.sl (3:Nat) (Xv ++ [(ty3 X (otF i kk))])))),(6,Ob.mk true 0 (AObj.row (IV.bools (Sv ++ [List.getD S (otF i kk).toNat false])))),(7,Ob.mk true 0 (AObj.row (IV.bools Uv)))] (8:Nat) []))) (brn (decide ((U.length:Int) > 0)) ((((0:Int)≤otF i kk∧otF i kk < (U.length:Int)∧(List.length Uv + List.length [List.getD U (otF i kk).toNat false]) * 1≤140737488355328∧List.length Uv + List.length [List.getD U (otF i kk).toNat false]≤140737488355328∧E4)∧(0:Int)≤otF i kk∧otF i kk < (U.length:Int)∧((List.length Uv + List.length [List.getD U (otF i kk).toNat false]) * 1≤140737488355328∧List.length Uv + List.length [List.getD U (otF i kk).toNat false]≤140737488355328∧E4)∧((List.length Uv + List.length [List.getD U (otF i kk).toNat false]) * 1≤140737488355328∧List.length Uv + List.length [List.getD U (otF i kk).toNat false]≤140737488355328∧E4)∧(List.length Uv + List.length
 [List.getD U (otF i kk).toNat false]) * 1≤140737488355328∧List.length Uv + List.length [List.getD U (otF i kk).toNat false]≤140737488355328∧E4)∧k AX.normal (St.mk (lapp [.dead,.ptr 0 0,.ptr 1 0,i64 kk,.ptr 2 0,.dead,i64 (IntKind.wrap .i64 (i + 1))] (lapp (dN 53) (lapp [i64 i,i64 (IntKind.wrap .i64 (i + 1))] (dN 75)))) [(0,Ob.mk true 0 (AObj.cells (blk6 T I X C L S U))),(1,Ob.mk true 0 (AObj.cells zB7)),(2,Ob.mk true 0 (AObj.cells [AV.row (3:Nat) (0:Nat),AV.row (4:Nat) (0:Nat),AV.row (5:Nat) (0:Nat),.imm nS,.imm nS,AV.row (6:Nat) (0:Nat),AV.row (7:Nat) (0:Nat)])),(3,Ob.mk true 0 (AObj.row (IV.ints IntKind.i64 Tv))),(4,Ob.mk true 0 (AObj.row (IV.bytes Iv))),(5,Ob.mk true 0 (AObj.row (IV.sl (3:Nat) (Xv ++ [(ty3 X (otF i kk))])))),(6,Ob.mk true 0 (AObj.row (IV.bools Sv))),(7,Ob.mk true 0 (AObj.row (IV.bools (Uv ++ [List.getD U (otF i kk).toNat false]))))] (8:Nat) [])) (k AX.normal (St.mk (lapp [.dead,.ptr 0 0,.ptr 1 0,i64 kk,.ptr 2 0,.dead,i64 (IntKind.wrap .i64 (i + 1))] (lapp (dN 53) (lapp [i64 i,i64 (IntKind.wrap .i64 (i + 1))] (dN 75)))) [(0,Ob.mk true 0 (AObj.cells (blk6 T I X C L S U))),(1,Ob.mk true 0
 (AObj.cells zB7)),(2,Ob.mk true 0 (AObj.cells [AV.row (3:Nat) (0:Nat),AV.row (4:Nat) (0:Nat),AV.row (5:Nat) (0:Nat),.imm nS,.imm nS,AV.row (6:Nat) (0:Nat),AV.row (7:Nat) (0:Nat)])),(3,Ob.mk true 0 (AObj.row (IV.ints IntKind.i64 Tv))),(4,Ob.mk true 0 (AObj.row (IV.bytes Iv))),(5,Ob.mk true 0 (AObj.row (IV.sl (3:Nat) (Xv ++ [(ty3 X (otF i kk))])))),(6,Ob.mk true 0 (AObj.row (IV.bools Sv))),(7,Ob.mk true 0 (AObj.row (IV.bools Uv)))] (8:Nat) [])))) (k (AX.exit (2:Nat)) (St.mk (lapp [.dead,.ptr 0 0,.ptr 1 0,i64 kk,.ptr 2 0,.dead,i64 i] (lapp (dN 48) (lapp [i64 i,.ptr 0 2,.imm (.sl (3:Nat) X),i64 (X.length:Int),bo (decide (i < (X.length:Int)))] (dN 77)))) [(0,Ob.mk true 0 (AObj.cells (blk6 T I X C L S U))),(1,Ob.mk true 0 (AObj.cells zB7)),(2,Ob.mk true 0 (AObj.cells [AV.row (3:Nat) (0:Nat),AV.row (4:Nat) (0:Nat),AV.row (5:Nat) (0:Nat),.imm nS,.imm nS,AV.row (6:Nat) (0:Nat),AV.row (7:Nat) (0:Nat)])),(3,Ob.mk true 0 (AObj.row (IV.ints IntKind.i64 Tv))),(4,Ob.mk true 0 (AObj.row (IV.bytes Iv))),(5,Ob.mk true 0 (AObj.row (IV.sl (3:Nat) Xv))),(6,Ob.mk true 0 (AObj.row (IV.bools Sv))),(7,
 Ob.mk true 0 (AObj.row (IV.bools Uv)))] (8:Nat) []))):=by kernel_rfl
theorem g13_ob (T:List Int) (I:List UInt8) (X:List (List IV)) (C:List UInt8) (L:List (List IV)) (S:List Bool) (U:List Bool) (kk:Int) (Tv:List Int) (Iv:List UInt8) (Xv:List (List IV)) (Sv:List Bool) (Uv:List Bool) (i:Int) (K:List AV→Prop):loopK V13 (bodyOf Tryz.f13) (1:Nat) (finK V13 Tryz.f13 K) (AX.exit (2:Nat)) (x13b (blk6 T I X C L S U) kk X Tv Iv Xv Sv Uv i) = ((([]:List UInt8).length + List.length C) * 1≤140737488355328∧([]:List UInt8).length + List.length C≤140737488355328∧LoopI V13 (bodyOf Tryz.f13) (2:Nat) (St.mk (lapp [.dead,.ptr 0 0,.ptr 1 0,i64 kk,.ptr 2 0,.dead,i64 i,i64 0] (dN 129)) [(0,Ob.mk true 0 (AObj.cells (blk6 T I X C L S U))),(1,Ob.mk true 0 (AObj.cells zB7)),(2,Ob.mk true 0 (AObj.cells [AV.row (3:Nat) (0:Nat),AV.row (4:Nat) (0:Nat),AV.row (5:Nat) (0:Nat),AV.row (6:Nat) (0:Nat),.imm nS,AV.row (7:Nat) (0:Nat),AV.row (8:Nat) (0:Nat)])),(3,Ob.mk true 0 (AObj.row (IV.ints IntKind.i64 Tv))),(4,Ob.mk true 0 (AObj.row (IV.bytes Iv))),(5,Ob.mk true 0 (AObj.row (IV.sl (3:Nat) Xv))),(6,Ob.mk true 0 (AObj.row (IV.bytes ([] ++ C)))),(7,Ob.mk true 0 (AObj.row (IV.bools
 Sv))),(8,Ob.mk true 0 (AObj.row (IV.bools Uv)))] (9:Nat) []) (finK V13 Tryz.f13 K)):=by kernel_rfl
theorem g13_lc (T:List Int) (I:List UInt8) (X:List (List IV)) (C:List UInt8) (L:List (List IV)) (S:List Bool) (U:List Bool) (Tv:List Int) (Iv:List UInt8) (Xv:List (List IV)) (Cv:List UInt8) (acc:List (List IV)) (Sv:List Bool) (Uv:List Bool) (i:Int) (k:AX→St→Prop):evCode V13 (loopB (bodyOf Tryz.f13) (2:Nat)) (k13c (blk6 T I X C L S U) Tv Iv Xv Cv acc Sv Uv i) k = (let E1:Prop:=((sm (St.mk (lapp [.dead,.ptr 0 0,.ptr 1 0,.dead,.ptr 2 0,.dead,.dead,i64 i] (lapp (dN 118) [.ptr 2 4,.dead,.ptr 0 4,.imm (.sl (2:Nat) L),i64 i,AV.elv (lp2 L i),.agg [i64 (ivInt (ivNth (List.getD L i.toNat []) (0:Nat))),.imm (.int IntKind.i32 (ivInt (ivNth (List.getD L i.toNat []) ((0:Nat) + 1))))],.full (IV.sl (2:Nat) [(lp2 L i)]),AV.row (3:Nat) (0:Nat),.ptr 2 4,.dead])) [(0,Ob.mk true 0 (AObj.cells (blk6 T I X C L S U))),(1,Ob.mk true 0 (AObj.cells zB7)),(2,Ob.mk true 0 (AObj.cells [AV.row (4:Nat) (0:Nat),AV.row (5:Nat) (0:Nat),AV.row (6:Nat) (0:Nat),AV.row (7:Nat) (0:Nat),AV.row (3:Nat) (0:Nat),AV.row (8:Nat) (0:Nat),AV.row (9:Nat) (0:Nat)])),(3,Ob.mk true 0 (AObj.row (IV.sl (2:Nat) (acc ++
 [(lp2 L i)])))),(4,Ob.mk true 0 (AObj.row (IV.ints IntKind.i64 Tv))),(5,Ob.mk true 0 (AObj.row (IV.bytes Iv))),(6,Ob.mk true 0 (AObj.row (IV.sl (3:Nat) Xv))),(7,Ob.mk true 0 (AObj.row (IV.bytes Cv))),(8,Ob.mk true 0 (AObj.row (IV.bools Sv))),(9,Ob.mk true 0 (AObj.row (IV.bools Uv)))] (10:Nat) []))); let R1:Prop:=((List.length acc + List.length [(lp2 L i)]) * 16≤140737488355328∧List.length acc + List.length [(lp2 L i)]≤140737488355328∧E1); brn (decide (i < (L.length:Int))) ((0:Int)≤i∧i < (L.length:Int)∧kcells (List.getD L i.toNat []) (0:Nat) (lapp [CK.int IntKind.i64] (lapp [CK.int IntKind.i32] [])) = List.getD L i.toNat []∧brn (decide (ivInt (ivNth (List.getD L i.toNat []) (0:Nat))≤2147483647)) (((0:Int)≤i∧i < (L.length:Int)∧kcells (List.getD L i.toNat []) (0:Nat) (lapp [CK.int IntKind.i64] (lapp [CK.int IntKind.i32] [])) = List.getD L i.toNat []∧R1∧R1∧(List.length acc + List.length [(lp2 L i)]) * 16≤140737488355328∧List.length acc + List.length [(lp2 L i)]≤140737488355328∧E1)∧k AX.normal (St.mk (lapp [.dead,.ptr 0 0,.ptr 1 0,.dead,.ptr 2 0,.dead,.dead,i64 (IntKind.wrap .i64 (i + 1))] (lapp (dN 109)
 (lapp [i64 i,i64 (IntKind.wrap .i64 (i + 1))] (dN 18)))) [(0,Ob.mk true 0 (AObj.cells (blk6 T I X C L S U))),(1,Ob.mk true 0 (AObj.cells zB7)),(2,Ob.mk true 0 (AObj.cells [AV.row (3:Nat) (0:Nat),AV.row (4:Nat) (0:Nat),AV.row (5:Nat) (0:Nat),AV.row (6:Nat) (0:Nat),AV.row (7:Nat) (0:Nat),AV.row (8:Nat) (0:Nat),AV.row (9:Nat) (0:Nat)])),(3,Ob.mk true 0 (AObj.row (IV.ints IntKind.i64 Tv))),(4,Ob.mk true 0 (AObj.row (IV.bytes Iv))),(5,Ob.mk true 0 (AObj.row (IV.sl (3:Nat) Xv))),(6,Ob.mk true 0 (AObj.row (IV.bytes Cv))),(7,Ob.mk true 0 (AObj.row (IV.sl (2:Nat) (acc ++ [(lp2 L i)])))),(8,Ob.mk true 0 (AObj.row (IV.bools Sv))),(9,Ob.mk true 0 (AObj.row (IV.bools Uv)))] (10:Nat) [])) (k AX.normal (St.mk (lapp [.dead,.ptr 0 0,.ptr 1 0,.dead,.ptr 2 0,.dead,.dead,i64 (IntKind.wrap .i64 (i + 1))] (lapp (dN 109) (lapp [i64 i,i64 (IntKind.wrap .i64 (i + 1))] (dN 18)))) [(0,Ob.mk true 0 (AObj.cells (blk6 T I X C L S U))),(1,Ob.mk true 0 (AObj.cells zB7)),(2,Ob.mk true 0 (AObj.cells [AV.row (3:Nat) (0:Nat),AV.row (4:Nat) (0:Nat),AV.row (5:Nat) (0:Nat),AV.row (6:Nat) (0:Nat),AV.row (7:Nat) (0:Nat),AV.row
 (8:Nat) (0:Nat),AV.row (9:Nat) (0:Nat)])),(3,Ob.mk true 0 (AObj.row (IV.ints IntKind.i64 Tv))),(4,Ob.mk true 0 (AObj.row (IV.bytes Iv))),(5,Ob.mk true 0 (AObj.row (IV.sl (3:Nat) Xv))),(6,Ob.mk true 0 (AObj.row (IV.bytes Cv))),(7,Ob.mk true 0 (AObj.row (IV.sl (2:Nat) acc))),(8,Ob.mk true 0 (AObj.row (IV.bools Sv))),(9,Ob.mk true 0 (AObj.row (IV.bools Uv)))] (10:Nat) []))) (k (AX.exit (4:Nat)) (St.mk (lapp [.dead,.ptr 0 0,.ptr 1 0,.dead,.ptr 2 0,.dead,.dead,i64 i] (lapp (dN 104) (lapp [i64 i,.ptr 0 4,.imm (.sl (2:Nat) L),i64 (L.length:Int),bo (decide (i < (L.length:Int)))] (dN 20)))) [(0,Ob.mk true 0 (AObj.cells (blk6 T I X C L S U))),(1,Ob.mk true 0 (AObj.cells zB7)),(2,Ob.mk true 0 (AObj.cells [AV.row (3:Nat) (0:Nat),AV.row (4:Nat) (0:Nat),AV.row (5:Nat) (0:Nat),AV.row (6:Nat) (0:Nat),AV.row (7:Nat) (0:Nat),AV.row (8:Nat) (0:Nat),AV.row (9:Nat) (0:Nat)])),(3,Ob.mk true 0 (AObj.row (IV.ints IntKind.i64 Tv))),(4,Ob.mk true 0 (AObj.row (IV.bytes Iv))),(5,Ob.mk true 0 (AObj.row (IV.sl (3:Nat) Xv))),(6,Ob.mk true 0 (AObj.row (IV.bytes Cv))),(7,Ob.mk true 0 (AObj.row (IV.sl (2:Nat) acc))),
 (8,Ob.mk true 0 (AObj.row (IV.bools Sv))),(9,Ob.mk true 0 (AObj.row (IV.bools Uv)))] (10:Nat) []))):=by kernel_rfl
theorem g13_oc (T:List Int) (I:List UInt8) (X:List (List IV)) (C:List UInt8) (L:List (List IV)) (S:List Bool) (U:List Bool) (Tv:List Int) (Iv:List UInt8) (Xv:List (List IV)) (Cv:List UInt8) (acc:List (List IV)) (Sv:List Bool) (Uv:List Bool) (i:Int) (K:List AV→Prop):loopK V13 (bodyOf Tryz.f13) (2:Nat) (finK V13 Tryz.f13 K) (AX.exit (4:Nat)) (x13c (blk6 T I X C L S U) L Tv Iv Xv Cv acc Sv Uv i) = (K [.agg [AV.new (IV.ints IntKind.i64 Tv),AV.new (IV.bytes Iv),AV.new (IV.sl (3:Nat) Xv),AV.new (IV.bytes Cv),AV.new (IV.sl (2:Nat) acc),AV.new (IV.bools Sv),AV.new (IV.bools Uv)]]):=by kernel_rfl
theorem g7_in (xs:List (List IV)) (K:List AV→Prop):evSpec V7 Tryz.f21 [.imm (.sl 2 xs)] K = (PF.okL xs∧(xs.length:Int)≤1000000∧((!PF.lvV (PF.lps xs) (3:Int)) = true→PF.okL xs)∧((!PF.lvV (PF.lps xs) (3:Int)) = true→(xs.length:Int)≤1000000)∧K [bo (!PF.lvV (PF.lps xs) (3:Int) && PF.lvV (PF.lps xs) (4:Int))]):=by kernel_rfl
theorem g8_in (n:Int) (T:List Int) (I:List UInt8) (X:List (List IV)) (C:List UInt8) (L:List (List IV)) (S:List Bool) (U:List Bool) (T':List Int) (I':List UInt8) (X':List (List IV)) (C':List UInt8) (L':List (List IV)) (S':List Bool) (U':List Bool) (f:List UInt8) (K:List AV→Prop):evSpec V7 Tryz.f14 [.agg (fil n T I X C L S U T' I' X' C' L' S' U' f)] K = (brn (n == 1) (K [.agg [.imm (.ints IntKind.i64 T),by' I,.imm (.sl 3 X),by' C,.imm (.sl 2 L),.imm (.bools S),.imm (.bools U)]]) (K [.agg [.imm (.ints IntKind.i64 T'),by' I',.imm (.sl 3 X'),by' C',.imm (.sl 2 L'),.imm (.bools S'),.imm (.bools U')]])):=by kernel_rfl
theorem ok7:∀ args pres res,sNe7 args = some (pres,res)→SpecOK Tryz.prog G6 21 args pres res:=by
 intro args pres res h
 unfold sNe7 at h
 split at h
 case h_2=>cases h
 cases h
 rename_i xs
 refine spec_ok (C:=V7) okH13b noCall_ok Tryz.func21 (by kernel_rfl) (by kernel_rfl) (fun hp=>?_)
 have h1:PF.okL xs:=hp (PF.okL xs) (by simp)
 have h2:(xs.length:Int)≤1000000:=hp ((xs.length:Int)≤1000000) (by simp)
 exact Eq.mpr (g7_in xs _) ⟨h1,h2,fun _=>h1,fun _=>h2,rfl⟩
theorem ok8:∀ args pres res,sAct8 args = some (pres,res)→SpecOK Tryz.prog G6 14 args pres res:=by
 intro args pres res h
 unfold sAct8 at h
 split at h
 case h_2=>cases h
 cases h
 rename_i n T I X C L S U T' I' X' C' L' S' U' f
 refine spec_ok (C:=V7) okH13b noCall_ok Tryz.func14 (by kernel_rfl) (by kernel_rfl) (fun hp=>?_)
 refine Eq.mpr (g8_in n T I X C L S U T' I' X' C' L' S' U' f _) ?_
 unfold av1
 exact brn_intro (fun h=>by rw [h]; rfl) (fun h=>by rw [h]; rfl)
theorem okH16:EOK Tryz.prog H16 G6:=addE_ok (addE_ok okH15 ok7) ok8
theorem gd_eq {xs:List (List IV)} (h:okL xs) (hl:(xs.length:Int)≤1000000) (n:Int) (i:Nat) (hi:i < xs.length):gdL (lps xs) n i = (ru1 xs i && ru2 xs i n && ru3 xs i n):=by
 obtain ⟨e,ho⟩:=h
 have hc:IntKind.wrap .i64 (cL xs i) = cL xs i:=by
  have hk':i < (lps xs).length:=by unfold lps; rw [List.length_map]; exact hi
  have:okLp (lps xs)[i]:=ho _ (List.getElem_mem hk')
  obtain ⟨_,_,c1,c2⟩:=this
  have hx:cL xs i = ((lps xs)[i]).c:=by
   have h2:(lps xs)[i] = lpOf xs[i]:=List.getElem_map (f:=lpOf)
   rw [h2]
   unfold cL
   rw [Int.toNat_natCast,List.getD_eq_getElem?_getD,List.getElem?_eq_getElem hi,Option.getD_some]
   first | done | rfl
  rw [hx]
  exact wrap64 (by omega) (by omega)
 have hg:gdL (lps xs) n i = bif ((i:Int) == (0:Int)) then !(decide (aL xs 0 < 0) || decide (n < 4) && IntKind.wrap .i64 (cL xs i) != 1 && IntKind.wrap .i64 (cL xs i) != -1)
   else !decide (aL xs i < aL xs (i - 1)) && (!decide (IntKind.wrap .i64 (aL xs i - aL xs (i - 1)) < 2419199) && !(stL xs i != 1 && stL xs i != -1 && (stL xs i != 0 || decide (n < 4) || !((i:Int) == IntKind.wrap .i64 ((xs.length:Int) - 1))))):=by
  unfold gdL
  rw [← e]
  first | done | rfl
 rw [hg,hc,wrap64 (n:=(xs.length:Int) - 1) (by omega) (by omega)]
 unfold ru1 ru2 ru3
 cases hz:((i:Int) == (0:Int)) with
 | true =>
  have h0:i = 0:=by simpa using hz
  subst h0
  simp only [cond_true]
  show (!(decide (aL xs 0 < 0) || decide (n < 4) && cL xs 0 != 1 && cL xs 0 != -1)) = (decide (aL xs 0≥0) && (decide ((0:Int) > 0) || decide (n≥4) || cL xs 0 == 1 || cL xs 0 == -1) && (true || _))
  generalize aL xs 0 = a
  generalize cL xs 0 = c
  rw [Bool.true_or,Bool.and_true,Bool.eq_iff_iff]
  simp only [Bool.not_eq_true',Bool.or_eq_false_iff,Bool.and_eq_false_iff,decide_eq_false_iff_not,bne_eq_false_iff_eq,Bool.and_eq_true,Bool.or_eq_true,decide_eq_true_eq,beq_iff_eq]
  omega
 | false =>
  have h0:¬ (i:Int) = 0:=by simpa using hz
  simp only [cond_false,Bool.false_or]
  have hp:decide ((i:Int) > 0) = true:=decide_eq_true (by omega)
  rw [hp]
  generalize aL xs i = a
  generalize aL xs (i - 1) = b
  generalize stL xs i = c
  generalize IntKind.wrap .i64 (a - b) = d
  rw [Bool.eq_iff_iff]
  simp only [Bool.true_or,Bool.and_true,Bool.not_eq_true',Bool.or_eq_false_iff,Bool.and_eq_false_iff,decide_eq_false_iff_not,bne_eq_false_iff_eq,Bool.and_eq_true,Bool.or_eq_true,decide_eq_true_eq,beq_iff_eq,bne_iff_ne,Bool.not_eq_false']
  omega
theorem all_same {f g:Nat→Bool} (n:Nat) (h:∀ i,i < n→f i = g i):(List.range n).all f = (List.range n).all g:=by
 rw [Bool.eq_iff_iff,List.all_eq_true,List.all_eq_true]
 exact ⟨fun H i hi=>by rw [← h i (List.mem_range.1 hi)]; exact H i hi,fun H i hi=>by rw [h i (List.mem_range.1 hi)]; exact H i hi⟩
theorem lv_eq {xs:List (List IV)} (h:okL xs) (hl:(xs.length:Int)≤1000000) (n:Int):lvV (lps xs) n = lvA xs n:=by
 have hlen:(lps xs).length = xs.length:=by unfold lps; rw [List.length_map]
 rw [lvV_eq n (by rw [hlen]; exact hl)]
 unfold lvC lvA
 rw [hlen]
 exact all_same _ (fun i hi=>gd_eq h hl n i hi)
theorem ok28:∀ args pres res,sOth args = some (pres,res)→SpecOK Tryz.prog G6 28 args pres res:=by
 intro args pres res h
 unfold sOth at h
 split at h
 case h_2=>cases h
 cases h
 rename_i i k
 refine spec_ok (C:=V28) okH16 noCall_ok Tryz.func28 (by kernel_rfl) (by kernel_rfl) (fun hp=>?_)
 refine Eq.mpr (g28_in i k _) ?_
 unfold otF
 exact brn_intro (fun h=>by rw [h]; rfl) (fun h=>brn_intro (fun h2=>by rw [h,h2]; rfl) (fun h2=>by rw [h,h2]; rfl))
theorem aft_in (T:List Int) (t:Int):(∀ k:Nat,(k:Int) < aft T t→T.getD k 0≤t)∧∀ m:Nat,aft T t = (m:Int)→m < T.length→¬ T.getD m 0≤t:=by
 unfold aft
 induction T with
 | nil=>exact ⟨fun k hk=>by simp at hk; omega,fun m _ hm=>by simp at hm⟩
 | cons x T ih =>
  by_cases hx:x≤t
  ·rw [List.takeWhile_cons,decide_eq_true hx,if_pos rfl,List.length_cons]
   refine ⟨fun k hk=>?_,fun m e hm=>?_⟩
   ·cases k with
    | zero=>simpa using hx
    | succ k=>rw [List.getD_cons_succ]; exact ih.1 k (by omega)
   ·cases m with
    | zero=>omega
    | succ m=>rw [List.getD_cons_succ]; exact ih.2 m (by omega) (by simpa using hm)
  ·rw [List.takeWhile_cons,decide_eq_false hx,if_neg (by simp)]
   refine ⟨fun k hk=>by simp at hk; omega,fun m e hm=>?_⟩
   obtain rfl:m = 0:=by simp at e; omega
   simpa using hx
theorem aft_iff {T:List Int} (ha:asc T) {t:Int} {m:Nat} (hm:aft T t = (m:Int)) {i:Nat} (hi:i < T.length):T.getD i 0≤t↔i < m:=by
 obtain ⟨h1,h2⟩:=aft_in T t
 constructor
 ·intro h
  rcases Nat.lt_or_ge i m with hlt | hge
  ·exact hlt
  ·have h3:=h2 m hm (by omega)
   rcases Nat.lt_or_ge m i with hl | hg
   ·have:=ha.lt m i hl hi; omega
   ·have:i = m:=by omega
    rw [this] at h; omega
 ·intro h; exact h1 i (by omega)
def lin (I:List UInt8) (n:Nat):Int:=bif n == 0 then 0 else ((I.getD (n - 1) 0).toNat:Int)
theorem inE_lin {T:List Int} {I:List UInt8} {t:Int} {m:Nat} (hm:aft T t = (m:Int)):inE T I t = lin I m:=by
 unfold inE lin
 rw [hm]
 cases m with
 | zero=>rfl
 | succ m =>
  have e1:(((m + 1:Nat):Int) == 0) = false:=beq_eq_false_iff_ne.mpr (by omega)
  have e2:(((m + 1:Nat):Int) - 1).toNat = m:=by omega
  rw [e1,e2]
  first | done | rfl
theorem in_ex (T:List Int) (I:List UInt8) (X:List (List IV)) (C:List UInt8) (L:List (List IV)) (S U:List Bool) (t:Int) (hV:okV T I X C L S U) :
  ∀ K:List AV→Prop,K [i6 (inE T I t)]→∀ p st,norm p st = some (k27 (blk6 T I X C L S U) t 0 0)→evCode V27 (.loop (loopB (bodyOf Tryz.f27) 0)) st (loopK V27 (bodyOf Tryz.f27) 0 (finK V27 Tryz.f27 K)):=by
 obtain ⟨m,hm⟩:∃ m:Nat,aft T t = (m:Int):=⟨(aft T t).toNat,by have:=aft0 T t; omega⟩
 have hmT:m≤T.length:=by have:=aft_le T t; omega
 have hl:=hV.t
 have hi2:=hV.i
 refine Exists.elim (loop_det (C:=V27) (c:=loopB (bodyOf Tryz.f27) 0) (fun s:Nat×Int=>k27 (blk6 T I X C L S U) t s.2 (s.1:Int)) (fun s=>s.1≤T.length∧s.2 = lin I (min s.1 m)) (fun s=>T.length - s.1) (fun _:Unit=>True) (fun _=>[i6 (inE T I t)])
  (fun K=>loopK V27 (bodyOf Tryz.f27) 0 (finK V27 Tryz.f27 K)) rfl (fun s hs=>?_) (0,0) ⟨Nat.zero_le _,by show (0:Int) = lin I (min 0 m); rw [Nat.zero_min]; rfl⟩) (fun v hv=>hv.2)
 obtain ⟨i,kk⟩:=s
 obtain ⟨i1,i2⟩:=hs
 have i1:i≤T.length:=i1
 have i2:kk = lin I (min i m):=i2
 have hw:IntKind.wrap .i64 ((i:Int) + 1) = ((i + 1:Nat):Int):=by rw [w1 (by omega) (by omega)]; first | done | rfl
 by_cases h:i < T.length
 ·have hz:(i:Int) < (T.length:Int):=by omega
  have hz2:(i:Int) < (I.length:Int):=by omega
  have e:List.getD T (Int.toNat (i:Int)) 0 = T.getD i 0:=by rw [Int.toNat_natCast]
  have hq:=aft_iff hV.a hm h
  cases hx:decide (List.getD T (Int.toNat (i:Int)) 0≤t) with
  | true =>
   refine .inl ⟨(i + 1,IntKind.wrap .i64 ((List.getD I (Int.toNat (i:Int)) 0).toNat:Int)),q27,_,⟨by show i + 1≤T.length; omega,?_⟩,by show T.length - (i + 1) < T.length - i; omega,?_,fun K' hK'=>by
    show evCode V27 (loopB (bodyOf Tryz.f27) 0) (k27 (blk6 T I X C L S U) t kk (i:Int)) K'
    rw [g27_lp,hw]
    exact brn_T (decide_eq_true hz) ⟨by omega,hz,brn_T hx ⟨by omega,hz2,hK'⟩⟩⟩
   ·show IntKind.wrap .i64 ((List.getD I (Int.toNat (i:Int)) 0).toNat:Int) = lin I (min (i + 1) m)
    have him:i < m:=hq.1 (by rw [← e]; exact of_decide_eq_true hx)
    rw [wrapB6,Nat.min_eq_left (by omega),Int.toNat_natCast]
    first | done | rfl
   ·kernel_rfl
  | false =>
   refine .inl ⟨(i + 1,kk),q27,_,⟨by show i + 1≤T.length; omega,?_⟩,by show T.length - (i + 1) < T.length - i; omega,?_,fun K' hK'=>by
    show evCode V27 (loopB (bodyOf Tryz.f27) 0) (k27 (blk6 T I X C L S U) t kk (i:Int)) K'
    rw [g27_lp,hw]
    exact brn_T (decide_eq_true hz) ⟨by omega,hz,brn_Fa hx hK'⟩⟩
   ·show kk = lin I (min (i + 1) m)
    have him:¬ i < m:=fun hh=>by have:=hq.2 hh; rw [← e] at this; exact absurd this (of_decide_eq_false hx)
    rw [i2,Nat.min_eq_right (by omega),Nat.min_eq_right (by omega)]
   ·kernel_rfl
 ·have hz:¬ (i:Int) < (T.length:Int):=by omega
  refine .inr ⟨.exit 0,_,by simp,fun K' hK'=>by
   show evCode V27 (loopB (bodyOf Tryz.f27) 0) (k27 (blk6 T I X C L S U) t kk (i:Int)) K'
   rw [g27_lp]
   exact brn_Fa (decide_eq_false hz) hK',(),trivial,fun K hK=>?_⟩
  have e:kk = inE T I t:=by rw [i2,inE_lin hm,Nat.min_eq_right (by omega)]
  rw [← e] at hK
  exact Eq.mp (by kernel_rfl) (Eq.mpr (g27_out T I X C L S U t kk (i:Int) K) hK)
theorem ok27:∀ args pres res,sInE args = some (pres,res)→SpecOK Tryz.prog G6 27 args pres res:=by
 intro args pres res h
 unfold sInE at h
 split at h
 case h_2=>cases h
 cases h
 rename_i T I X C L S U t
 refine spec_ok (C:=V27) okH16 noCall_ok Tryz.func27 (by kernel_rfl) (by kernel_rfl) (fun hp=>?_)
 have hV:okV T I X C L S U:=hp (okV T I X C L S U) (by simp)
 refine Eq.mpr (g27_in T I X C L S U t _) ?_
 unfold LoopI
 refine in_ex T I X C L S U t hV _ ?_ q27 _ ?_
 ·rfl
 ·kernel_rfl
theorem okJ1:EOK Tryz.prog J1 G6:=addE_ok (addE_ok okH16 ok28) ok27
theorem win_t {α:Type} (l:List α) (d:α) {i a b:Nat} (ha:a≤i) (hb:i < b) (hl:i < l.length):(l.take (min (i + 1) b)).drop a = (l.take (min i b)).drop a ++ [l.getD i d]:=by
 rw [Nat.min_eq_left (show i + 1≤b by omega),Nat.min_eq_left (show i≤b by omega),take_s hl d]
 exact List.drop_append_of_le_length (by rw [List.length_take]; omega)
theorem win_n {α:Type} (l:List α) {i a b:Nat} (h:i≤a):(l.take (min i b)).drop a = []:=List.drop_eq_nil_of_le (by rw [List.length_take]; omega)
theorem win_f {α:Type} (l:List α) {i a b:Nat} (h:b≤i∨i + 1≤a):(l.take (min (i + 1) b)).drop a = (l.take (min i b)).drop a:=by
 rcases h with h | h
 ·rw [Nat.min_eq_right (show b≤i + 1 by omega),Nat.min_eq_right h]
 ·rw [win_n l h,win_n l (show i≤a by omega)]
theorem win_e {α:Type} (l:List α) {a b n:Nat} (h:b≤n):(l.take (min n b)).drop a = (l.drop a).take (b - a):=by
 rw [Nat.min_eq_right h,List.drop_take]
theorem wrapu8 (c:UInt8):IntKind.wrap .u8 (c.toNat:Int) = (c.toNat:Int):=by
 have h:=c.toNat_lt
 unfold IntKind.wrap
 simp only [IntKind.bits,IntKind.signed]
 exact Int.emod_eq_of_lt (by omega) (by omega)
theorem ub8_eq (I:List UInt8) (i:Nat) (kk:Int):ub8 I (i:Int) kk = [renB kk (I.getD i 0)]:=by
 unfold ub8
 rw [Int.toNat_natCast]
 show [u8 _] = [_]
 congr 1
 unfold renB otF
 cases h1:(IntKind.wrap .i64 ((I.getD i 0).toNat:Int) == 0) with
 | true=>rw [cond_true]; simp only [if_true]
 | false =>
  rw [cond_false]
  cases h2:(IntKind.wrap .i64 ((I.getD i 0).toNat:Int) == kk) with
  | true=>rw [cond_true]; first | done | rfl
  | false =>
   rw [cond_false,wrapB6,wrapu8]; first | done | rfl
theorem otF_lt {i kk:Int} {n:Nat} (h0:0≤i) (h1:i < n) (k0:0≤kk) (k1:kk < n):0≤otF i kk∧otF i kk < n:=by
 unfold otF
 cases i == 0 with
 | true=>exact ⟨k0,k1⟩
 | false =>
  cases i == kk with
  | true=>exact ⟨Int.le_refl 0,by show (0:Int) < n; omega⟩
  | false=>exact ⟨h0,h1⟩
theorem sw_get {α:Type} (l:List α) (d:α) {kk:Int} {i:Nat} (k0:0≤kk) (k1:kk < (l.length:Int)) (hi:i < l.length):(sw l d kk).getD i d = l.getD (otF (i:Int) kk).toNat d:=by
 obtain ⟨k,rfl⟩:∃ k:Nat,kk = (k:Int):=⟨kk.toNat,by omega⟩
 have hk:k < l.length:=by omega
 unfold sw otF
 rw [if_pos k1,Int.toNat_natCast]
 simp only [List.getD_eq_getElem?_getD,List.getElem?_set,List.length_set]
 by_cases h0:i = 0
 ·subst h0
  by_cases h1:k = 0
  ·subst h1; simp [hk]
  ·simp [h1,hk]
   have:0 < l.length:=by omega
   simp [this]
 ·have e0:((i:Int) == 0) = false:=beq_eq_false_iff_ne.mpr (by omega)
  rw [e0,cond_false]
  by_cases h1:k = i
  ·subst h1; simp [hk]
  ·have e1:((i:Int) == (k:Int)) = false:=beq_eq_false_iff_ne.mpr (by omega)
   rw [e1,cond_false,Int.toNat_natCast,if_neg h1,if_neg (show ¬ 0 = i by omega)]
theorem sw_take {α:Type} (l:List α) (d:α) {kk:Int} {i:Nat} (k0:0≤kk) (k1:kk < (l.length:Int)) (hi:i < l.length):(sw l d kk).take (i + 1) = (sw l d kk).take i ++ [l.getD (otF (i:Int) kk).toNat d]:=by
 rw [take_s (by rw [sw_len]; exact hi) d,sw_get l d k0 k1 hi]
theorem sw_nil {α:Type} (d:α) {kk:Int} (k0:0≤kk):sw ([]:List α) d kk = []:=by
 unfold sw
 rw [if_neg (by simp; omega)]
def vres (Tv:List Int) (Iv:List UInt8) (Xv:List (List IV)) (Cv:List UInt8) (Lv:List (List IV)) (Sv Uv:List Bool):List AV:=[.agg [.new (.ints .i64 Tv),.new (.bytes Iv),.new (.sl 3 Xv),.new (.bytes Cv),.new (.sl 2 Lv),.new (.bools Sv),.new (.bools Uv)]]
theorem lc_det (T:List Int) (I:List UInt8) (X:List (List IV)) (C:List UInt8) (L:List (List IV)) (S U:List Bool) (Tv:List Int) (Iv:List UInt8) (Xv:List (List IV)) (Cv:List UInt8) (Sv Uv:List Bool) (hX:okX L) :
  ∀ K:List AV→Prop,K (vres Tv Iv Xv Cv (L.filter isLow) Sv Uv)→∀ p st,norm p st = some (k13c (blk6 T I X C L S U) Tv Iv Xv Cv [] Sv Uv 0)→evCode V13 (.loop (loopB (bodyOf Tryz.f13) 2)) st (loopK V13 (bodyOf Tryz.f13) 2 (finK V13 Tryz.f13 K)):=by
 have hl:=hX.len
 refine Exists.elim (loop_det (C:=V13) (c:=loopB (bodyOf Tryz.f13) 2) (fun s:Nat×List (List IV)=>k13c (blk6 T I X C L S U) Tv Iv Xv Cv s.2 Sv Uv (s.1:Int)) (fun s=>s.1≤L.length∧s.2 = (L.take s.1).filter isLow) (fun s=>L.length - s.1) (fun _:Unit=>True)
  (fun _=>vres Tv Iv Xv Cv (L.filter isLow) Sv Uv)
  (fun K=>loopK V13 (bodyOf Tryz.f13) 2 (finK V13 Tryz.f13 K)) rfl (fun s hs=>?_) (0,[]) ⟨Nat.zero_le _,by simp⟩) (fun v hv=>hv.2)
 obtain ⟨i,acc⟩:=s
 obtain ⟨i1,i2⟩:=hs
 have i1:i≤L.length:=i1
 have i2:acc = (L.take i).filter isLow:=i2
 have ha:acc.length≤i:=by rw [i2]; exact Nat.le_trans (List.length_filter_le _ _) (by rw [List.length_take]; omega)
 have hw:IntKind.wrap .i64 ((i:Int) + 1) = ((i + 1:Nat):Int):=by rw [w1 (by omega) (by omega)]; first | done | rfl
 have x1:(acc.length + 1) * 16≤140737488355328:=by omega
 have x2:acc.length + 1≤140737488355328:=by omega
 by_cases h:i < L.length
 ·have hz:(i:Int) < (L.length:Int):=by omega
  have i0:(0:Int)≤(i:Int):=by omega
  have hk:=hX.kc i (by omega) hz
  have e:List.getD L (Int.toNat (i:Int)) [] = L.getD i []:=by rw [Int.toNat_natCast]
  cases hx:decide (ivInt (ivNth (List.getD L (Int.toNat (i:Int)) []) 0)≤2147483647) with
  | true =>
   refine .inl ⟨(i + 1,acc ++ [lp2 L (i:Int)]),⟨[],msk [1,2,4,7] 0 137,[0,1,2,3,4,5,6,7,8,9]⟩,_,⟨by show i + 1≤L.length; omega,?_⟩,by show L.length - (i + 1) < L.length - i; omega,?_,fun K' hK'=>by
    show evCode V13 (loopB (bodyOf Tryz.f13) 2) (k13c (blk6 T I X C L S U) Tv Iv Xv Cv acc Sv Uv (i:Int)) K'
    rw [g13_lc,hw]
    intro E1 R1
    have h1:R1:=⟨x1,x2,rfl⟩
    exact brn_T (decide_eq_true hz) ⟨i0,hz,hk,brn_T hx ⟨⟨i0,hz,hk,h1,h1,h1⟩,hK'⟩⟩⟩
   ·show acc ++ [kcells (List.getD L (Int.toNat (i:Int)) []) 0 (lapp [CK.int .i64] (lapp [CK.int .i32] []))] = (L.take (i + 1)).filter isLow
    rw [hk,e,take_s h [],List.filter_append,i2]
    have:isLow (L.getD i []) = true:=by
     rw [e] at hx
     have:=of_decide_eq_true hx
     exact decide_eq_true (by omega)
    rw [show [L.getD i []].filter isLow = [L.getD i []] from by rw [List.filter_cons,this]; rfl]
   ·kernel_rfl
  | false =>
   refine .inl ⟨(i + 1,acc),⟨[],msk [1,2,4,7] 0 137,[0,1,2,3,4,5,6,7,8,9]⟩,_,⟨by show i + 1≤L.length; omega,?_⟩,by show L.length - (i + 1) < L.length - i; omega,?_,fun K' hK'=>by
    show evCode V13 (loopB (bodyOf Tryz.f13) 2) (k13c (blk6 T I X C L S U) Tv Iv Xv Cv acc Sv Uv (i:Int)) K'
    rw [g13_lc,hw]
    intro E1 R1
    exact brn_T (decide_eq_true hz) ⟨i0,hz,hk,brn_Fa hx hK'⟩⟩
   ·show acc = (L.take (i + 1)).filter isLow
    rw [take_s h [],List.filter_append,i2]
    have:isLow (L.getD i []) = false:=by
     rw [e] at hx
     have:=of_decide_eq_false hx
     exact decide_eq_false (by omega)
    rw [show [L.getD i []].filter isLow = [] from by rw [List.filter_cons,this]; rfl,List.append_nil]
   ·kernel_rfl
 ·have hz:¬ (i:Int) < (L.length:Int):=by omega
  refine .inr ⟨.exit 4,_,by simp,fun K' hK'=>by
   show evCode V13 (loopB (bodyOf Tryz.f13) 2) (k13c (blk6 T I X C L S U) Tv Iv Xv Cv acc Sv Uv (i:Int)) K'
   rw [g13_lc]
   intro E1 R1
   exact brn_Fa (decide_eq_false hz) hK',(),trivial,fun K hK=>?_⟩
  have e:acc = L.filter isLow:=by rw [i2,List.take_of_length_le (by omega)]
  rw [← e] at hK
  exact Eq.mp (by kernel_rfl) (Eq.mpr (g13_oc T I X C L S U Tv Iv Xv Cv acc Sv Uv (i:Int) K) hK)
theorem lb_det (T:List Int) (I:List UInt8) (X:List (List IV)) (C:List UInt8) (L:List (List IV)) (S U:List Bool) (kk:Int) (Tv:List Int) (Iv:List UInt8) (hL:okX L) (hT:okT6 X) (hC:(C.length:Int)≤1000000) (k0:0≤kk) (k1:kk < (X.length:Int)) (hS:S = []∨S.length = X.length) (hU:U = []∨U.length = X.length) :
  ∀ K:List AV→Prop,K (vres Tv Iv (sw X [] kk) C (L.filter isLow) (sw S false kk) (sw U false kk))→∀ p st,norm p st = some (k13b (blk6 T I X C L S U) kk Tv Iv [] [] [] 0)→evCode V13 (.loop (loopB (bodyOf Tryz.f13) 1)) st (loopK V13 (bodyOf Tryz.f13) 1 (finK V13 Tryz.f13 K)):=by
 have hl:=hT.len
 have hSn:∀ n,S = []→(sw S false kk).take n = []:=fun n h=>by rw [h,sw_nil false k0,List.take_nil]
 have hUn:∀ n,U = []→(sw U false kk).take n = []:=fun n h=>by rw [h,sw_nil false k0,List.take_nil]
 refine Exists.elim (loop_det (C:=V13) (c:=loopB (bodyOf Tryz.f13) 1) (fun s:Nat×List (List IV)×List Bool×List Bool=>k13b (blk6 T I X C L S U) kk Tv Iv s.2.1 s.2.2.1 s.2.2.2 (s.1:Int)) (fun s=>s.1≤X.length∧s.2.1 = (sw X [] kk).take s.1∧s.2.2.1 = (sw S false kk).take s.1∧s.2.2.2 = (sw U false kk).take s.1) (fun s=>X.length - s.1) (fun _:Unit=>True)
  (fun _=>vres Tv Iv (sw X [] kk) C (L.filter isLow) (sw S false kk) (sw U false kk))
  (fun K=>loopK V13 (bodyOf Tryz.f13) 1 (finK V13 Tryz.f13 K)) rfl (fun s hs=>?_) (0,[],[],[]) ⟨Nat.zero_le _,by simp,by simp,by simp⟩) (fun v hv=>hv.2)
 obtain ⟨i,Xv,Sv,Uv⟩:=s
 obtain ⟨i1,i2,i3,i4⟩:=hs
 have i1:i≤X.length:=i1
 have i2:Xv = (sw X [] kk).take i:=i2
 have i3:Sv = (sw S false kk).take i:=i3
 have i4:Uv = (sw U false kk).take i:=i4
 have hx:Xv.length≤1000000:=by rw [i2,List.length_take]; omega
 have hs:Sv.length≤1000000:=by rw [i3,List.length_take]; omega
 have hu:Uv.length≤1000000:=by rw [i4,List.length_take]; omega
 have x1:(Xv.length + 1) * 8≤140737488355328:=by omega
 have x2:Xv.length + 1≤140737488355328:=by omega
 have s1:(Sv.length + 1) * 1≤140737488355328:=by omega
 have s2:Sv.length + 1≤140737488355328:=by omega
 have u1:(Uv.length + 1) * 1≤140737488355328:=by omega
 have u2:Uv.length + 1≤140737488355328:=by omega
 have hw:IntKind.wrap .i64 ((i:Int) + 1) = ((i + 1:Nat):Int):=by rw [w1 (by omega) (by omega)]; first | done | rfl
 by_cases h:i < X.length
 ·have hz:(i:Int) < (X.length:Int):=by omega
  obtain ⟨o0,o1⟩:=otF_lt (n:=X.length) (show (0:Int)≤(i:Int) by omega) hz k0 k1
  have hk:=hT.kc _ o0 o1
  have nX:Xv ++ [ty3 X (otF (i:Int) kk)] = (sw X [] kk).take (i + 1):=by
   rw [sw_take X [] k0 k1 h,← i2]
   show Xv ++ [kcells (List.getD X (Int.toNat (otF (i:Int) kk)) []) 0 (lapp [CK.int .i32] (lapp [CK.bool] (lapp [CK.int .u8] [])))] = _
   rw [hk]
  have nS:S.length = X.length→Sv ++ [List.getD S (Int.toNat (otF (i:Int) kk)) false] = (sw S false kk).take (i + 1):=fun e=>by
   rw [sw_take S false k0 (by rw [e]; exact k1) (by rw [e]; exact h),← i3]
  have nU:U.length = X.length→Uv ++ [List.getD U (Int.toNat (otF (i:Int) kk)) false] = (sw U false kk).take (i + 1):=fun e=>by
   rw [sw_take U false k0 (by rw [e]; exact k1) (by rw [e]; exact h),← i4]
  have gt:∀ l:List Bool,l.length = X.length→decide ((l.length:Int) > 0) = true:=fun l e=>decide_eq_true (by rw [e]; omega)
  rcases hS with hS | hS
  ·have cS:decide ((S.length:Int) > 0) = false:=by rw [hS]; first | done | rfl
   rcases hU with hU | hU
   ·have cU:decide ((U.length:Int) > 0) = false:=by rw [hU]; first | done | rfl
    refine .inl ⟨(i + 1,Xv ++ [ty3 X (otF (i:Int) kk)],Sv,Uv),⟨[],msk [1,2,3,4,6] 0 137,[0,1,2,3,4,5,6,7]⟩,_,⟨by show i + 1≤X.length; omega,nX,by rw [i3,hSn _ hS,hSn _ hS],by rw [i4,hUn _ hU,hUn _ hU]⟩,by show X.length - (i + 1) < X.length - i; omega,?_,fun K' hK'=>by
     show evCode V13 (loopB (bodyOf Tryz.f13) 1) (k13b (blk6 T I X C L S U) kk Tv Iv Xv Sv Uv (i:Int)) K'
     rw [g13_lb,hw]
     intro E1 E2 E3 E4 R1
     have h1:R1:=⟨x1,x2,rfl⟩
     exact brn_T (decide_eq_true hz) ⟨⟨⟨o0,o1,hk,h1⟩,o0,o1,hk,h1,h1,h1⟩,brn_Fa cS (brn_Fa cU hK')⟩⟩
    kernel_rfl
   ·have cU:=gt U hU
    have o2:otF (i:Int) kk < (U.length:Int):=by rw [hU]; exact o1
    refine .inl ⟨(i + 1,Xv ++ [ty3 X (otF (i:Int) kk)],Sv,Uv ++ [List.getD U (Int.toNat (otF (i:Int) kk)) false]),⟨[],msk [1,2,3,4,6] 0 137,[0,1,2,3,4,5,6,7]⟩,_,⟨by show i + 1≤X.length; omega,nX,by rw [i3,hSn _ hS,hSn _ hS],nU hU⟩,by show X.length - (i + 1) < X.length - i; omega,?_,fun K' hK'=>by
     show evCode V13 (loopB (bodyOf Tryz.f13) 1) (k13b (blk6 T I X C L S U) kk Tv Iv Xv Sv Uv (i:Int)) K'
     rw [g13_lb,hw]
     intro E1 E2 E3 E4 R1
     have h1:R1:=⟨x1,x2,rfl⟩
     exact brn_T (decide_eq_true hz) ⟨⟨⟨o0,o1,hk,h1⟩,o0,o1,hk,h1,h1,h1⟩,brn_Fa cS (brn_T cU ⟨⟨⟨o0,o2,u1,u2,rfl⟩,o0,o2,⟨u1,u2,rfl⟩,⟨u1,u2,rfl⟩,u1,u2,rfl⟩,hK'⟩)⟩⟩
    kernel_rfl
  ·have cS:=gt S hS
   have p2:otF (i:Int) kk < (S.length:Int):=by rw [hS]; exact o1
   rcases hU with hU | hU
   ·have cU:decide ((U.length:Int) > 0) = false:=by rw [hU]; first | done | rfl
    refine .inl ⟨(i + 1,Xv ++ [ty3 X (otF (i:Int) kk)],Sv ++ [List.getD S (Int.toNat (otF (i:Int) kk)) false],Uv),⟨[],msk [1,2,3,4,6] 0 137,[0,1,2,3,4,5,6,7]⟩,_,⟨by show i + 1≤X.length; omega,nX,nS hS,by rw [i4,hUn _ hU,hUn _ hU]⟩,by show X.length - (i + 1) < X.length - i; omega,?_,fun K' hK'=>by
     show evCode V13 (loopB (bodyOf Tryz.f13) 1) (k13b (blk6 T I X C L S U) kk Tv Iv Xv Sv Uv (i:Int)) K'
     rw [g13_lb,hw]
     intro E1 E2 E3 E4 R1
     have h1:R1:=⟨x1,x2,rfl⟩
     exact brn_T (decide_eq_true hz) ⟨⟨⟨o0,o1,hk,h1⟩,o0,o1,hk,h1,h1,h1⟩,brn_T cS ⟨⟨⟨o0,p2,s1,s2,rfl⟩,o0,p2,⟨s1,s2,rfl⟩,⟨s1,s2,rfl⟩,s1,s2,rfl⟩,brn_Fa cU hK'⟩⟩⟩
    kernel_rfl
   ·have cU:=gt U hU
    have o2:otF (i:Int) kk < (U.length:Int):=by rw [hU]; exact o1
    refine .inl ⟨(i + 1,Xv ++ [ty3 X (otF (i:Int) kk)],Sv ++ [List.getD S (Int.toNat (otF (i:Int) kk)) false],Uv ++ [List.getD U (Int.toNat (otF (i:Int) kk)) false]),⟨[],msk [1,2,3,4,6] 0 137,[0,1,2,3,4,5,6,7]⟩,_,⟨by show i + 1≤X.length; omega,nX,nS hS,nU hU⟩,by show X.length - (i + 1) < X.length - i; omega,?_,fun K' hK'=>by
     show evCode V13 (loopB (bodyOf Tryz.f13) 1) (k13b (blk6 T I X C L S U) kk Tv Iv Xv Sv Uv (i:Int)) K'
     rw [g13_lb,hw]
     intro E1 E2 E3 E4 R1
     have h1:R1:=⟨x1,x2,rfl⟩
     exact brn_T (decide_eq_true hz) ⟨⟨⟨o0,o1,hk,h1⟩,o0,o1,hk,h1,h1,h1⟩,brn_T cS ⟨⟨⟨o0,p2,s1,s2,rfl⟩,o0,p2,⟨s1,s2,rfl⟩,⟨s1,s2,rfl⟩,s1,s2,rfl⟩,brn_T cU ⟨⟨⟨o0,o2,u1,u2,rfl⟩,o0,o2,⟨u1,u2,rfl⟩,⟨u1,u2,rfl⟩,u1,u2,rfl⟩,hK'⟩⟩⟩⟩
    kernel_rfl
 ·have hz:¬ (i:Int) < (X.length:Int):=by omega
  refine .inr ⟨.exit 2,_,by simp,fun K' hK'=>by
   show evCode V13 (loopB (bodyOf Tryz.f13) 1) (k13b (blk6 T I X C L S U) kk Tv Iv Xv Sv Uv (i:Int)) K'
   rw [g13_lb]
   intro E1 E2 E3 E4 R1
   exact brn_Fa (decide_eq_false hz) hK',(),trivial,fun K hK=>?_⟩
  have tk:∀ l:List Bool,(l = []∨l.length = X.length)→(sw l false kk).take i = sw l false kk:=fun l hl=>List.take_of_length_le (by
   rw [sw_len]
   rcases hl with e | e
   ·rw [e]; exact Nat.zero_le _
   ·omega)
  have e2:Xv = sw X [] kk:=by rw [i2,List.take_of_length_le (by rw [sw_len]; omega)]
  have e3:Sv = sw S false kk:=by rw [i3,tk S hS]
  have e4:Uv = sw U false kk:=by rw [i4,tk U hU]
  rw [← e2,← e3,← e4] at hK
  have key:=lc_det T I X C L S U Tv Iv Xv C Sv Uv hL K hK
  refine Eq.mp (by kernel_rfl) (Eq.mpr (g13_ob T I X C L S U kk Tv Iv Xv Sv Uv (i:Int) K) ?_)
  have c1:(0 + C.length) * 1≤140737488355328:=by omega
  have c2:0 + C.length≤140737488355328:=by omega
  refine ⟨c1,c2,?_⟩
  unfold LoopI
  exact key q13k _ (by kernel_rfl)
end Q6
namespace Q6
open Go Go.AE Go.Proofs
noncomputable section
structure okVR (T:List Int) (I:List UInt8) (X:List (List IV)) (C:List UInt8) (L:List (List IV)) (S U:List Bool):Prop where
 v:okV T I X C L S U
 x:X≠[]
 i:∀ j:Nat,j < I.length→(I.getD j 0).toNat < X.length
 s:S = []∨S.length = X.length
 u:U = []∨U.length = X.length
def sViewR:List AV→Option (List Prop×List AV)
 | [.agg [.imm (.ints .i64 T),.imm (.bytes I),.imm (.sl 3 X),.imm (.bytes C),.imm (.sl 2 L),.imm (.bools S),.imm (.bools U)]]=>some ([okVR T I X C L S U],
   [.agg [.imm (.ints .i64 (vT T)),.imm (.bytes ((vJ T I).map (renB (vK T I)))),.imm (.sl 3 (sw X [] (vK T I))),.imm (.bytes C),.imm (.sl 2 (L.filter isLow)),.imm (.bools (sw S false (vK T I))),.imm (.bools (sw U false (vK T I)))]])
 | _=>none
structure okER (n:Int) (T:List Int) (I:List UInt8) (X:List (List IV)) (C:List UInt8) (L:List (List IV)) (S U:List Bool) (T':List Int) (I':List UInt8) (X':List (List IV)) (C':List UInt8) (L':List (List IV)) (S' U':List Bool) (f:List UInt8):Prop where
 n1:1≤n
 l1:PF.okL (av n L L')
 c1:((av n L L').length:Int)≤1000000
 f1:(f.length:Int)≤1000000
 w1:f = []∨P9.whyP f = 0
def sExR:List AV→Option (List Prop×List AV)
 | [.agg [.imm (.int .i64 n),.imm (.ints .i64 T),.imm (.bytes I),.imm (.sl 3 X),.imm (.bytes C),.imm (.sl 2 L),.imm (.bools S),.imm (.bools U),.imm (.ints .i64 T'),.imm (.bytes I'),.imm (.sl 3 X'),.imm (.bytes C'),.imm (.sl 2 L'),.imm (.bools S'),.imm (.bools U'),.imm (.str f)],.imm (.int .i64 v)]=>some ([okER n T I X C L S U T' I' X' C' L' S' U' f],[bo6 (exV n v L L' f)])
 | _=>none
structure okTR (n:Int) (T:List Int) (I:List UInt8) (X:List (List IV)) (C:List UInt8) (L:List (List IV)) (S U:List Bool) (T':List Int) (I':List UInt8) (X':List (List IV)) (C':List UInt8) (L':List (List IV)) (S' U':List Bool) (f:List UInt8) (v:Int):Prop where
 e1:okER n T I X C L S U T' I' X' C' L' S' U' f
 v1:v = 1→1 < n→okVR T' I' X' C' L' S' U'
def sToR:List AV→Option (List Prop×List AV)
 | [.agg [.imm (.int .i64 n),.imm (.ints .i64 T),.imm (.bytes I),.imm (.sl 3 X),.imm (.bytes C),.imm (.sl 2 L),.imm (.bools S),.imm (.bools U),.imm (.ints .i64 T'),.imm (.bytes I'),.imm (.sl 3 X'),.imm (.bytes C'),.imm (.sl 2 L'),.imm (.bools S'),.imm (.bools U'),.imm (.str f)],.imm (.int .i64 v)]=>some ([okTR n T I X C L S U T' I' X' C' L' S' U' f v],[.agg [.imm (.int .i64 (p5 (toC n v L L' f) 0 n v v)),.imm (.ints .i64 (p5 (toC n v L L' f) [] T (vT (av n T T')) [])),.imm (.bytes (p5 (toC n v L L' f) [] I ((vJ (av n T T') (av n I I')).map (renB (vK (av n T T') (av n I I')))) [])),.imm (.sl 3 (p5 (toC n v L L' f) [] X (sw (av n X X') [] (vK (av n T T') (av n I I'))) [[.int .i32 0,.bool false,.int .u8 0]])),.imm (.bytes (p5 (toC n v L L' f) [] C (av n C C') [0])),.imm (.sl 2 (p5 (toC n v L L' f) [] L ((av n L L').filter isLow) [])),.imm (.bools (p5 (toC n v L L' f) [] S (sw (av n S S') false (vK (av n T T') (av n I I'))) [])),.imm (.bools (p5 (toC n v L L' f) [] U (sw (av n U U') false (vK (av n T T') (av n I I'))) [])),.imm (.ints .i64 (p5 (toC n v L L' f) [] T' [] (av n T T'))),.imm (.bytes (p5 (toC n v L L' f) [] I' [] (av n I I'))),.imm (.sl 3 (p5 (toC n v L L' f) [] X' [] (av n X X'))),.imm (.bytes (p5 (toC n v L L' f) [] C' [] (av n C C'))),.imm (.sl 2 (p5 (toC n v L L' f) [] L' [] (av n L L'))),.imm (.bools (p5 (toC n v L L' f) [] S' [] (av n S S'))),.imm (.bools (p5 (toC n v L L' f) [] U' [] (av n U U'))),.imm (.str (p5 (toC n v L L' f) [] f [] f))],i6 (toE (toC n v L L' f))])
 | _=>none
def J2:=addE (addE J1 13 sViewR) 15 sSlim
def J3:=addE J2 10 sExR
def J4:=addE J3 7 sToR
def V10r:Cx:=⟨Tryz.prog,J2,noCall,G6,4008⟩
def V7r:Cx:=⟨Tryz.prog,J3,noCall,G6,4008⟩
def V3Z:Cx:=⟨Tryz.prog,J4,noCall,G6,4009⟩
end
end Q6
set_option maxRecDepth 100000
namespace Q6
open Go Go.AE Go.Proofs PE PF
attribute [local irreducible] loopK evCode evSpec loopB norm
theorem la_det (T:List Int) (I:List UInt8) (X:List (List IV)) (C:List UInt8) (L:List (List IV)) (S U:List Bool) (kk:Int) (hV:okV T I X C L S U) (k0:0≤kk) (k1:kk < (X.length:Int)) (hS:S = []∨S.length = X.length) (hU:U = []∨U.length = X.length) :
  ∀ K:List AV→Prop,K (vres (vT T) ((vJ T I).map (renB kk)) (sw X [] kk) C (L.filter isLow) (sw S false kk) (sw U false kk))→∀ p st,norm p st = some (k13a (blk6 T I X C L S U) kk [] [] 0)→evCode V13 (.loop (loopB (bodyOf Tryz.f13) 0)) st (loopK V13 (bodyOf Tryz.f13) 0 (finK V13 Tryz.f13 K)):=by
 have hl:=hV.t
 have hIl:=hV.i
 obtain ⟨a,ha⟩:∃ a:Nat,aft T lowL = (a:Int):=⟨(aft T lowL).toNat,by have:=aft0 T lowL; omega⟩
 obtain ⟨b,hb⟩:∃ b:Nat,aft T highL = (b:Int):=⟨(aft T highL).toNat,by have:=aft0 T highL; omega⟩
 have hab:a≤b:=by have:=aft_mono T (show lowL≤highL by decide); omega
 have hbT:b≤T.length:=by have:=aft_le T highL; omega
 have eT:vT T = (T.drop a).take (b - a):=by unfold vT; rw [ha,hb,Int.toNat_natCast,Int.toNat_natCast]
 have eJ:vJ T I = (I.drop a).take (b - a):=by unfold vJ; rw [ha,hb,Int.toNat_natCast,Int.toNat_natCast]
 refine Exists.elim (loop_det (C:=V13) (c:=loopB (bodyOf Tryz.f13) 0) (fun s:Nat×List Int×List UInt8=>k13a (blk6 T I X C L S U) kk s.2.1 s.2.2 (s.1:Int)) (fun s=>s.1≤T.length∧s.2.1 = (T.take (min s.1 b)).drop a∧s.2.2 = ((I.take (min s.1 b)).drop a).map (renB kk)) (fun s=>T.length - s.1) (fun _:Unit=>True)
  (fun _=>vres (vT T) ((vJ T I).map (renB kk)) (sw X [] kk) C (L.filter isLow) (sw S false kk) (sw U false kk))
  (fun K=>loopK V13 (bodyOf Tryz.f13) 0 (finK V13 Tryz.f13 K)) rfl (fun s hs=>?_) (0,[],[]) ⟨Nat.zero_le _,by simp,by simp⟩) (fun v hv=>hv.2)
 obtain ⟨i,Tv,Iv⟩:=s
 obtain ⟨i1,i2,i3⟩:=hs
 have i1:i≤T.length:=i1
 have i2:Tv = (T.take (min i b)).drop a:=i2
 have i3:Iv = ((I.take (min i b)).drop a).map (renB kk):=i3
 have hx:Tv.length≤1000000:=by rw [i2,List.length_drop,List.length_take]; omega
 have hy:Iv.length≤1000000:=by rw [i3,List.length_map,List.length_drop,List.length_take]; omega
 have x1:(Tv.length + 1) * 8≤140737488355328:=by omega
 have x2:Tv.length + 1≤140737488355328:=by omega
 have y1:(Iv.length + 1) * 1≤140737488355328:=by omega
 have y2:Iv.length + 1≤140737488355328:=by omega
 have hw:IntKind.wrap .i64 ((i:Int) + 1) = ((i + 1:Nat):Int):=by rw [w1 (by omega) (by omega)]; first | done | rfl
 by_cases h:i < T.length
 ·have hz:(i:Int) < (T.length:Int):=by omega
  have hI:(i:Int) < (I.length:Int):=by omega
  have i0:(0:Int)≤(i:Int):=by omega
  have e:List.getD T (Int.toNat (i:Int)) 0 = T.getD i 0:=by rw [Int.toNat_natCast]
  have qa:=aft_iff hV.a ha h
  have qb:=aft_iff hV.a hb h
  have la:lowL = -2147483649:=rfl
  have lb:highL = 2147483647:=rfl
  cases hc:(decide (List.getD T (Int.toNat (i:Int)) 0≥-2147483648) && decide (List.getD T (Int.toNat (i:Int)) 0≤2147483647)) with
  | true =>
   refine .inl ⟨(i + 1,Tv ++ [List.getD T (Int.toNat (i:Int)) 0],Iv ++ ub8 I (i:Int) kk),⟨[],msk [1,2,3,4,5] 0 137,[0,1,2,3,4]⟩,_,⟨by show i + 1≤T.length; omega,?_,?_⟩,by show T.length - (i + 1) < T.length - i; omega,?_,fun K' hK'=>by
    show evCode V13 (loopB (bodyOf Tryz.f13) 0) (k13a (blk6 T I X C L S U) kk Tv Iv (i:Int)) K'
    rw [g13_la,hw]
    intro E1 E2 R1
    have h1:R1:=⟨y1,y2,rfl⟩
    exact brn_T (decide_eq_true hz) ⟨i0,hz,fun _=>i0,fun _=>hz,brn_T hc ⟨⟨i0,hz,⟨x1,x2,rfl⟩,⟨x1,x2,rfl⟩,x1,x2,rfl⟩,⟨i0,hI,h1,h1,h1,h1⟩,hK'⟩⟩⟩
   ·rw [Bool.and_eq_true,decide_eq_true_eq,decide_eq_true_eq,e] at hc
    show Tv ++ [List.getD T (Int.toNat (i:Int)) 0] = (T.take (min (i + 1) b)).drop a
    have hai:a≤i:=by
     rcases Nat.lt_or_ge i a with h2 | h2
     ·have:=qa.2 h2
      omega
     ·exact h2
    rw [win_t T 0 hai (qb.1 (by omega)) h,e,i2]
   ·rw [Bool.and_eq_true,decide_eq_true_eq,decide_eq_true_eq,e] at hc
    show Iv ++ ub8 I (i:Int) kk = ((I.take (min (i + 1) b)).drop a).map (renB kk)
    have hai:a≤i:=by
     rcases Nat.lt_or_ge i a with h2 | h2
     ·have:=qa.2 h2
      omega
     ·exact h2
    rw [win_t I 0 hai (qb.1 (by omega)) (by omega),List.map_append,ub8_eq,i3]
    first | done | rfl
   ·kernel_rfl
  | false =>
   have hwin:b≤i∨i + 1≤a:=by
    rw [Bool.and_eq_false_iff,decide_eq_false_iff_not,decide_eq_false_iff_not,e] at hc
    rcases Nat.lt_or_ge i b with h2 | h2
    ·have h3:=qb.2 h2
     have:=qa.1 (by omega)
     omega
    ·exact .inl h2
   refine .inl ⟨(i + 1,Tv,Iv),⟨[],msk [1,2,3,4,5] 0 137,[0,1,2,3,4]⟩,_,⟨by show i + 1≤T.length; omega,?_,?_⟩,by show T.length - (i + 1) < T.length - i; omega,?_,fun K' hK'=>by
    show evCode V13 (loopB (bodyOf Tryz.f13) 0) (k13a (blk6 T I X C L S U) kk Tv Iv (i:Int)) K'
    rw [g13_la,hw]
    intro E1 E2 R1
    exact brn_T (decide_eq_true hz) ⟨i0,hz,fun _=>i0,fun _=>hz,brn_Fa hc hK'⟩⟩
   ·show Tv = (T.take (min (i + 1) b)).drop a
    rw [win_f T hwin,i2]
   ·show Iv = ((I.take (min (i + 1) b)).drop a).map (renB kk)
    rw [win_f I hwin,i3]
   ·kernel_rfl
 ·have hz:¬ (i:Int) < (T.length:Int):=by omega
  refine .inr ⟨.exit 0,_,by simp,fun K' hK'=>by
   show evCode V13 (loopB (bodyOf Tryz.f13) 0) (k13a (blk6 T I X C L S U) kk Tv Iv (i:Int)) K'
   rw [g13_la]
   intro E1 E2 R1
   exact brn_Fa (decide_eq_false hz) hK',(),trivial,fun K hK=>?_⟩
  have e2:Tv = vT T:=by rw [i2,eT,win_e T (by omega)]
  have e3:Iv = (vJ T I).map (renB kk):=by rw [i3,eJ,win_e I (by omega)]
  rw [← e2,← e3] at hK
  have key:=lb_det T I X C L S U kk Tv Iv hV.l hV.x hV.c k0 k1 hS hU K hK
  refine Eq.mp (by kernel_rfl) (Eq.mpr (g13_oa T I X C L S U kk Tv Iv (i:Int) K) ?_)
  unfold LoopI
  exact key q13j _ (by kernel_rfl)
theorem vK_lt {T:List Int} {I:List UInt8} {X:List (List IV)} {C:List UInt8} {L:List (List IV)} {S U:List Bool} (h:okVR T I X C L S U):0≤vK T I∧vK T I < (X.length:Int):=by
 refine ⟨(inE0 T I lowL).1,?_⟩
 obtain ⟨a,ha⟩:∃ a:Nat,aft T lowL = (a:Int):=⟨(aft T lowL).toNat,by have:=aft0 T lowL; omega⟩
 have h2:=aft_le T lowL
 have h3:=h.v.i
 have hX:0 < X.length:=List.length_pos_iff.2 h.x
 unfold vK
 rw [inE_lin ha]
 cases a with
 | zero=>show (0:Int) < (X.length:Int); omega
 | succ a =>
  have:=h.i a (by omega)
  show ((I.getD a 0).toNat:Int) < (X.length:Int)
  omega
theorem ok13:∀ args pres res,sViewR args = some (pres,res)→SpecOK Tryz.prog G6 13 args pres res:=by
 intro args pres res h
 unfold sViewR at h
 split at h
 case h_2=>cases h
 cases h
 rename_i T I X C L S U
 refine spec_okS (C:=V13) okJ1 noCall_ok Tryz.func13 (by kernel_rfl) (by kernel_rfl) (fun hp=>?_)
 have hV:okVR T I X C L S U:=hp (okVR T I X C L S U) (by simp)
 have hk:=vK_lt hV
 refine Eq.mpr (g13_in T I X C L S U _) ⟨hV.v,?_⟩
 unfold LoopI
 refine la_det T I X C L S U (vK T I) hV.v hk.1 hk.2 hV.s hV.u _ ?_ q13i _ ?_
 ·rfl
 ·kernel_rfl
theorem ok15:∀ args pres res,sSlim args = some (pres,res)→SpecOK Tryz.prog G6 15 args pres res:=by
 intro args pres res h
 unfold sSlim at h
 split at h
 case h_2=>cases h
 cases h
 refine spec_okS (C:=V15) okJ1 noCall_ok Tryz.func15 (by kernel_rfl) (by kernel_rfl) (fun hp=>?_)
 exact Eq.mpr (g15_in _) rfl
theorem okJ2:EOK Tryz.prog J2 G6:=addE_ok (addE_ok okJ1 ok13) ok15
theorem r10_in (n:Int) (T:List Int) (I:List UInt8) (X:List (List IV)) (C:List UInt8) (L:List (List IV)) (S:List Bool) (U:List Bool) (T':List Int) (I':List UInt8) (X':List (List IV)) (C':List UInt8) (L':List (List IV)) (S':List Bool) (U':List Bool) (f:List UInt8) (v:Int) (K:List AV→Prop):evSpec V10r Tryz.f10 [.agg (fil n T I X C L S U T' I' X' C' L' S' U' f),i6 v] K = ((decide (v < 4) = true→PF.okL (av1 n L L'))∧(decide (v < 4) = true→(↑(av1 n L L').length:Int)≤1000000)∧brn (decide (v < 4) && (!PF.lvV (PF.lps (av1 n L L')) (3:Int) && PF.lvV (PF.lps (av1 n L L')) (4:Int))) (K [.imm (.bool false)]) (brn (decide (f = []) || decide (v≥3)) (K [.imm (.bool true)]) ((f.length:Int)≤1000000∧K [.imm (.bool !(extU (pzV f).h (pzV f).f (pzV f).f'))]))):=by kernel_rfl
theorem r7_in (n:Int) (T:List Int) (I:List UInt8) (X:List (List IV)) (C:List UInt8) (L:List (List IV)) (S:List Bool) (U:List Bool) (T':List Int) (I':List UInt8) (X':List (List IV)) (C':List UInt8) (L':List (List IV)) (S':List Bool) (U':List Bool) (f:List UInt8) (v:Int) (K:List AV→Prop):evSpec V7r Tryz.f7 [.agg (fil n T I X C L S U T' I' X' C' L' S' U' f),i6 v] K = (let E1:Prop:=((sm (St.mk (lapp [.agg [.imm (.int .i64 n),.imm (.ints IntKind.i64 T),.imm (.bytes I),.imm (.sl (3:Nat) X),.imm (.bytes C),.imm (.sl (2:Nat) L),.imm (.bools S),.imm (.bools U),.imm (.ints IntKind.i64 T'),.imm (.bytes I'),.imm (.sl (3:Nat) X'),.imm (.bytes C'),.imm (.sl (2:Nat) L'),.imm (.bools S'),.imm (.bools U'),.imm (.str f)],.imm (.int .i64 v),.ptr 0 0,.dead,.ptr 1 0,.imm (.int .i64 0),.imm (.int .i64 v),.imm (.bool (decide (v < 1)))] (lapp (dN 21) [.imm (.int .i64 v),.agg [.imm (.ints IntKind.i64 []),.imm (.bytes []),.imm (.sl (3:Nat) [[IV.int IntKind.i32 (0:Int),IV.bool false,IV.int .u8 0]]),.imm (.bytes [(0:UInt8)]),.imm (.sl (2:Nat) []),.imm (.bools []),.imm (.bools [])],.ptr 0 8,.agg [.imm (.ints
 IntKind.i64 T'),.imm (.bytes I'),.imm (.sl (3:Nat) X'),.imm (.bytes C'),.imm (.sl (2:Nat) L'),.imm (.bools S'),.imm (.bools U')],.ptr 0 15,.imm (.str f),.agg [.imm (.int .i64 v),.imm (.ints IntKind.i64 []),.imm (.bytes []),.imm (.sl (3:Nat) [[IV.int IntKind.i32 (0:Int),IV.bool false,IV.int .u8 0]]),.imm (.bytes [(0:UInt8)]),.imm (.sl (2:Nat) []),.imm (.bools []),.imm (.bools []),.imm (.ints IntKind.i64 T'),.imm (.bytes I'),.imm (.sl (3:Nat) X'),.imm (.bytes C'),.imm (.sl (2:Nat) L'),.imm (.bools S'),.imm (.bools U'),.imm (.str f)]])) [(0,Ob.mk true 0 (AObj.cells [.imm (.int .i64 n),.imm (.ints IntKind.i64 T),.imm (.bytes I),.imm (.sl (3:Nat) X),.imm (.bytes C),.imm (.sl (2:Nat) L),.imm (.bools S),.imm (.bools U),.imm (.ints IntKind.i64 T'),.imm (.bytes I'),.imm (.sl (3:Nat) X'),.imm (.bytes C'),.imm (.sl (2:Nat) L'),.imm (.bools S'),.imm (.bools U'),.imm (.str f)])),(1,Ob.mk true 0 (AObj.cells [.imm (.int .i64 v),.imm (.ints IntKind.i64 []),.imm (.bytes []),.imm (.sl (3:Nat) [[IV.int IntKind.i32 (0:Int),IV.bool false,IV.int .u8 0]]),.imm (.bytes [(0:UInt8)]),.imm (.sl (2:Nat) []),.imm (.bools []),
 .imm (.bools []),.imm (.ints IntKind.i64 T'),.imm (.bytes I'),.imm (.sl (3:Nat) X'),.imm (.bytes C'),.imm (.sl (2:Nat) L'),.imm (.bools S'),.imm (.bools U'),.imm (.str f)]))] (2:Nat) []))); brn (decide (v < 1) || decide (v > 4)) (K [.agg [.imm (.int .i64 0),AV.new (IV.ints IntKind.i64 []),AV.new (IV.bytes []),AV.new (IV.sl (3:Nat) []),AV.new (IV.bytes []),AV.new (IV.sl (2:Nat) []),AV.new (IV.bools []),AV.new (IV.bools []),AV.new (IV.ints IntKind.i64 []),AV.new (IV.bytes []),AV.new (IV.sl (3:Nat) []),AV.new (IV.bytes []),AV.new (IV.sl (2:Nat) []),AV.new (IV.bools []),AV.new (IV.bools []),.imm (.str [])],.imm (.int .i64 18)]) (brn (decide (n≤v)) (K [.agg [.imm (.int .i64 n),.imm (.ints IntKind.i64 T),.imm (.bytes I),.imm (.sl (3:Nat) X),.imm (.bytes C),.imm (.sl (2:Nat) L),.imm (.bools S),.imm (.bools U),.imm (.ints IntKind.i64 T'),.imm (.bytes I'),.imm (.sl (3:Nat) X'),.imm (.bytes C'),.imm (.sl (2:Nat) L'),.imm (.bools S'),.imm (.bools U'),.imm (.str f)],.imm (.int .i64 0)]) (okER n T I X C L S U T' I' X' C' L' S' U' f∧brn (!exV n v L L' f) (K [.agg [.imm (.int .i64 0),AV.new (IV.ints IntKind.i64 []),AV.new
 (IV.bytes []),AV.new (IV.sl (3:Nat) []),AV.new (IV.bytes []),AV.new (IV.sl (2:Nat) []),AV.new (IV.bools []),AV.new (IV.bools []),AV.new (IV.ints IntKind.i64 []),AV.new (IV.bytes []),AV.new (IV.sl (3:Nat) []),AV.new (IV.bytes []),AV.new (IV.sl (2:Nat) []),AV.new (IV.bools []),AV.new (IV.bools []),.imm (.str [])],.imm (.int .i64 17)]) (brn (v == 1) (okVR (av1 n T T') (av1 n I I') (av1 n X X') (av1 n C C') (av1 n L L') (av1 n S S') (av1 n U U')∧K [.agg [.imm (.int .i64 1),.imm (.ints IntKind.i64 (vT (av1 n T T'))),.imm (.bytes (List.map (renB (vK (av1 n T T') (av1 n I I'))) (vJ (av1 n T T') (av1 n I I')))),.imm (.sl (3:Nat) (sw (av1 n X X') [] (vK (av1 n T T') (av1 n I I')))),.imm (.bytes (av1 n C C')),.imm (.sl (2:Nat) (List.filter isLow (av1 n L L'))),.imm (.bools (sw (av1 n S S') false (vK (av1 n T T') (av1 n I I')))),.imm (.bools (sw (av1 n U U') false (vK (av1 n T T') (av1 n I I')))),AV.new (IV.ints IntKind.i64 []),AV.new (IV.bytes []),AV.new (IV.sl (3:Nat) []),AV.new (IV.bytes []),AV.new (IV.sl (2:Nat) []),AV.new (IV.bools []),AV.new (IV.bools []),.imm (.str [])],.imm (.int .i64 0)]) (E1∧K [.agg [.imm (.int .i64 v),.imm (.ints
 IntKind.i64 []),.imm (.bytes []),.imm (.sl (3:Nat) [[IV.int IntKind.i32 (0:Int),IV.bool false,IV.int .u8 0]]),.imm (.bytes [(0:UInt8)]),.imm (.sl (2:Nat) []),.imm (.bools []),.imm (.bools []),.imm (.ints IntKind.i64 T'),.imm (.bytes I'),.imm (.sl (3:Nat) X'),.imm (.bytes C'),.imm (.sl (2:Nat) L'),.imm (.bools S'),.imm (.bools U'),.imm (.str f)],.imm (.int .i64 0)]))))):=by kernel_rfl
theorem r3_in (n:Int) (T:List Int) (I:List UInt8) (X:List (List IV)) (C:List UInt8) (L:List (List IV)) (S:List Bool) (U:List Bool) (T':List Int) (I':List UInt8) (X':List (List IV)) (C':List UInt8) (L':List (List IV)) (S':List Bool) (U':List Bool) (f:List UInt8) (v:Int) (K:List AV→Prop):evSpec V3Z Tryz.f3 [.agg (fil n T I X C L S U T' I' X' C' L' S' U' f),i6 v] K = (let A31:Prop:=((okER n T I X C L S U T' I' X' C' L' S' U' f∧K [.imm (.bool (exV n v L L' f == exV n v L L' f))])); let A33:Prop:=((Q6.okE n T I X C L S U T' I' X' C' L' S' U' f∧A31)); let A91:Prop:=((okSa (p5 (toC n v L L' f) (0:Int) n v v) (p5 (toC n v L L' f) [] T (vT (av n T T')) []) (p5 (toC n v L L' f) [] I (List.map (renB (vK (av n T T') (av n I I'))) (vJ (av n T T') (av n I I'))) []) (p5 (toC n v L L' f) [] X (sw (av n X X') [] (vK (av n T T') (av n I I'))) [[IV.int IntKind.i32 (0:Int),IV.bool false,IV.int .u8 0]]) (p5 (toC n v L L' f) [] C (av n C C') [(0:UInt8)]) (p5 (toC n v L L' f) [] L (List.filter isLow (av n L L')) []) (p5 (toC n v L L' f) [] S (sw (av n S S') false (vK (av n T T') (av n I I'))) []) (p5 (toC n v L L' f) [] U (sw (av n U U')
 false (vK (av n T T') (av n I I'))) []) (p5 (toC n v L L' f) [] T' [] (av n T T')) (p5 (toC n v L L' f) [] I' [] (av n I I')) (p5 (toC n v L L' f) [] X' [] (av n X X')) (p5 (toC n v L L' f) [] C' [] (av n C C')) (p5 (toC n v L L' f) [] L' [] (av n L L')) (p5 (toC n v L L' f) [] S' [] (av n S S')) (p5 (toC n v L L' f) [] U' [] (av n U U')) (p5 (toC n v L L' f) [] f [] f) (p5 (toC n v L L' f) (0:Int) n v v) (p5 (toC n v L L' f) [] T (vT (av n T T')) []) (p5 (toC n v L L' f) [] I (List.map (renB (vK (av n T T') (av n I I'))) (vJ (av n T T') (av n I I'))) []) (p5 (toC n v L L' f) [] X (sw (av n X X') [] (vK (av n T T') (av n I I'))) [[IV.int IntKind.i32 (0:Int),IV.bool false,IV.int .u8 0]]) (p5 (toC n v L L' f) [] C (av n C C') [(0:UInt8)]) (p5 (toC n v L L' f) [] L (List.filter isLow (av n L L')) []) (p5 (toC n v L L' f) [] S (sw (av n S S') false (vK (av n T T') (av n I I'))) []) (p5 (toC n v L L' f) [] U (sw (av n U U') false (vK (av n T T') (av n I I'))) []) (p5 (toC n v L L' f) [] T' [] (av n T T')) (p5 (toC n v L L' f) [] I' [] (av n I I')) (p5 (toC n v L L' f) [] X' [] (av n X X')) (p5 (toC n v L L' f) [] C' [] (av n C C')) (p5 (toC n v L L' f) [] L' [] (av n L L')) (p5
 (toC n v L L' f) [] S' [] (av n S S')) (p5 (toC n v L L' f) [] U' [] (av n U U')) (p5 (toC n v L L' f) [] f [] f)∧brn (saF (p5 (toC n v L L' f) (0:Int) n v v) (p5 (toC n v L L' f) [] T (vT (av n T T')) []) (p5 (toC n v L L' f) [] I (List.map (renB (vK (av n T T') (av n I I'))) (vJ (av n T T') (av n I I'))) []) (p5 (toC n v L L' f) [] X (sw (av n X X') [] (vK (av n T T') (av n I I'))) [[IV.int IntKind.i32 (0:Int),IV.bool false,IV.int .u8 0]]) (p5 (toC n v L L' f) [] C (av n C C') [(0:UInt8)]) (p5 (toC n v L L' f) [] L (List.filter isLow (av n L L')) []) (p5 (toC n v L L' f) [] S (sw (av n S S') false (vK (av n T T') (av n I I'))) []) (p5 (toC n v L L' f) [] U (sw (av n U U') false (vK (av n T T') (av n I I'))) []) (p5 (toC n v L L' f) [] T' [] (av n T T')) (p5 (toC n v L L' f) [] I' [] (av n I I')) (p5 (toC n v L L' f) [] X' [] (av n X X')) (p5 (toC n v L L' f) [] C' [] (av n C C')) (p5 (toC n v L L' f) [] L' [] (av n L L')) (p5 (toC n v L L' f) [] S' [] (av n S S')) (p5 (toC n v L L' f) [] U' [] (av n U U')) (p5 (toC n v L L' f) [] f [] f) (p5 (toC n v L L' f) (0:Int) n v v) (p5 (toC n v L L' f) [] T (vT (av n T T')) []) (p5 (toC n v L L' f) [] I (List.map (renB (vK (av
 n T T') (av n I I'))) (vJ (av n T T') (av n I I'))) []) (p5 (toC n v L L' f) [] X (sw (av n X X') [] (vK (av n T T') (av n I I'))) [[IV.int IntKind.i32 (0:Int),IV.bool false,IV.int .u8 0]]) (p5 (toC n v L L' f) [] C (av n C C') [(0:UInt8)]) (p5 (toC n v L L' f) [] L (List.filter isLow (av n L L')) []) (p5 (toC n v L L' f) [] S (sw (av n S S') false (vK (av n T T') (av n I I'))) []) (p5 (toC n v L L' f) [] U (sw (av n U U') false (vK (av n T T') (av n I I'))) []) (p5 (toC n v L L' f) [] T' [] (av n T T')) (p5 (toC n v L L' f) [] I' [] (av n I I')) (p5 (toC n v L L' f) [] X' [] (av n X X')) (p5 (toC n v L L' f) [] C' [] (av n C C')) (p5 (toC n v L L' f) [] L' [] (av n L L')) (p5 (toC n v L L' f) [] S' [] (av n S S')) (p5 (toC n v L L' f) [] U' [] (av n U U')) (p5 (toC n v L L' f) [] f [] f)) (brn (toE (toC n v L L' f) == toE (toC n v L L' f)) (brn (decide (v < 1)) (K [.imm (.bool true)]) (brn (decide (v > 4)) (K [.imm (.bool true)]) (((Q6.okE n T I X C L S U T' I' X' C' L' S' U' f∧A31)∧A33)∧A33))) (K [.imm (.bool false)])) (K [.imm (.bool false)]))); ((!true) = false→okXL X L)∧((!true) = false→okXL X' L')∧brn (!true || !vaV n T I X C L S U T' I' X' C' L' S' U' f)
 (K [.imm (.bool true)]) (okTo n T I X C L S U T' I' X' C' L' S' U' f v∧okTR n T I X C L S U T' I' X' C' L' S' U' f v∧A91∧A91)):=by kernel_rfl
theorem av1_eq {n:Int} (h:1≤n) {α:Type} (x y:α):av1 n x y = av n x y:=by
 unfold av1 av
 have:(n == 1) = decide (n < 2):=by rw [Bool.eq_iff_iff]; simp only [beq_iff_eq,decide_eq_true_eq]; omega
 rw [this]
theorem av_2 {n:Int} (h:¬ n < 2) {α:Type} (x y:α):av n x y = y:=by unfold av; rw [decide_eq_false h]; first | done | rfl
theorem extP_nil:extP [] = false:=by kernel_rfl
theorem ok10r:∀ args pres res,sExR args = some (pres,res)→SpecOK Tryz.prog G6 10 args pres res:=by
 intro args pres res h
 unfold sExR at h
 split at h
 case h_2=>cases h
 cases h
 rename_i n T I X C L S U T' I' X' C' L' S' U' f v
 refine spec_ok (C:=V10r) okJ2 noCall_ok Tryz.func10 (by kernel_rfl) (by kernel_rfl) (fun hp=>?_)
 have hE:okER n T I X C L S U T' I' X' C' L' S' U' f:=hp (okER n T I X C L S U T' I' X' C' L' S' U' f) (by simp)
 have hf:=hE.f1
 refine Eq.mpr (r10_in n T I X C L S U T' I' X' C' L' S' U' f v _) ?_
 rw [av1_eq hE.n1,lv_eq hE.l1 hE.c1,lv_eq hE.l1 hE.c1]
 refine ⟨fun _=>hE.l1,fun _=>hE.c1,brn_intro (fun h=>?_) (fun h=>brn_intro (fun h2=>?_) (fun h2=>⟨by omega,?_⟩))⟩
 ·have:exV n v L L' f = false:=by
   simp only [Bool.and_eq_true,decide_eq_true_eq,Bool.not_eq_true'] at h
   obtain ⟨h1,h2,h3⟩:=h
   unfold exV neV
   rw [h2,h3,decide_eq_false (show ¬ v≥4 by omega)]
   cases (decide (v < 3) && P9.whyP f == 0 && extP f) <;> rfl
  rw [this]; first | done | rfl
 ·have:exV n v L L' f = true:=by
   have c0:(decide (v < 3) && P9.whyP f == 0 && extP f) = false:=by
    rw [Bool.or_eq_true,decide_eq_true_eq,decide_eq_true_eq] at h2
    rcases h2 with h2 | h2
    ·rw [h2,extP_nil,Bool.and_false]
    ·rw [decide_eq_false (show ¬ v < 3 by omega)]; first | done | rfl
   unfold exV neV
   rw [c0,cond_false]
   by_cases hv:v < 4
   ·rw [decide_eq_true hv,Bool.true_and,Bool.and_comm] at h
    rw [h]; simp
   ·rw [decide_eq_true (show v≥4 by omega)]; first | done | rfl
  rw [this]; first | done | rfl
 ·rw [Bool.or_eq_false_iff,decide_eq_false_iff_not,decide_eq_false_iff_not] at h2
  have hw:P9.whyP f = 0:=hE.w1.resolve_left h2.1
  have:exV n v L L' f = !extP f:=by
   unfold exV neV
   rw [hw,decide_eq_true (show v < 3 by omega)]
   rw [decide_eq_true (show v < 4 by omega),Bool.true_and,Bool.and_comm] at h
   rw [h]
   cases extP f <;> simp
  rw [this]; first | done | rfl
theorem okJ3:EOK Tryz.prog J3 G6:=addE_ok okJ2 ok10r
theorem ok7r:∀ args pres res,sToR args = some (pres,res)→SpecOK Tryz.prog G6 7 args pres res:=by
 intro args pres res h
 unfold sToR at h
 split at h
 case h_2=>cases h
 cases h
 rename_i n T I X C L S U T' I' X' C' L' S' U' f v
 refine spec_okS (C:=V7r) okJ3 noCall_ok Tryz.func7 (by kernel_rfl) (by kernel_rfl) (fun hp=>?_)
 have hO:okTR n T I X C L S U T' I' X' C' L' S' U' f v:=hp (okTR n T I X C L S U T' I' X' C' L' S' U' f v) (by simp)
 have hE:=hO.e1
 refine Eq.mpr (r7_in n T I X C L S U T' I' X' C' L' S' U' f v _) ?_
 intro E1
 refine brn_intro (fun h0=>?_) (fun h0=>brn_intro (fun h1=>?_) (fun h1=>⟨hE,brn_intro (fun hx=>?_) (fun hx=>brn_intro (fun hv=>?_) (fun hv=>⟨rfl,?_⟩))⟩))
 ·have hc:toC n v L L' f = 0:=by unfold toC; rw [h0]; first | done | rfl
  rw [hc]; first | done | rfl
 ·have hc:toC n v L L' f = 1:=by unfold toC; rw [h0,h1]; first | done | rfl
  rw [hc]; first | done | rfl
 ·have hx:exV n v L L' f = false:=by simpa using hx
  have hc:toC n v L L' f = 2:=by unfold toC; rw [h0,h1,hx]; first | done | rfl
  rw [hc]; first | done | rfl
 ·have hx:exV n v L L' f = true:=by simpa using hx
  have hc:toC n v L L' f = 3:=by unfold toC; rw [h0,h1,hx,hv]; first | done | rfl
  have hv:=beq_iff_eq.mp hv
  have h1:=of_decide_eq_false h1
  have hn:¬ n < 2:=by omega
  simp only [av1_eq hE.n1,av_2 hn]
  rw [hc]
  subst hv
  exact ⟨hO.v1 rfl (by omega),rfl⟩
 ·have hx:exV n v L L' f = true:=by simpa using hx
  have hc:toC n v L L' f = 4:=by unfold toC; rw [h0,h1,hx,hv]; first | done | rfl
  rw [Bool.or_eq_false_iff,decide_eq_false_iff_not,decide_eq_false_iff_not] at h0
  have h1:=of_decide_eq_false h1
  have hn:¬ n < 2:=by omega
  have hv:=beq_eq_false_iff_ne.mp hv
  simp only [av_2 hn]
  rw [hc]
  first | done | rfl
theorem okJ4:EOK Tryz.prog J4 G6:=addE_ok okJ3 ok7r
theorem okT_mem {X:List (List IV)}:okT X↔∀ x ∈ X,∃ t,okTy t∧x = cellsT t:=by
 constructor
 ·intro h x hx
  obtain ⟨M,rfl,_,hM⟩:=okT_elim h
  obtain ⟨t,ht,rfl⟩:=List.mem_map.1 hx
  exact ⟨t,hM t ht,rfl⟩
 ·intro h
  have e:∀ x ∈ X,cellsT (tyOf x) = x∧okTy (tyOf x):=fun x hx=>by
   obtain ⟨t,ht,rfl⟩:=h x hx
   exact ⟨rfl,ht⟩
  refine ⟨?_,fun t ht=>?_⟩
  ·unfold tys
   rw [List.map_map]
   exact ((List.map_id X).symm.trans (List.map_congr_left fun x hx=>((e x hx).1).symm))
  ·obtain ⟨x,hx,rfl⟩:=List.mem_map.1 ht
   exact (e x hx).2
theorem okL_mem {X:List (List IV)}:okL X↔∀ x ∈ X,∃ t,okLp t∧x = cellsL t:=by
 constructor
 ·intro h x hx
  obtain ⟨M,rfl,_,hM⟩:=okL_elim h
  obtain ⟨t,ht,rfl⟩:=List.mem_map.1 hx
  exact ⟨t,hM t ht,rfl⟩
 ·intro h
  have e:∀ x ∈ X,cellsL (lpOf x) = x∧okLp (lpOf x):=fun x hx=>by
   obtain ⟨t,ht,rfl⟩:=h x hx
   exact ⟨rfl,ht⟩
  refine ⟨?_,fun t ht=>?_⟩
  ·unfold lps
   rw [List.map_map]
   exact ((List.map_id X).symm.trans (List.map_congr_left fun x hx=>((e x hx).1).symm))
  ·obtain ⟨x,hx,rfl⟩:=List.mem_map.1 ht
   exact (e x hx).2
theorem sw_mem {α:Type} {l:List α} {d:α} {k:Int} {x:α} (h:x ∈ sw l d k):x ∈ l:=by
 unfold sw at h
 split at h
 case isFalse=>exact h
 rename_i hk
 rcases Nat.eq_zero_or_pos l.length with h0 | h0
 ·have:l = []:=List.length_eq_zero_iff.1 h0
  subst this
  simp at h
 ·rcases List.mem_or_eq_of_mem_set h with h | h
  ·rcases List.mem_or_eq_of_mem_set h with h | h
   ·exact h
   ·rw [h]; exact memD d (by omega)
  ·rw [h]; exact memD d h0
theorem okB_view {T:List Int} {I:List UInt8} {X:List (List IV)} {C:List UInt8} {L:List (List IV)} {S U:List Bool} (h:okB T I X C L S U) (kk:Int):okB (vT T) ((vJ T I).map (renB kk)) (sw X [] kk) C (L.filter isLow) (sw S false kk) (sw U false kk):=by
 obtain ⟨h1,h2,h3,h4,h5,h6,h7,h8,h9⟩:=h
 refine ⟨okT_mem.2 fun x hx=>okT_mem.1 h1 x (sw_mem hx),okL_mem.2 fun x hx=>okL_mem.1 h2 x (List.mem_filter.1 hx).1,?_,?_,?_,h6,?_,?_,?_⟩
 ·unfold vT; rw [List.length_take,List.length_drop]; omega
 ·unfold vJ; rw [List.length_map,List.length_take,List.length_drop]; omega
 ·rw [sw_len]; exact h5
 ·have:=List.length_filter_le isLow L; omega
 ·rw [sw_len]; exact h8
 ·rw [sw_len]; exact h9
theorem okBz:okB [] [] [] [] [] [] []:=by
 refine ⟨⟨rfl,fun t ht=>by simp [tys] at ht⟩,⟨rfl,fun l hl=>by simp [lps] at hl⟩,by decide,by decide,by decide,by decide,by decide,by decide,by decide⟩
theorem saF_refl (n:Int) (T:List Int) (I:List UInt8) (X:List (List IV)) (C:List UInt8) (L:List (List IV)) (S U:List Bool) (T':List Int) (I':List UInt8) (X':List (List IV)) (C':List UInt8) (L':List (List IV)) (S' U':List Bool) (f:List UInt8):saF n T I X C L S U T' I' X' C' L' S' U' f n T I X C L S U T' I' X' C' L' S' U' f = true:=by
 unfold saF; rw [sameK_refl,sameK_refl]; simp
theorem okBl_R {T:List Int} {I:List UInt8} {X:List (List IV)} {C:List UInt8} {L:List (List IV)} {S U:List Bool} (hf:fewB T I X C L S U = true) (hx:okXL X L) (ha:ascP T) (hb:okBl T I (tys X) C S U):okVR T I X C L S U:=by
 obtain ⟨b1,b2,b3,b4,b5,b6⟩:=hb
 have ht:=tys_len hx.x
 rw [ht] at b2 b4 b5 b6
 exact ⟨okV_of hf hx ha b1,fun e=>b2 (by rw [e]; rfl),b6,b4.imp List.length_eq_zero_iff.1 id,b5.imp List.length_eq_zero_iff.1 id⟩
theorem f3_ev (n:Int) (T:List Int) (I:List UInt8) (X:List (List IV)) (C:List UInt8) (L:List (List IV)) (S U:List Bool) (T':List Int) (I':List UInt8) (X':List (List IV)) (C':List UInt8) (L':List (List IV)) (S' U':List Bool) (f:List UInt8) (v:Int)
  (h1:okXL X L) (h2:okXL X' L') (K:List AV→Prop) (hK:K [bo6 true]):evSpec V3Z Tryz.f3 [.agg (fil n T I X C L S U T' I' X' C' L' S' U' f),i6 v] K:=by
 rw [r3_in]
 intro A31 A33 A91
 refine ⟨fun _=>h1,fun _=>h2,brn_intro (fun _=>hK) (fun hv=>?_)⟩
 simp only [Bool.not_true,Bool.false_or,Bool.not_eq_false'] at hv
 unfold vaV at hv
 simp only [Bool.and_eq_true,beq_iff_eq] at hv
 obtain ⟨hf,h0⟩:=hv
 unfold fewF at hf
 simp only [Bool.and_eq_true,decide_eq_true_eq] at hf
 obtain ⟨⟨f1,f2⟩,f3⟩:=hf
 obtain ⟨l1,l2,l3,l4,l5,l6,l7⟩:=few_lens f2
 have hfi:okFi n T I X C L S U T' I' X' C' L' S' U' f:=⟨okBp_few f1 h1,okBp_few f2 h2,by omega,by omega⟩
 obtain ⟨n1,n4,hb1,hn1,hb2⟩:=(fi_ev n T I X C L S U T' I' X' C' L' S' U' f hfi).1 h0
 have hav1:n < 2→∀ {α:Type} (x y:α),av n x y = x:=fun h _ x y=>by unfold av; rw [decide_eq_true h]; first | done | rfl
 have hx:okL (av n L L')∧((av n L L').length:Int)≤1000000:=by
  by_cases h:n < 2
  ·rw [hav1 h]; exact ⟨h1.l,by have:=(few_lens f1).2.2.2.2.1; omega⟩
  ·rw [av_2 h]; exact ⟨h2.l,by omega⟩
 have hoE:Q6.okE n T I X C L S U T' I' X' C' L' S' U' f:=⟨okX_of hx.1 (by omega),by omega⟩
 have hw:f = []∨P9.whyP f = 0:=by
  by_cases h:n = 1
  ·exact .inl (hn1 h).1
  ·exact (hb2 h).2.2.2.imp id And.left
 have hoR:okER n T I X C L S U T' I' X' C' L' S' U' f:=⟨n1,hx.1,hx.2,by omega,hw⟩
 have hVR:1 < n→okVR T' I' X' C' L' S' U':=fun hn=>by
  obtain ⟨q1,q2,_,_⟩:=hb2 (by omega)
  exact okBl_R f2 h2 q2 q1
 have hTo:okTo n T I X C L S U T' I' X' C' L' S' U' f v:=by
  refine ⟨hoE,fun _ hn=>?_⟩
  have hn2:¬ n < 2:=by omega
  simp only [av_2 hn2]
  exact (hVR hn).v
 have hTR:okTR n T I X C L S U T' I' X' C' L' S' U' f v:=⟨hoR,fun _ hn=>hVR hn⟩
 have b1:=okB_few f1 h1
 have b2:=okB_few f2 h2
 have bv:okB (av n T T') (av n I I') (av n X X') (av n C C') (av n L L') (av n S S') (av n U U'):=by
  by_cases h:n < 2
  ·simp only [hav1 h]; exact b1
  ·simp only [av_2 h]; exact b2
 have p1:∀ c:Nat,okB (p5 c [] T (vT (av n T T')) []) (p5 c [] I (List.map (renB (vK (av n T T') (av n I I'))) (vJ (av n T T') (av n I I'))) []) (p5 c [] X (sw (av n X X') [] (vK (av n T T') (av n I I'))) slX) (p5 c [] C (av n C C') [0]) (p5 c [] L (List.filter isLow (av n L L')) []) (p5 c [] S (sw (av n S S') false (vK (av n T T') (av n I I'))) []) (p5 c [] U (sw (av n U U') false (vK (av n T T') (av n I I'))) []):=fun c=>by
  rcases c with _ | _ | _ | _ | c
  ·exact okBz
  ·exact b1
  ·exact okBz
  ·exact okB_view bv _
  ·exact okBs
 have p2:∀ c:Nat,okB (p5 c [] T' [] (av n T T')) (p5 c [] I' [] (av n I I')) (p5 c [] X' [] (av n X X')) (p5 c [] C' [] (av n C C')) (p5 c [] L' [] (av n L L')) (p5 c [] S' [] (av n S S')) (p5 c [] U' [] (av n U U')):=fun c=>by
  rcases c with _ | _ | _ | _ | c
  ·exact okBz
  ·exact b2
  ·exact okBz
  ·exact okBz
  ·exact bv
 have e31:A31:=⟨hoR,by rw [beq_self_eq_true]; exact hK⟩
 have e33:A33:=⟨hoE,e31⟩
 have e91:A91:=⟨⟨p1 _,p2 _,p1 _,p2 _⟩,brn_T (saF_refl _ _ _ _ _ _ _ _ _ _ _ _ _ _ _ _) (brn_T (beq_self_eq_true _) (brn_intro (fun _=>hK) (fun _=>brn_intro (fun _=>hK) (fun _=>⟨⟨⟨hoE,e31⟩,e33⟩,e33⟩))))⟩
 exact ⟨hTo,hTR,e91,e91⟩
end Q6
namespace Go.Proofs.YtdpejelemcjkdaaGreatDoor
open Go Go.AE Go.Proofs Q6
open Go.ChangeShapes Go.WideShapes Go.ChangeAt Go.RowKit Go.ChangeMaps
attribute [local irreducible] loopK evCode evSpec loopB norm evFunc
theorem Tryz.own:ownKnob Tryz.prog.godebug = none:=by kernel_rfl
set_option maxRecDepth 100000 in
theorem f3_lifted (os:Os) (started:os.Started) (H:Type) (enc:TypeId×Value→H) :
  ReturnsInHanded {} Tryz.checked os 3 .any (fun w args=>(Rows.downgradeMatchesReferenceSpec.pre enc Tryz.prog Tryz.f3 [] false w args∧laidMetH Tryz.prog Rows.downgradeMatchesReferenceRow.laid w)∧sizedMet enc Tryz.prog Tryz.f3 (OpenSpec.ofChange Rows.downgradeMatchesReferenceSpec) false w args)
   (Rows.downgradeMatchesReferenceSpec.post enc Tryz.prog Tryz.f3 false true false false):=by
 refine returnsInHanded_of_change_and (C:=Tryz.checked) (X:=fun w _=>laidMetH Tryz.prog Rows.downgradeMatchesReferenceRow.laid w) (fun _ _ _ hh h=>h.of_heap hh) Tryz.own started (by kernel_rfl) Tryz.func3
  (ChangeSpec.witness_shaped (enc:=enc) (C:=Tryz.checked) (os:=os) (X:=fun w _=>laidMetH Tryz.prog Rows.downgradeMatchesReferenceRow.laid w) false (World.doorLaid Tryz.prog 600 os) #[.agg #[.int .i64 0,.slice none 0 0,.slice none 0 0,.slice none 0 0,.slice none 0 0,.slice none 0 0,.slice none 0 0,.slice none 0 0,.slice none 0 0,.slice none 0 0,.slice none 0 0,.slice none 0 0,.slice none 0 0,.slice none 0 0,.slice none 0 0,.string ⟨#[]⟩],.int .i64 0] 8 rfl (World.shaped_of_RefB (by kernel_rfl) (by kernel_rfl)) (by kernel_rfl) (by kernel_rfl) (by kernel_rfl) (door_met os _)) ?_
 intro W base args ds gs before hval0 hW _ hsz hL _
 obtain ⟨l⟩:=args
 have hval:∀ (j:Nat) t v,Tryz.f3.params[j]? = some t→l[j]? = some v→Value.okWide Tryz.prog W .any base t v:=fun j t v h1 h2=>hval0 j t v h1 (by simpa using h2)
 have hW':=hW
 obtain ⟨p,q,hB,hV,rfl,hfz,hnd⟩:=hW
 obtain ⟨rfl,rfl⟩:=trodVars_none hV
 have hA0:DataW.TrodAll enc Tryz.prog W 0 (fun _=>true) true [30,3] l ds p:=by have h:=hB; rw [Tryz.params3] at h; exact h
 rw [Tryz.params3] at hval
 clear hB hval0
 obtain ⟨v0,l,d0,ds,p0,p,rfl,rfl,h0,hA1,rfl⟩:=all_cons hA0
 obtain ⟨v1,l,d1,ds,p1,p,rfl,rfl,h1,hA2,rfl⟩:=all_cons hA1
 obtain ⟨rfl,rfl,rfl⟩:=all_nil hA2
 obtain ⟨l0,rfl,M0⟩:=open_mix Tryz.underlying30 (by kernel_rfl:mixK Tryz.prog 40 30 = some [(3,.ck (.int .i64)),(22,.sl [.int .i64]),(23,.sl [.int .u8]),(24,.sl [(.int .i32),.bool,(.int .u8)]),(23,.sl [.int .u8]),(25,.sl [(.int .i64),(.int .i32)]),(26,.sl [.bool]),(26,.sl [.bool]),(22,.sl [.int .i64]),(23,.sl [.int .u8]),(24,.sl [(.int .i32),.bool,(.int .u8)]),(23,.sl [.int .u8]),(25,.sl [(.int .i64),(.int .i32)]),(26,.sl [.bool]),(26,.sl [.bool]),(9,.ck .str)]) (by kernel_rfl) (by kernel_rfl) (hval 0 30 v0 rfl rfl) h0 (weights_arg hsz (j:=0) (by rw [Tryz.params3]; rfl) rfl)
 obtain ⟨u0a,l0,rfl,c0a,M0⟩:=mall_cons M0
 obtain ⟨x0a,g0a,r0a⟩:=c0a.int
 obtain ⟨u0b,l0,rfl,c0b,M0⟩:=mall_cons M0
 obtain ⟨x0b,g0b,s0b,r0b⟩:=c0b.ints
 obtain ⟨u0c,l0,rfl,c0c,M0⟩:=mall_cons M0
 obtain ⟨x0c,s0c,r0c⟩:=c0c.bytes
 obtain ⟨u0d,l0,rfl,c0d,M0⟩:=mall_cons M0
 obtain ⟨x0d,k0d,s0d,r0d⟩:=MOk.structs rfl c0d
 have o0d:=types_of k0d
 obtain ⟨u0e,l0,rfl,c0e,M0⟩:=mall_cons M0
 obtain ⟨x0e,s0e,r0e⟩:=c0e.bytes
 obtain ⟨u0f,l0,rfl,c0f,M0⟩:=mall_cons M0
 obtain ⟨x0f,k0f,s0f,r0f⟩:=MOk.structs rfl c0f
 have o0f:=leaps_of k0f
 obtain ⟨u0g,l0,rfl,c0g,M0⟩:=mall_cons M0
 obtain ⟨x0g,s0g,r0g⟩:=c0g.bools
 obtain ⟨u0h,l0,rfl,c0h,M0⟩:=mall_cons M0
 obtain ⟨x0h,s0h,r0h⟩:=c0h.bools
 obtain ⟨u0i,l0,rfl,c0i,M0⟩:=mall_cons M0
 obtain ⟨x0i,g0i,s0i,r0i⟩:=c0i.ints
 obtain ⟨u0j,l0,rfl,c0j,M0⟩:=mall_cons M0
 obtain ⟨x0j,s0j,r0j⟩:=c0j.bytes
 obtain ⟨u0k,l0,rfl,c0k,M0⟩:=mall_cons M0
 obtain ⟨x0k,k0k,s0k,r0k⟩:=MOk.structs rfl c0k
 have o0k:=types_of k0k
 obtain ⟨u0l,l0,rfl,c0l,M0⟩:=mall_cons M0
 obtain ⟨x0l,s0l,r0l⟩:=c0l.bytes
 obtain ⟨u0m,l0,rfl,c0m,M0⟩:=mall_cons M0
 obtain ⟨x0m,k0m,s0m,r0m⟩:=MOk.structs rfl c0m
 have o0m:=leaps_of k0m
 obtain ⟨u0n,l0,rfl,c0n,M0⟩:=mall_cons M0
 obtain ⟨x0n,s0n,r0n⟩:=c0n.bools
 obtain ⟨u0o,l0,rfl,c0o,M0⟩:=mall_cons M0
 obtain ⟨x0o,s0o,r0o⟩:=c0o.bools
 obtain ⟨u0p,l0,rfl,c0p,M0⟩:=mall_cons M0
 obtain ⟨x0p,s0p,r0p⟩:=c0p.str
 obtain rfl:=mall_nil M0
 obtain ⟨a1,rfl,rfl,rfl,w1⟩:=open_int Tryz.underlying3 (hval 1 3 v1 rfl rfl) h1
 have m1:=inR_wf w1
 have hspec:SpecOK Tryz.prog G6 3 [.agg [.imm (.int .i64 x0a),.imm (.ints .i64 x0b),.imm (.bytes x0c),.imm (.sl 3 x0d),.imm (.bytes x0e),.imm (.sl 2 x0f),.imm (.bools x0g),.imm (.bools x0h),.imm (.ints .i64 x0i),.imm (.bytes x0j),.imm (.sl 3 x0k),.imm (.bytes x0l),.imm (.sl 2 x0m),.imm (.bools x0n),.imm (.bools x0o),.imm (.str x0p)],.imm (.int .i64 a1)] [] [.imm (.bool true)]:=spec_ok (C:=V3Z) okJ4 noCall_ok Tryz.func3 (by kernel_rfl) (by kernel_rfl) (fun _=>f3_ev x0a x0b x0c x0d x0e x0f x0g x0h x0i x0j x0k x0l x0m x0n x0o x0p a1 ⟨o0d,o0f⟩ ⟨o0k,o0m⟩ _ rfl)
 refine (bool_calls hspec (fun p h=>by cases h) W _ rfl (fun j c hc=>?_) (gok_of_laid hL)).mono fun e W' ⟨he,hw⟩=>?_
 ·match j with
  | 0=>simp only [List.getElem?_cons_zero,Option.some.injEq] at hc; subst hc; exact MIs.arep (is:=[.int .i64 x0a,.ints .i64 x0b,.bytes x0c,.sl 3 x0d,.bytes x0e,.sl 2 x0f,.bools x0g,.bools x0h,.ints .i64 x0i,.bytes x0j,.sl 3 x0k,.bytes x0l,.sl 2 x0m,.bools x0n,.bools x0o,.str x0p]) (vs:=[u0a,u0b,u0c,u0d,u0e,u0f,u0g,u0h,u0i,u0j,u0k,u0l,u0m,u0n,u0o,u0p]) ⟨r0a,r0b,r0c,r0d,r0e,r0f,r0g,r0h,r0i,r0j,r0k,r0l,r0m,r0n,r0o,r0p,trivial⟩
  | 1=>simp only [List.getElem?_cons_succ,List.getElem?_cons_zero,Option.some.injEq] at hc; subst hc; exact .imm (.int m1)
  | j + 2=>simp at hc
 subst he
 exact ⟨_,rfl,row_post hW' rfl (by kernel_rfl) (by kernel_rfl) rfl rfl Tryz.underlying4 hw⟩
theorem f3_row:Rows.DowngradeMatchesReferenceSaid :=
 OpenClaim.holds_of_wide 3 Tryz.f3 rfl rfl rfl rfl rfl rfl rfl ⟨rfl,rfl,rfl,rfl,rfl⟩ rfl rfl rfl rfl rfl (by kernel_rfl) Tryz.func3 (by kernel_rfl)
  (of_decide_eq_true (by kernel_rfl)) (by unfold Func.isWrapper; first | (rw [if_pos (by decide +kernel)]; kernel_rfl) | (rw [if_neg (by decide +kernel)]; exact ⟨rfl,rfl⟩))
  (fun os started H enc _=>f3_lifted os started H enc)
theorem f3_holds:Rows.DowngradeMatchesReferenceCardSaid :=
 Claim7.holds_tied_plain_at .later [] [.funcs,.funcs] true Rows.downgradeMatchesReferenceCard.stood.harness true
  f3_row (fun _ h=>by cases h) (by kernel_rfl) (fun _ h=>by cases h) downgradeMatchesReference_row_tie rfl ⟨rfl,rfl⟩ (by kernel_rfl) rfl
  (fun f fn hf hfn=>by
   obtain rfl:f = 3:=Option.some.inj ((show Tryz.prog.funcNamed "zoneinfo/zoneinfolaw26.DowngradeMatchesReference" = some 3 by kernel_rfl).symm.trans hf) |>.symm
   obtain rfl:fn = Tryz.f3:=(Option.some.inj (Tryz.func3.symm.trans hfn)).symm
   exact ⟨by kernel_rfl,fun j t ht=>by
    rw [Tryz.params3] at ht
    have hm:t ∈ [30,3]:=by simpa using Array.mem_of_getElem? ht
    have hall:([30,3].all fun u=>!Tryz.prog.wantsStandIn u) = true:=by kernel_rfl
    exact (show Tryz.prog.wantsStandIn t = false by simpa using List.all_eq_true.1 hall t hm)⟩)
  (by kernel_rfl)
end Go.Proofs.YtdpejelemcjkdaaGreatDoor
