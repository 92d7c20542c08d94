/- The walk's evaluator and its laws (over whatever program), and contracts of the program's functions. -/
import Derived.Test.YtdpejelemcjkdaaGreatDoorAe4
import Derived.KernelRfl
import Derived.ProofKit
import Derived.WideKeyArgs
import Derived.SizedLaws
import Derived.ChangeSlices
import Derived.Test.YtdpejelemcjkdaaGreatDoorRows
import Derived.Test.YtdpejelemcjkdaaGreatDoorTie
import Derived.Test.YtdpejelemcjkdaaGreatDoorCards
import Derived.LaidMore
import Derived.LaidHandle
import Derived.LaidLaws
import Derived.OpenShut
import Derived.Stop.Joined
import Derived.SevenTiedAt
import Derived.WideKeyElems2
set_option linter.all false
set_option maxRecDepth 100000
namespace Q6
open Go Go.AE Go.Proofs PE PF
attribute [local irreducible] loopK evCode evSpec loopB norm
def ruT:List (List IV):=[[IV.str [116,105,109,101],IV.val (Value.func (Fn.func (142:FuncId)) #[] #[])],[IV.str [102,105,114,115,116,32,99,111,114,114,101,99,116,105,111,110],IV.val (Value.func (Fn.func (143:FuncId)) #[] #[])],[IV.str [115,116,101,112],IV.val (Value.func (Fn.func (144:FuncId)) #[] #[])]]
theorem g140_in (xs:List (List IV)) (i:Int) (K:List AV→Prop):evSpec M5 Tryz.f145 [sl2 xs,i6 i] K = (let E1:Prop:=((sm (St.mk [.imm (.sl 2 xs),i64 i,.dead,.dead,i64 (IntKind.wrap .i64 (IntKind.wrap .i64 (ivInt (ivNth (List.getD xs i.toNat []) (0 + 1))) - IntKind.wrap .i64 (ivInt (ivNth (List.getD xs (IntKind.wrap .i64 (i - 1)).toNat []) (0 + 1))))),.imm (.sl 2 xs),i64 i,AV.elv [IV.int .i64 (ivInt (ivNth (List.getD xs i.toNat []) 0)),IV.int IntKind.i32 (ivInt (ivNth (List.getD xs i.toNat []) (0 + 1)))],AV.elv [IV.int IntKind.i32 (ivInt (ivNth (List.getD xs i.toNat []) (0 + 1)))],.imm (.int IntKind.i32 (ivInt (ivNth (List.getD xs i.toNat []) (0 + 1)))),i64 (IntKind.wrap .i64 (ivInt (ivNth (List.getD xs i.toNat []) (0 + 1)))),.imm (.sl 2 xs),i64 i,i64 (IntKind.wrap .i64 (i - 1)),AV.elv [IV.int .i64 (ivInt (ivNth (List.getD xs (IntKind.wrap .i64 (i - 1)).toNat []) 0)),IV.int IntKind.i32 (ivInt (ivNth (List.getD xs (IntKind.wrap .i64 (i - 1)).toNat []) (0 + 1)))],AV.elv [IV.int IntKind.i32 (ivInt (ivNth (List.getD xs (IntKind.wrap .i64 (i - 1)).toNat []) (0 + 1)))],.imm (.int IntKind.i32 (ivInt (ivNth (List.getD xs (IntKind.wrap .i64 (i - 1)).toNat []) (0
 + 1)))),i64 (IntKind.wrap .i64 (ivInt (ivNth (List.getD xs (IntKind.wrap .i64 (i - 1)).toNat []) (0 + 1)))),i64 (IntKind.wrap .i64 (IntKind.wrap .i64 (ivInt (ivNth (List.getD xs i.toNat []) (0 + 1))) - IntKind.wrap .i64 (ivInt (ivNth (List.getD xs (IntKind.wrap .i64 (i - 1)).toNat []) (0 + 1)))))] [] 0 []))); ((0:Int)≤i∧i < (xs.length:Int)∧kcells (List.getD xs i.toNat []) 0 (lapp [CK.int IntKind.i64] (lapp [CK.int IntKind.i32] [])) = List.getD xs i.toNat []∧(0:Int)≤IntKind.wrap .i64 (i - 1)∧IntKind.wrap .i64 (i - 1) < (xs.length:Int)∧kcells (List.getD xs (IntKind.wrap .i64 (i - 1)).toNat []) 0 (lapp [CK.int IntKind.i64] (lapp [CK.int IntKind.i32] [])) = List.getD xs (IntKind.wrap .i64 (i - 1)).toNat []∧E1∧E1)∧K [i64 (IntKind.wrap .i64 (IntKind.wrap .i64 (ivInt (ivNth (List.getD xs i.toNat []) (0 + 1))) - IntKind.wrap .i64 (ivInt (ivNth (List.getD xs (IntKind.wrap .i64 (i - 1)).toNat []) (0 + 1)))))]):=by kernel_rfl
theorem g137_in (xs:List (List IV)) (i:Int) (n:Int) (K:List AV→Prop):evSpec M7 Tryz.f142 [sl2 xs,i6 i,i6 n] K = (brn (i == 0) ((0:Int)≤0∧(0:Int) < (xs.length:Int)∧kcells (List.getD xs (0:Int).toNat []) 0 (lapp [CK.int IntKind.i64] (lapp [CK.int IntKind.i32] [])) = List.getD xs (0:Int).toNat []∧K [bo (decide (ivInt (ivNth (List.getD xs (0:Int).toNat []) 0)≥0))]) ((0:Int)≤i∧i < (xs.length:Int)∧kcells (List.getD xs i.toNat []) 0 (lapp [CK.int IntKind.i64] (lapp [CK.int IntKind.i32] [])) = List.getD xs i.toNat []∧(0:Int)≤IntKind.wrap .i64 (i - 1)∧IntKind.wrap .i64 (i - 1) < (xs.length:Int)∧kcells (List.getD xs (IntKind.wrap .i64 (i - 1)).toNat []) 0 (lapp [CK.int IntKind.i64] (lapp [CK.int IntKind.i32] [])) = List.getD xs (IntKind.wrap .i64 (i - 1)).toNat []∧brn (decide (ivInt (ivNth (List.getD xs i.toNat []) 0)≥ivInt (ivNth (List.getD xs (IntKind.wrap .i64 (i - 1)).toNat []) 0))) ((0:Int)≤i∧i < (xs.length:Int)∧kcells (List.getD xs i.toNat []) 0 (lapp [CK.int IntKind.i64] (lapp [CK.int IntKind.i32] [])) = List.getD xs i.toNat []∧(0:Int)≤IntKind.wrap .i64 (i - 1)∧IntKind.wrap .i64 (i - 1) < (xs.length:Int)
 ∧ kcells (List.getD xs (IntKind.wrap .i64 (i - 1)).toNat []) 0 (lapp [CK.int IntKind.i64] (lapp [CK.int IntKind.i32] [])) = List.getD xs (IntKind.wrap .i64 (i - 1)).toNat []∧K [bo (decide (IntKind.wrap .i64 (ivInt (ivNth (List.getD xs i.toNat []) 0) - ivInt (ivNth (List.getD xs (IntKind.wrap .i64 (i - 1)).toNat []) 0))≥2419199))]) (K [bo false]))):=by kernel_rfl
theorem g138_in (xs:List (List IV)) (i:Int) (n:Int) (K:List AV→Prop):evSpec M7 Tryz.f143 [sl2 xs,i6 i,i6 n] K = (((decide (i > 0) || decide (n≥4)) = false→(0:Int)≤0)∧((decide (i > 0) || decide (n≥4)) = false→(0:Int) < (xs.length:Int))∧((decide (i > 0) || decide (n≥4)) = false→kcells (List.getD xs (0:Int).toNat []) 0 (lapp [CK.int IntKind.i64] (lapp [CK.int IntKind.i32] [])) = List.getD xs (0:Int).toNat [])∧((decide (i > 0) || decide (n≥4) || ivInt (ivNth (List.getD xs (0:Int).toNat []) (0 + 1)) == 1) = false→(0:Int)≤0)∧((decide (i > 0) || decide (n≥4) || ivInt (ivNth (List.getD xs (0:Int).toNat []) (0 + 1)) == 1) = false→(0:Int) < (xs.length:Int))∧((decide (i > 0) || decide (n≥4) || ivInt (ivNth (List.getD xs (0:Int).toNat []) (0 + 1)) == 1) = false→kcells (List.getD xs (0:Int).toNat []) 0 (lapp [CK.int IntKind.i64] (lapp [CK.int IntKind.i32] [])) = List.getD xs (0:Int).toNat [])∧K [bo (decide (i > 0) || decide (n≥4) || ivInt (ivNth (List.getD xs (0:Int).toNat []) (0 + 1)) == 1 || ivInt (ivNth (List.getD xs (0:Int).toNat []) (0 + 1)) == (-1:Int))]):=by kernel_rfl
theorem g139_in (xs:List
 (List IV)) (i:Int) (n:Int) (K:List AV→Prop):evSpec M8 Tryz.f144 [sl2 xs,i6 i,i6 n] K = (brn (i == (0:Int)) (K [AV.imm (IV.bool true)]) ((1:Int)≤i∧i < (↑(List.length xs):Int)∧okX xs∧K [AV.imm (IV.bool (stL xs i == (1:Int) || stL xs i == (-1:Int) || stL xs i == (0:Int) && decide (n≥(4:Int)) && i == IntKind.wrap IntKind.i64 ((↑(List.length xs):Int) - (1:Int))))])):=by kernel_rfl
theorem g29_in (xs:List (List IV)) (n:Int) (K:List AV→Prop):evSpec M29 Tryz.f40 [sl2 xs,i6 n] K = (LoopI M29 (bodyOf Tryz.f40) (0:Nat) (St.mk (lapp [AV.imm (IV.sl (2:Nat) xs),AV.imm (IV.int IntKind.i64 n),AV.dead,AV.dead,AV.imm (IV.bool false),AV.dead,AV.dead,AV.dead,AV.imm (IV.sl (2:Nat) xs),AV.imm (IV.int IntKind.i64 (↑(List.length xs):Int)),AV.imm (IV.int IntKind.i64 (0:Int))] (dN 17)) [] (0:Nat) []) (finK M29 Tryz.f40 K)):=by kernel_rfl
theorem g29_lp (xs:List
 (List IV)) (n:Int) (i:Int) (k:AX→St→Prop):evCode M29 (loopB (bodyOf Tryz.f40) (0:Nat)) (k29 xs n i) k = (brn (decide (i < (↑(List.length xs):Int))) (LoopI M29 (loopB (bodyOf Tryz.f40) (0:Nat)) (0:Nat) (St.mk (lapp [AV.imm (IV.sl (2:Nat) xs),AV.imm (IV.int IntKind.i64 n),AV.dead,AV.dead,AV.dead,AV.imm (IV.int IntKind.i64 i),AV.dead,AV.dead,AV.dead,AV.imm (IV.int IntKind.i64 (↑(List.length xs):Int)),AV.imm (IV.int IntKind.i64 i),AV.imm (IV.bool (decide (i < (↑(List.length xs):Int)))),AV.imm (IV.int IntKind.i64 i),AV.imm (IV.sl (2:Nat) ruT),AV.imm (IV.int IntKind.i64 (3:Int)),AV.imm (IV.int IntKind.i64 (0:Int))] (dN 12)) [] (0:Nat) []) k) (k (AX.exit (0:Nat)) (St.mk (lapp [AV.imm (IV.sl (2:Nat) xs),AV.imm (IV.int IntKind.i64 n)] (lapp (dN 7) (lapp [AV.imm (IV.int IntKind.i64 (↑(List.length xs):Int)),AV.imm (IV.int IntKind.i64 i),AV.imm (IV.bool (decide (i < (↑(List.length xs):Int))))] (dN 16)))) [] (0:Nat) []))):=by kernel_rfl
theorem g29_l0 (xs:List (List IV)) (n:Int) (i:Int) (k:AX→St→Prop):evCode M29 (loopB (loopB (bodyOf Tryz.f40) 0) 0) (k29b xs n i (0:Int)) k = ((0:Int)≤0∧(0:Int) < (ruT.length:Int)∧kcells (List.getD ruT (0:Int).toNat []) 0 (lapp [CK.str] (lapp [CK.any] [])) = List.getD ruT (0:Int).toNat []∧(0:Int)≤i∧i < (xs.length:Int)∧okX xs∧brn (!ru1 xs i) (k AX.ret (St.mk [.imm (.sl 2 xs),i64 n,.dead,.dead,bo false,i64 i,.dead,.ptr 0 0,.dead,i64 (xs.length:Int),i64 i,.dead,.dead,.imm (.sl 2 ruT),i64 3,i64 0,bo true,AV.elv [IV.str (ivStr (ivNth (List.getD ruT (0:Int).toNat []) 0)),IV.val (Value.func (Fn.func (142:FuncId)) #[] #[])],.agg [.imm (.str (ivStr (ivNth (List.getD ruT (0:Int).toNat []) 0))),.imm (.val (Value.func (Fn.func (142:FuncId)) #[] #[]))],.ptr 0 1,.imm (.val (Value.func (Fn.func (142:FuncId)) #[] #[])),.imm (.sl 2 xs),i64 i,i64 n,bo (ru1 xs i),bo (!ru1 xs i),.dead,.dead] [(0,Ob.mk true 0 (AObj.cells [.imm (.str (ivStr (ivNth (List.getD ruT (0:Int).toNat []) 0))),.imm (.val (Value.func (Fn.func (142:FuncId)) #[] #[]))]))] 1 [])) (k AX.normal (St.mk [.imm (.sl 2 xs),i64 n,.dead,.dead,
 .dead,i64 i,.dead,.ptr 0 0,.dead,i64 (xs.length:Int),i64 i,.dead,.dead,.imm (.sl 2 ruT),i64 3,i64 1,bo true,AV.elv [IV.str (ivStr (ivNth (List.getD ruT (0:Int).toNat []) 0)),IV.val (Value.func (Fn.func (142:FuncId)) #[] #[])],.agg [.imm (.str (ivStr (ivNth (List.getD ruT (0:Int).toNat []) 0))),.imm (.val (Value.func (Fn.func (142:FuncId)) #[] #[]))],.ptr 0 1,.imm (.val (Value.func (Fn.func (142:FuncId)) #[] #[])),.imm (.sl 2 xs),i64 i,i64 n,bo (ru1 xs i),bo (!ru1 xs i),i64 1,.dead] [(0,Ob.mk true 0 (AObj.cells [.imm (.str (ivStr (ivNth (List.getD ruT (0:Int).toNat []) 0))),.imm (.val (Value.func (Fn.func (142:FuncId)) #[] #[]))]))] 1 []))):=by kernel_rfl
theorem g29_l1 (xs:List (List IV)) (n:Int) (i:Int) (k:AX→St→Prop):evCode M29 (loopB (loopB (bodyOf Tryz.f40) 0) 0) (k29b xs n i (1:Int)) k = ((0:Int)≤1∧(1:Int) < (ruT.length:Int)∧kcells (List.getD ruT (1:Int).toNat []) 0 (lapp [CK.str] (lapp [CK.any] [])) = List.getD ruT (1:Int).toNat []∧(0:Int)≤i∧i < (xs.length:Int)∧okX xs∧brn (!ru2 xs i n) (k AX.ret (St.mk [.imm (.sl 2 xs),i64 n,.dead,.dead,bo false,i64 i,.dead,.ptr 0 0,.dead,i64 (xs.length:Int),i64 i,.dead,.dead,.imm (.sl 2 ruT),i64 3,i64 1,bo true,AV.elv [IV.str (ivStr (ivNth (List.getD ruT (1:Int).toNat []) 0)),IV.val (Value.func (Fn.func (143:FuncId)) #[] #[])],.agg [.imm (.str (ivStr (ivNth (List.getD ruT (1:Int).toNat []) 0))),.imm (.val (Value.func (Fn.func (143:FuncId)) #[] #[]))],.ptr 0 1,.imm (.val (Value.func (Fn.func (143:FuncId)) #[] #[])),.imm (.sl 2 xs),i64 i,i64 n,bo (ru2 xs i n),bo (!ru2 xs i n),.dead,.dead] [(0,Ob.mk true 0 (AObj.cells [.imm (.str (ivStr (ivNth (List.getD ruT (1:Int).toNat []) 0))),.imm (.val (Value.func (Fn.func (143:FuncId)) #[] #[]))]))] 1 [])) (k AX.normal (St.mk [.imm (.sl 2 xs),i64 n,.dead,.dead,
 .dead,i64 i,.dead,.ptr 0 0,.dead,i64 (xs.length:Int),i64 i,.dead,.dead,.imm (.sl 2 ruT),i64 3,i64 2,bo true,AV.elv [IV.str (ivStr (ivNth (List.getD ruT (1:Int).toNat []) 0)),IV.val (Value.func (Fn.func (143:FuncId)) #[] #[])],.agg [.imm (.str (ivStr (ivNth (List.getD ruT (1:Int).toNat []) 0))),.imm (.val (Value.func (Fn.func (143:FuncId)) #[] #[]))],.ptr 0 1,.imm (.val (Value.func (Fn.func (143:FuncId)) #[] #[])),.imm (.sl 2 xs),i64 i,i64 n,bo (ru2 xs i n),bo (!ru2 xs i n),i64 2,.dead] [(0,Ob.mk true 0 (AObj.cells [.imm (.str (ivStr (ivNth (List.getD ruT (1:Int).toNat []) 0))),.imm (.val (Value.func (Fn.func (143:FuncId)) #[] #[]))]))] 1 []))):=by kernel_rfl
theorem g29_l2 (xs:List (List IV)) (n:Int) (i:Int) (k:AX→St→Prop):evCode M29 (loopB (loopB (bodyOf Tryz.f40) 0) 0) (k29b xs n i (2:Int)) k = ((0:Int)≤2∧(2:Int) < (ruT.length:Int)∧kcells (List.getD ruT (2:Int).toNat []) 0 (lapp [CK.str] (lapp [CK.any] [])) = List.getD ruT (2:Int).toNat []∧(0:Int)≤i∧i < (xs.length:Int)∧okX xs∧brn (!ru3 xs i n) (k AX.ret (St.mk [.imm (.sl 2 xs),i64 n,.dead,.dead,bo false,i64 i,.dead,.ptr 0 0,.dead,i64 (xs.length:Int),i64 i,.dead,.dead,.imm (.sl 2 ruT),i64 3,i64 2,bo true,AV.elv [IV.str (ivStr (ivNth (List.getD ruT (2:Int).toNat []) 0)),IV.val (Value.func (Fn.func (144:FuncId)) #[] #[])],.agg [.imm (.str (ivStr (ivNth (List.getD ruT (2:Int).toNat []) 0))),.imm (.val (Value.func (Fn.func (144:FuncId)) #[] #[]))],.ptr 0 1,.imm (.val (Value.func (Fn.func (144:FuncId)) #[] #[])),.imm (.sl 2 xs),i64 i,i64 n,bo (ru3 xs i n),bo (!ru3 xs i n),.dead,.dead] [(0,Ob.mk true 0 (AObj.cells [.imm (.str (ivStr (ivNth (List.getD ruT (2:Int).toNat []) 0))),.imm (.val (Value.func (Fn.func (144:FuncId)) #[] #[]))]))] 1 [])) (k AX.normal (St.mk [.imm (.sl 2 xs),i64 n,.dead,.dead,
 .dead,i64 i,.dead,.ptr 0 0,.dead,i64 (xs.length:Int),i64 i,.dead,.dead,.imm (.sl 2 ruT),i64 3,i64 3,bo true,AV.elv [IV.str (ivStr (ivNth (List.getD ruT (2:Int).toNat []) 0)),IV.val (Value.func (Fn.func (144:FuncId)) #[] #[])],.agg [.imm (.str (ivStr (ivNth (List.getD ruT (2:Int).toNat []) 0))),.imm (.val (Value.func (Fn.func (144:FuncId)) #[] #[]))],.ptr 0 1,.imm (.val (Value.func (Fn.func (144:FuncId)) #[] #[])),.imm (.sl 2 xs),i64 i,i64 n,bo (ru3 xs i n),bo (!ru3 xs i n),i64 3,.dead] [(0,Ob.mk true 0 (AObj.cells [.imm (.str (ivStr (ivNth (List.getD ruT (2:Int).toNat []) 0))),.imm (.val (Value.func (Fn.func (144:FuncId)) #[] #[]))]))] 1 []))):=by kernel_rfl
theorem g29_l3 (xs:List (List IV)) (n:Int) (i:Int) (k:AX→St→Prop):evCode M29 (loopB (loopB (bodyOf Tryz.f40) 0) 0) (k29b xs n i (3:Int)) k = (k (AX.exit 2) (St.mk (lapp [.imm (.sl 2 xs),i64 n,.dead,.dead,.dead,i64 i,.dead,.dead,.dead,i64 (xs.length:Int),i64 i,.dead,.dead,.imm (.sl 2 ruT),i64 3,i64 3,bo false] (dN 11)) [] 0 [])):=by kernel_rfl
theorem g17_in (xs:List (List IV)) (K:List AV→Prop):evSpec M17 Tryz.f19 [sl2 xs] K = (okX xs∧(lvA xs (4:Int) = true→okX xs)∧K [bo (lvA xs (4:Int) && !lvA xs (3:Int))]):=by kernel_rfl
theorem g29_out (xs:List (List IV)) (n:Int) (i:Int) (k:AX→St→Prop):loopK M29 (loopB (bodyOf Tryz.f40) 0) 0 k (AX.exit 2) (St.mk (lapp [.imm (.sl 2 xs),i64 n,.dead,.dead,.dead,i64 i,.dead,.dead,.dead,i64 (xs.length:Int),i64 i,.dead,.dead,.imm (.sl 2 ruT),i64 3,i64 3,bo false] (dN 11)) [] 0 []) = (k AX.normal (St.mk (lapp [.imm (.sl 2 xs),i64 n,.dead,.dead,.dead,i64 i,.dead,.dead,.dead,i64 (xs.length:Int),i64 (IntKind.wrap .i64 (i + 1)),.dead,.dead,.imm (.sl 2 ruT),i64 3,i64 3,bo false] (lapp (dN 10) [i64 (IntKind.wrap .i64 (i + 1))])) [] 0 [])):=by kernel_rfl
theorem loop_step {C:Cx} {c:Code} {k:AX→St→Prop} {st S st1:St} {p:Plan} (hu:C.rounds = 0) (hn:norm p st = some S) (hb:∀ K':AX→St→Prop,K' .normal st1→evCode C c S K') (h:evCode C (.loop c) st1 k):evCode C (.loop c) st k:=by
 unfold evCode at h ⊢
 simp only [hu] at h ⊢
 obtain ⟨m,hm⟩:=h
 exact ⟨m + 1,p,S,hn,hb _ hm⟩
theorem loop_stop {C:Cx} {c:Code} {k:AX→St→Prop} {st S st1:St} {p:Plan} {x:AX} (hx:x≠.normal) (hu:C.rounds = 0) (hn:norm p st = some S) (hb:∀ K':AX→St→Prop,K' x st1→evCode C c S K') (h:k x st1):evCode C (.loop c) st k:=by
 unfold evCode
 simp only [hu]
 refine ⟨1,p,S,hn,hb _ ?_⟩
 cases x with
 | normal=>exact absurd rfl hx
 | _=>exact h
theorem okB0:EOK Tryz.prog B0 G6:=okF30
theorem ok140:∀ args pres res,sStep args = some (pres,res)→SpecOK Tryz.prog G6 145 args pres res:=by
 intro args pres res h
 unfold sStep at h
 split at h
 case h_2=>cases h
 cases h
 rename_i xs i
 refine spec_ok (C:=M5) okB0 noCall_ok Tryz.func145 (by kernel_rfl) (by kernel_rfl) (fun hp=>?_)
 have h1:1≤i:=hp _ (by simp)
 have h2:i < (xs.length:Int):=hp _ (by simp)
 have h3:okX xs:=hp (okX xs) (by simp)
 have hl:=h3.len
 have e0:IntKind.wrap .i64 (i - 1) = i - 1:=wrap64 (by omega) (by omega)
 refine Eq.mpr (g140_in xs i _) ?_
 intro E1
 have hE:E1:=rfl
 clear_value E1
 rw [e0]
 exact ⟨⟨by omega,h2,h3.kc i (by omega) h2,by omega,by omega,h3.kc (i - 1) (by omega) (by omega),hE,hE⟩,rfl⟩
theorem okH1:EOK Tryz.prog H1 G6:=addE_ok okB0 ok140
theorem ok137:∀ args pres res,sR1 args = some (pres,res)→SpecOK Tryz.prog G6 142 args pres res:=by
 intro args pres res h
 unfold sR1 at h
 split at h
 case h_2=>cases h
 cases h
 rename_i xs i n
 refine spec_ok (C:=M7) okB0 noCall_ok Tryz.func142 (by kernel_rfl) (by kernel_rfl) (fun hp=>?_)
 have h1:0≤i:=hp _ (by simp)
 have h2:i < (xs.length:Int):=hp _ (by simp)
 have h3:okX xs:=hp (okX xs) (by simp)
 have hl:=h3.len
 have e0:IntKind.wrap .i64 (i - 1) = i - 1:=wrap64 (by omega) (by omega)
 refine Eq.mpr (g137_in xs i n _) ?_
 rw [e0]
 refine brn_intro (fun hz=>?_) (fun hz=>?_)
 ·have:ru1 xs i = decide (aL xs 0≥0):=by unfold ru1; rw [hz]; first | done | rfl
  rw [this]
  exact ⟨by decide,by omega,h3.kc 0 (by decide) (by omega),rfl⟩
 ·have hz':i≠0:=fun e=>by rw [e] at hz; exact absurd hz (by decide)
  have:ru1 xs i = (decide (aL xs i≥aL xs (i - 1)) && decide (IntKind.wrap .i64 (aL xs i - aL xs (i - 1))≥2419199)):=by unfold ru1; rw [hz]; first | done | rfl
  rw [this]
  have ka:=h3.kc i h1 h2
  have kb:=h3.kc (i - 1) (by omega) (by omega)
  refine ⟨h1,h2,ka,by omega,by omega,kb,brn_intro (fun hy=>⟨h1,h2,ka,by omega,by omega,kb,?_⟩) (fun hy=>?_)⟩
  ·have hy':decide (aL xs i≥aL xs (i - 1)) = true:=hy
   rw [hy']; first | done | rfl
  ·have hy':decide (aL xs i≥aL xs (i - 1)) = false:=hy
   rw [hy']; first | done | rfl
theorem ok138:∀ args pres res,sR2 args = some (pres,res)→SpecOK Tryz.prog G6 143 args pres res:=by
 intro args pres res h
 unfold sR2 at h
 split at h
 case h_2=>cases h
 cases h
 rename_i xs i n
 refine spec_ok (C:=M7) okB0 noCall_ok Tryz.func143 (by kernel_rfl) (by kernel_rfl) (fun hp=>?_)
 have h1:0≤i:=hp _ (by simp)
 have h2:i < (xs.length:Int):=hp _ (by simp)
 have h3:okX xs:=hp (okX xs) (by simp)
 refine Eq.mpr (g138_in xs i n _) ?_
 have k0:=h3.kc 0 (by decide) (by omega)
 exact ⟨fun _=>by decide,fun _=>by omega,fun _=>k0,fun _=>by decide,fun _=>by omega,fun _=>k0,rfl⟩
theorem ok139:∀ args pres res,sR3 args = some (pres,res)→SpecOK Tryz.prog G6 144 args pres res:=by
 intro args pres res h
 unfold sR3 at h
 split at h
 case h_2=>cases h
 cases h
 rename_i xs i n
 refine spec_ok (C:=M8) okH1 noCall_ok Tryz.func144 (by kernel_rfl) (by kernel_rfl) (fun hp=>?_)
 have h1:0≤i:=hp _ (by simp)
 have h2:i < (xs.length:Int):=hp _ (by simp)
 have h3:okX xs:=hp (okX xs) (by simp)
 have hl:=h3.len
 have e0:IntKind.wrap .i64 ((xs.length:Int) - 1) = (xs.length:Int) - 1:=wrap64 (by omega) (by omega)
 refine Eq.mpr (g139_in xs i n _) ?_
 rw [e0]
 refine brn_intro (fun hz=>?_) (fun hz=>?_)
 ·have:ru3 xs i n = true:=by unfold ru3; rw [hz]; first | done | rfl
  rw [this]; first | done | rfl
 ·have hz':i≠0:=fun e=>by rw [e] at hz; exact absurd hz (by decide)
  have:ru3 xs i n = (stL xs i == 1 || stL xs i == -1 || (stL xs i == 0 && decide (n≥4) && i == (xs.length:Int) - 1)):=by unfold ru3; rw [hz]; first | done | rfl
  rw [this]
  exact ⟨by omega,h2,h3,rfl⟩
theorem okH2:EOK Tryz.prog H2 G6:=addE_ok (addE_ok (addE_ok okH1 ok137) ok138) ok139
def ruA (xs:List (List IV)) (n:Int) (i:Nat):Bool:=ru1 xs i && ru2 xs i n && ru3 xs i n
theorem lvA_false {xs:List (List IV)} {n:Int} {i:Nat} (hi:i < xs.length) (h:ruA xs n i = false):lvA xs n = false:=by
 unfold lvA
 rw [List.all_eq_false]
 exact ⟨i,by simpa using hi,by unfold ruA at h; rw [h]; simp⟩
theorem lvA_true {xs:List (List IV)} {n:Int} (h:∀ i:Nat,i < xs.length→ruA xs n i = true):lvA xs n = true:=by
 unfold lvA
 rw [List.all_eq_true]
 intro i hi
 exact h i (by simpa using hi)
theorem in_ret (K':AX→St→Prop) (st:St):loopK M29 (loopB (bodyOf Tryz.f40) 0) 0 K' .ret st = K' .ret st:=by kernel_rfl
theorem lv_ex (xs:List (List IV)) (n:Int) (hX:okX xs):∀ K:List AV→Prop,K [bo6 (lvA xs n)]→evSpec M29 Tryz.f40 [sl2 xs,i6 n] K:=by
 have hl:=hX.len
 refine Exists.elim (loop_det (C:=M29) (c:=loopB (bodyOf Tryz.f40) 0) (fun i:Int=>k29 xs n i) (fun i=>0≤i∧i≤xs.length∧∀ j:Nat,(j:Int) < i→ruA xs n j = true) (fun i=>((xs.length:Int) - i).toNat) (fun v:Bool=>v = lvA xs n) (fun v=>[bo6 v])
  (fun K=>loopK M29 (bodyOf Tryz.f40) 0 (finK M29 Tryz.f40 K)) rfl (fun i hs=>?_) 0 ⟨Int.le_refl 0,by omega,fun j hj=>by omega⟩) (fun v hv=>?_)
 ·obtain ⟨i1,i2,i3⟩:=hs
  by_cases h:i < xs.length
  ·obtain ⟨j,rfl⟩:∃ j:Nat,i = j:=⟨i.toNat,by omega⟩
   have hj:j < xs.length:=by omega
   have done:∀ (st1:St) (K2:AX→St→Prop),K2 .ret st1→loopK M29 (loopB (bodyOf Tryz.f40) 0) 0 K2 .ret st1:=fun st1 K2 h=>Eq.mpr (in_ret K2 st1) h
   cases q1:ru1 xs j with
   | false =>
    refine .inr ⟨.ret,_,by simp,fun K' hK'=>by
     rw [g29_lp]
     refine brn_T (decide_eq_true h) ?_
     unfold LoopI
     exact loop_stop (p:=q29b) (x:=.ret) (S:=k29b xs n j 0) (by simp) rfl (by kernel_rfl) (fun K2 h2=>by
      rw [g29_l0]
      exact ⟨by decide,by decide,rfl,i1,h,hX,brn_T (by rw [q1]; rfl) h2⟩) (done _ _ hK'),false,(lvA_false hj (by unfold ruA; rw [q1]; rfl)).symm,fun K hK=>?_⟩
    exact Eq.mp (by kernel_rfl) hK
   | true =>
   cases q2:ru2 xs j n with
   | false =>
    refine .inr ⟨.ret,_,by simp,fun K' hK'=>by
     rw [g29_lp]
     refine brn_T (decide_eq_true h) ?_
     unfold LoopI
     exact loop_step (p:=q29b) (S:=k29b xs n j 0) rfl (by kernel_rfl) (fun K2 h2=>by
      rw [g29_l0]
      exact ⟨by decide,by decide,rfl,i1,h,hX,brn_Fa (by rw [q1]; rfl) h2⟩) (loop_stop (p:=q29b) (x:=.ret) (S:=k29b xs n j 1) (by simp) rfl (by kernel_rfl) (fun K2 h2=>by
      rw [g29_l1]
      exact ⟨by decide,by decide,rfl,i1,h,hX,brn_T (by rw [q2]; rfl) h2⟩) (done _ _ hK')),false,(lvA_false hj (by unfold ruA; rw [q2]; simp)).symm,fun K hK=>?_⟩
    exact Eq.mp (by kernel_rfl) hK
   | true =>
   cases q3:ru3 xs j n with
   | false =>
    refine .inr ⟨.ret,_,by simp,fun K' hK'=>by
     rw [g29_lp]
     refine brn_T (decide_eq_true h) ?_
     unfold LoopI
     exact loop_step (p:=q29b) (S:=k29b xs n j 0) rfl (by kernel_rfl) (fun K2 h2=>by
      rw [g29_l0]
      exact ⟨by decide,by decide,rfl,i1,h,hX,brn_Fa (by rw [q1]; rfl) h2⟩) (loop_step (p:=q29b) (S:=k29b xs n j 1) rfl (by kernel_rfl) (fun K2 h2=>by
      rw [g29_l1]
      exact ⟨by decide,by decide,rfl,i1,h,hX,brn_Fa (by rw [q2]; rfl) h2⟩) (loop_stop (p:=q29b) (x:=.ret) (S:=k29b xs n j 2) (by simp) rfl (by kernel_rfl) (fun K2 h2=>by
      rw [g29_l2]
      exact ⟨by decide,by decide,rfl,i1,h,hX,brn_T (by rw [q3]; rfl) h2⟩) (done _ _ hK'))),false,(lvA_false hj (by unfold ruA; rw [q3]; simp)).symm,fun K hK=>?_⟩
    exact Eq.mp (by kernel_rfl) hK
   | true =>
    refine .inl ⟨(j:Int) + 1,q29,_,⟨by omega,by omega,fun m hm=>?_⟩,by omega,?_,fun K' hK'=>by
     rw [g29_lp]
     refine brn_T (decide_eq_true h) ?_
     unfold LoopI
     exact loop_step (p:=q29b) (S:=k29b xs n j 0) rfl (by kernel_rfl) (fun K2 h2=>by
      rw [g29_l0]
      exact ⟨by decide,by decide,rfl,i1,h,hX,brn_Fa (by rw [q1]; rfl) h2⟩) (loop_step (p:=q29b) (S:=k29b xs n j 1) rfl (by kernel_rfl) (fun K2 h2=>by
      rw [g29_l1]
      exact ⟨by decide,by decide,rfl,i1,h,hX,brn_Fa (by rw [q2]; rfl) h2⟩) (loop_step (p:=q29b) (S:=k29b xs n j 2) rfl (by kernel_rfl) (fun K2 h2=>by
      rw [g29_l2]
      exact ⟨by decide,by decide,rfl,i1,h,hX,brn_Fa (by rw [q3]; rfl) h2⟩) (loop_stop (p:=q29b) (x:=.exit 2) (S:=k29b xs n j 3) (by simp) rfl (by kernel_rfl) (fun K2 h2=>by
      rw [g29_l3]
      exact h2) (Eq.mpr (g29_out xs n j K') hK'))))⟩
    ·by_cases hmj:m = j
     ·rw [hmj]; unfold ruA; rw [q1,q2,q3]; first | done | rfl
     ·exact i3 m (by omega)
    ·rw [w1 (by omega) (by omega)]
     kernel_rfl
  ·refine .inr ⟨.exit 0,_,by simp,fun K' hK'=>by
    rw [g29_lp]
    exact brn_Fa (decide_eq_false h) hK',true,(lvA_true (fun j hj=>i3 j (by omega))).symm,fun K hK=>?_⟩
   exact Eq.mp (by kernel_rfl) hK
 ·obtain ⟨rfl,hk⟩:=hv
  intro K hK
  rw [g29_in]
  unfold LoopI
  exact hk K hK q29 _ (by kernel_rfl)
theorem ok29:∀ args pres res,sLv args = some (pres,res)→SpecOK Tryz.prog G6 40 args pres res:=by
 intro args pres res h
 unfold sLv at h
 split at h
 case h_2=>cases h
 cases h
 rename_i xs n
 exact spec_ok (C:=M29) okH2 noCall_ok Tryz.func40 (by kernel_rfl) (by kernel_rfl) (fun hp=>lv_ex xs n (hp (okX xs) (by simp)) _ rfl)
theorem okH3:EOK Tryz.prog H3 G6:=addE_ok okH2 ok29
theorem ok17:∀ args pres res,sNeed args = some (pres,res)→SpecOK Tryz.prog G6 19 args pres res:=by
 intro args pres res h
 unfold sNeed at h
 split at h
 case h_2=>cases h
 cases h
 rename_i xs
 refine spec_ok (C:=M17) okH3 noCall_ok Tryz.func19 (by kernel_rfl) (by kernel_rfl) (fun hp=>?_)
 have hX:okX xs:=hp (okX xs) (by simp)
 exact Eq.mpr (g17_in xs _) ⟨hX,fun _=>hX,rfl⟩
theorem okH4:EOK Tryz.prog H4 G6:=addE_ok okH3 ok17
end Q6
namespace Q6
open Go Go.AE Go.Proofs
def sw {α:Type} (l:List α) (d:α) (k:Int):List α:=if k < (l.length:Int) then (l.set 0 (l.getD k.toNat d)).set k.toNat (l.getD 0 d) else l
def rowsT (X:List (List IV)):Prop:=∀ k:Int,0≤k→k < (X.length:Int)→kcells (List.getD X (Int.toNat k) []) 0 (lapp [CK.int .i32] (lapp [CK.bool] (lapp [CK.int .u8] []))) = List.getD X (Int.toNat k) []
structure okT6 (X:List (List IV)):Prop where
 len:(X.length:Int)≤1000000
 kc:rowsT X
 sl:(IV.sl 3 X).isSl = true
def sCloI:List AV→Option (List Prop×List AV)
 | [.imm (.ints .i64 T)]=>some ([(T.length:Int)≤1000000],[.new (.ints .i64 T)])
 | _=>none
def sCloB:List AV→Option (List Prop×List AV)
 | [.imm (.bytes T)]=>some ([(T.length:Int)≤1000000],[.new (.bytes T)])
 | _=>none
def sCloT:List AV→Option (List Prop×List AV)
 | [.imm (.sl 3 X)]=>some ([okT6 X],[.new (.sl 3 X)])
 | _=>none
def sCloO:List AV→Option (List Prop×List AV)
 | [.imm (.bools T)]=>some ([(T.length:Int)≤1000000],[.new (.bools T)])
 | _=>none
def sSwO:List AV→Option (List Prop×List AV)
 | [.imm (.bools T),.imm (.int .i64 k)]=>some ([(T.length:Int)≤1000000,0≤k],[.new (.bools (sw T false k))])
 | _=>none
def sSwT:List AV→Option (List Prop×List AV)
 | [.imm (.sl 3 X),.imm (.int .i64 k)]=>some ([okT6 X,0≤k],[.new (.sl 3 (sw X [] k))])
 | _=>none
noncomputable def H5:=addE (addE (addE (addE H4 130 sCloI) 132 sCloB) 137 sCloT) 138 sCloO
noncomputable def H6:=addE (addE H5 133 sSwO) 131 sSwT
noncomputable def V3:Cx:=⟨Tryz.prog,H4,noCall,G6,998⟩
noncomputable def V8:Cx:=⟨Tryz.prog,H5,noCall,G6,998⟩
end Q6
set_option maxRecDepth 100000
namespace Q6
open Go Go.AE Go.Proofs PE PF
attribute [local irreducible] loopK evCode evSpec loopB norm
theorem g125_in (T:List Int) (K:List AV→Prop):evSpec V3 Tryz.f130 [.imm (.ints IntKind.i64 T)] K = ((List.length T = 0→K [AV.new (IV.ints IntKind.i64 [])])∧(([]:List UInt8).length + List.length T) * 8≤140737488355328∧([]:List UInt8).length + List.length T≤140737488355328∧K [AV.new (IV.ints IntKind.i64 ([] ++ T))]):=by kernel_rfl
theorem g127_in (T:List UInt8) (K:List AV→Prop):evSpec V3 Tryz.f132 [by' T] K = ((List.length T = 0→K [AV.new (IV.bytes [])])∧((List.map u8 []).length + List.length T) * 1≤140737488355328∧(List.map u8 []).length + List.length T≤140737488355328∧K [AV.new (IV.bytes (List.map u8 [] ++ T))]):=by kernel_rfl
theorem g132_in (T:List (List IV)) (K:List AV→Prop):evSpec V3 Tryz.f137 [.imm (.sl 3 T)] K = (Bool.rec False ((List.length T = 0→K [AV.new (IV.sl 3 [])])∧(([]:List UInt8).length + List.length T) * 8≤140737488355328∧([]:List UInt8).length + List.length T≤140737488355328∧K [AV.new (IV.sl 3 T)]) (IV.isSl (IV.sl 3 T))):=by kernel_rfl
theorem g133_in (T:List Bool) (K:List AV→Prop):evSpec V3 Tryz.f138 [.imm (.bools T)] K = ((List.length T = 0→K [AV.new (IV.bools [])])∧(([]:List UInt8).length + List.length T) * 1≤140737488355328∧([]:List UInt8).length + List.length T≤140737488355328∧K [AV.new (IV.bools ([] ++ T))]):=by kernel_rfl
theorem g128_in (T:List Bool) (j:Int) (K:List AV→Prop):evSpec V8 Tryz.f133 [.imm (.bools T),i64 j] K = ((T.length:Int)≤1000000∧brn (decide (j < (T.length:Int))) ((0:Int)≤j∧j < (T.length:Int)∧(0:Int)≤0∧(0:Int) < (T.length:Int)∧(0:Int)≤0∧(0:Int) < (T.length:Int)∧(0:Int)≤j∧j < (↑(List.set T (0:Int).toNat (List.getD T j.toNat false)).length:Int)∧K [AV.new (IV.bools (List.set (List.set T (0:Int).toNat (List.getD T j.toNat false)) j.toNat (List.getD T (0:Int).toNat false)))]) (K [AV.new (IV.bools T)])):=by kernel_rfl
theorem g126_in (T:List (List IV)) (j:Int) (K:List AV→Prop):evSpec V8 Tryz.f131 [.imm (.sl 3 T),i64 j] K = (let R1:Prop:=K [AV.new (IV.sl 3 (List.set (List.set T (0:Int).toNat [kcell (CK.int IntKind.i32) (ivNth (List.getD T j.toNat []) 0),kcell CK.bool (ivNth (List.getD T j.toNat []) (0 + 1)),kcell (CK.int IntKind.u8) (ivNth (List.getD T j.toNat []) (0 + 1 + 1))]) j.toNat [kcell (CK.int IntKind.i32) (ivNth (List.getD T (0:Int).toNat []) 0),kcell CK.bool (ivNth (List.getD T (0:Int).toNat []) (0 + 1)),kcell (CK.int IntKind.u8) (ivNth (List.getD T (0:Int).toNat []) (0 + 1 + 1))]))]; let R2:Prop:=(kcells (List.getD T j.toNat []) 0 (lapp [CK.int IntKind.i32] (lapp [CK.bool] (lapp [CK.int IntKind.u8] []))) = List.getD T j.toNat []∧kcells (List.getD T (0:Int).toNat []) 0 (lapp [CK.int IntKind.i32] (lapp [CK.bool] (lapp [CK.int IntKind.u8] []))) = List.getD T (0:Int).toNat []∧(0:Int)≤0∧(0:Int) < (T.length:Int)∧(0:Int)≤j∧j < (↑(List.set T (0:Int).toNat [kcell (CK.int IntKind.i32) (ivNth (List.getD T j.toNat []) 0),kcell CK.bool (ivNth (List.getD T j.toNat []) (0 + 1)),kcell (CK.int IntKind.u8) (ivNth (List.getD T j.toNat []) (0 + 1
 + 1))]).length:Int)∧R1); okT6 T∧brn (decide (j < (T.length:Int))) (((0:Int)≤j∧j < (T.length:Int)∧(kcells (List.getD T j.toNat []) 0 (lapp [CK.int IntKind.i32] (lapp [CK.bool] (lapp [CK.int IntKind.u8] []))) = List.getD T j.toNat []∧(0:Int)≤0∧(0:Int) < (T.length:Int)∧kcells (List.getD T (0:Int).toNat []) 0 (lapp [CK.int IntKind.i32] (lapp [CK.bool] (lapp [CK.int IntKind.u8] []))) = List.getD T (0:Int).toNat []∧(0:Int)≤0∧(0:Int) < (T.length:Int)∧(0:Int)≤j∧j < (↑(List.set T (0:Int).toNat [kcell (CK.int IntKind.i32) (ivNth (List.getD T j.toNat []) 0),kcell CK.bool (ivNth (List.getD T j.toNat []) (0 + 1)),kcell (CK.int IntKind.u8) (ivNth (List.getD T j.toNat []) (0 + 1 + 1))]).length:Int)∧R1)∧(0:Int)≤0∧(0:Int) < (T.length:Int)∧R2∧kcells (List.getD T (0:Int).toNat []) 0 (lapp [CK.int IntKind.i32] (lapp [CK.bool] (lapp [CK.int IntKind.u8] []))) = List.getD T (0:Int).toNat []∧kcells (List.getD T j.toNat []) 0 (lapp [CK.int IntKind.i32] (lapp [CK.bool] (lapp [CK.int IntKind.u8] []))) = List.getD T j.toNat []∧(0:Int)≤0∧(0:Int) < (T.length:Int)∧(0:Int)≤j∧j < (↑(List.set T (0:Int).toNat
 [kcell (CK.int IntKind.i32) (ivNth (List.getD T j.toNat []) 0),kcell CK.bool (ivNth (List.getD T j.toNat []) (0 + 1)),kcell (CK.int IntKind.u8) (ivNth (List.getD T j.toNat []) (0 + 1 + 1))]).length:Int)∧R1)∧(0:Int)≤0∧(0:Int) < (T.length:Int)∧((0:Int)≤j∧j < (T.length:Int)∧R2∧kcells (List.getD T (0:Int).toNat []) 0 (lapp [CK.int IntKind.i32] (lapp [CK.bool] (lapp [CK.int IntKind.u8] []))) = List.getD T (0:Int).toNat []∧kcells (List.getD T j.toNat []) 0 (lapp [CK.int IntKind.i32] (lapp [CK.bool] (lapp [CK.int IntKind.u8] []))) = List.getD T j.toNat []∧(0:Int)≤0∧(0:Int) < (T.length:Int)∧(0:Int)≤j∧j < (↑(List.set T (0:Int).toNat [kcell (CK.int IntKind.i32) (ivNth (List.getD T j.toNat []) 0),kcell CK.bool (ivNth (List.getD T j.toNat []) (0 + 1)),kcell (CK.int IntKind.u8) (ivNth (List.getD T j.toNat []) (0 + 1 + 1))]).length:Int)∧R1)∧kcells (List.getD T (0:Int).toNat []) 0 (lapp [CK.int IntKind.i32] (lapp [CK.bool] (lapp [CK.int IntKind.u8] []))) = List.getD T (0:Int).toNat []∧(0:Int)≤j∧j < (T.length:Int)∧kcells (List.getD T j.toNat []) 0 (lapp [CK.int IntKind.i32] (lapp [CK.bool] (lapp [CK.int IntKind.u8]
 []))) = List.getD T j.toNat []∧(0:Int)≤0∧(0:Int) < (T.length:Int)∧(0:Int)≤j∧j < (↑(List.set T (0:Int).toNat [kcell (CK.int IntKind.i32) (ivNth (List.getD T j.toNat []) 0),kcell CK.bool (ivNth (List.getD T j.toNat []) (0 + 1)),kcell (CK.int IntKind.u8) (ivNth (List.getD T j.toNat []) (0 + 1 + 1))]).length:Int)∧R1) (K [AV.new (IV.sl 3 T)])):=by kernel_rfl
theorem lnil {α:Type} {l:List α} (h:l.length = 0):l = []:=List.length_eq_zero_iff.1 h
theorem ok125:∀ args pres res,sCloI args = some (pres,res)→SpecOK Tryz.prog G6 130 args pres res:=by
 intro args pres res h
 unfold sCloI at h
 split at h
 case h_2=>cases h
 cases h
 rename_i T
 refine spec_ok (C:=V3) okH4 noCall_ok Tryz.func130 (by kernel_rfl) (by kernel_rfl) (fun hp=>?_)
 have hl:(T.length:Int)≤1000000:=hp _ (by simp)
 exact Eq.mpr (g125_in T _) ⟨fun h0=>by rw [lnil h0],by simp only [List.length_nil]; omega,by simp only [List.length_nil]; omega,rfl⟩
theorem ok127:∀ args pres res,sCloB args = some (pres,res)→SpecOK Tryz.prog G6 132 args pres res:=by
 intro args pres res h
 unfold sCloB at h
 split at h
 case h_2=>cases h
 cases h
 rename_i T
 refine spec_ok (C:=V3) okH4 noCall_ok Tryz.func132 (by kernel_rfl) (by kernel_rfl) (fun hp=>?_)
 have hl:(T.length:Int)≤1000000:=hp _ (by simp)
 exact Eq.mpr (g127_in T _) ⟨fun h0=>by rw [lnil h0],by simp only [List.map_nil,List.length_nil]; omega,by simp only [List.map_nil,List.length_nil]; omega,rfl⟩
theorem ok132:∀ args pres res,sCloT args = some (pres,res)→SpecOK Tryz.prog G6 137 args pres res:=by
 intro args pres res h
 unfold sCloT at h
 split at h
 case h_2=>cases h
 cases h
 rename_i T
 refine spec_ok (C:=V3) okH4 noCall_ok Tryz.func137 (by kernel_rfl) (by kernel_rfl) (fun hp=>?_)
 have hT:okT6 T:=hp (okT6 T) (by simp)
 have hl:=hT.len
 refine Eq.mpr (g132_in T _) ?_
 rw [hT.sl]
 exact ⟨fun h0=>by rw [lnil h0],by simp only [List.length_nil]; omega,by simp only [List.length_nil]; omega,rfl⟩
theorem ok133:∀ args pres res,sCloO args = some (pres,res)→SpecOK Tryz.prog G6 138 args pres res:=by
 intro args pres res h
 unfold sCloO at h
 split at h
 case h_2=>cases h
 cases h
 rename_i T
 refine spec_ok (C:=V3) okH4 noCall_ok Tryz.func138 (by kernel_rfl) (by kernel_rfl) (fun hp=>?_)
 have hl:(T.length:Int)≤1000000:=hp _ (by simp)
 exact Eq.mpr (g133_in T _) ⟨fun h0=>by rw [lnil h0],by simp only [List.length_nil]; omega,by simp only [List.length_nil]; omega,rfl⟩
theorem okH5:EOK Tryz.prog H5 G6:=addE_ok (addE_ok (addE_ok (addE_ok okH4 ok125) ok127) ok132) ok133
theorem ok128:∀ args pres res,sSwO args = some (pres,res)→SpecOK Tryz.prog G6 133 args pres res:=by
 intro args pres res h
 unfold sSwO at h
 split at h
 case h_2=>cases h
 cases h
 rename_i T k
 refine spec_ok (C:=V8) okH5 noCall_ok Tryz.func133 (by kernel_rfl) (by kernel_rfl) (fun hp=>?_)
 have hl:(T.length:Int)≤1000000:=hp _ (by simp)
 have h0:0≤k:=hp _ (by simp)
 refine Eq.mpr (g128_in T k _) ⟨hl,brn_intro (fun h=>?_) (fun h=>?_)⟩
 ·have h:=of_decide_eq_true h
  have e:sw T false k = (T.set 0 (T.getD k.toNat false)).set k.toNat (T.getD 0 false):=by unfold sw; rw [if_pos h]
  rw [e]
  have q:(((T.set (Int.toNat 0) (T.getD k.toNat false)).length:Nat):Int) = T.length:=by rw [List.length_set]
  exact ⟨h0,h,by decide,by omega,by decide,by omega,h0,by rw [q]; exact h,rfl⟩
 ·have h:=of_decide_eq_false h
  have e:sw T false k = T:=by unfold sw; rw [if_neg h]
  rw [e]
theorem ok126:∀ args pres res,sSwT args = some (pres,res)→SpecOK Tryz.prog G6 131 args pres res:=by
 intro args pres res h
 unfold sSwT at h
 split at h
 case h_2=>cases h
 cases h
 rename_i T k
 refine spec_ok (C:=V8) okH5 noCall_ok Tryz.func131 (by kernel_rfl) (by kernel_rfl) (fun hp=>?_)
 have hT:okT6 T:=hp (okT6 T) (by simp)
 have h0:0≤k:=hp _ (by simp)
 have hl:=hT.len
 refine Eq.mpr (g126_in T k _) ?_
 intro R1 R2
 refine ⟨hT,brn_intro (fun h=>?_) (fun h=>?_)⟩
 ·have h:=of_decide_eq_true h
  have e:sw T [] k = (T.set 0 (T.getD k.toNat [])).set k.toNat (T.getD 0 []):=by unfold sw; rw [if_pos h]
  have q:∀ z,(((T.set (Int.toNat 0) z).length:Nat):Int) = T.length:=fun z=>by rw [List.length_set]
  have kj:=hT.kc k h0 h
  have k0:=hT.kc 0 (by decide) (by omega)
  have hR1:R1:=by
   show [AV.new (IV.sl 3 ((T.set 0 (kcells (List.getD T (Int.toNat k) []) 0 (lapp [CK.int .i32] (lapp [CK.bool] (lapp [CK.int .u8] []))))).set k.toNat (kcells (List.getD T (Int.toNat 0) []) 0 (lapp [CK.int .i32] (lapp [CK.bool] (lapp [CK.int .u8] []))))))] = [AV.new (IV.sl 3 (sw T [] k))]
   rw [kj,k0,e]
   first | done | rfl
  have hR2:R2:=⟨kj,k0,by decide,by omega,h0,by rw [q]; exact h,hR1⟩
  clear_value R1 R2
  have j0:k < (((T.set (Int.toNat 0) (kcells (List.getD T (Int.toNat k) []) 0 (lapp [CK.int .i32] (lapp [CK.bool] (lapp [CK.int .u8] []))))).length:Nat):Int):=by rw [q]; exact h
  have z0:(0:Int)≤0:=by decide
  have z1:(0:Int) < (T.length:Int):=by omega
  exact ⟨⟨h0,h,⟨kj,z0,z1,k0,z0,z1,h0,j0,hR1⟩,z0,z1,hR2,k0,kj,z0,z1,h0,j0,hR1⟩,z0,z1,⟨h0,h,hR2,k0,kj,z0,z1,h0,j0,hR1⟩,k0,h0,h,kj,z0,z1,h0,j0,hR1⟩
 ·have h:=of_decide_eq_false h
  have e:sw T [] k = T:=by unfold sw; rw [if_neg h]
  rw [e]
theorem okH6:EOK Tryz.prog H6 G6:=addE_ok (addE_ok okH5 ok128) ok126
end Q6
namespace Q6
open Go Go.AE Go.Proofs
def aft (T:List Int) (t:Int):Int:=((T.takeWhile fun x=>decide (x≤t)).length:Int)
structure asc (T:List Int):Prop where
 lt:∀ i j:Nat,i < j→j < T.length→T.getD i 0 < T.getD j 0
def sAft:List AV→Option (List Prop×List AV)
 | [.imm (.ints .i64 T),.imm (.int .i64 t)]=>some ([(T.length:Int)≤1000000,asc T],[i6 (aft T t)])
 | _=>none
noncomputable def I7:FuncId→Option Func:=fun f=>bif Nat.beq f 135 then some Tryz.f135 else bif Nat.beq f 136 then some Tryz.f136 else none
noncomputable def C7:Cx:=⟨Tryz.prog,H6,inl I7 Tryz.prog H6 G6 0 3,G6,0⟩
noncomputable def C6:Cx:=⟨Tryz.prog,H6,inl I7 Tryz.prog H6 G6 0 2,G6,0⟩
noncomputable def H7:=addE H6 128 sAft
def ii6 (T:List Int):AV:=.imm (.ints .i64 T)
def fn131:AV:=.fn 136 [] [.ptr 0 0,.ptr 1 0]
def ob6 (T:List Int) (t:Int):List (Nat×Ob):=[(0,⟨true,0,.cells [ii6 T]⟩),(1,⟨true,0,.cells [i6 t]⟩)]
def out123 (T:List Int) (t:Int):List AV:=[ii6 T,i6 t,.ptr 0 0,.ptr 1 0,i6 0,ii6 T,i6 (T.length:Int),fn131,.dead]
def k130 (T:List Int) (t i j:Int):St:=⟨spr [(1,fn131),(5,i6 i),(6,i6 j)] 0 26,ob6 T t,2,out123 T t⟩
def q130:Plan:=⟨[],msk [1,5,6] 0 26,[0,1]⟩
noncomputable def ops123:Array Oper:=match codeAt [.r,.l] (bodyOf Tryz.f128) with
 | .region _ ops _=>ops
 | _=>#[]
noncomputable def cont123 (K:List AV→Prop):AV→St→Prop:=fun v st'=>evOps C7 false ops123 (fun v st=>finK C7 Tryz.f128 K (.panic v) st) (ldrop 4 ops123.toList) [] (st'.put (some 8) v) (fun st=>evCode C7 (codeAt [.r,.r] (bodyOf Tryz.f128)) st (finK C7 Tryz.f128 K))
noncomputable def finI (C:Cx) (fn:Func) (n:Nat) (k:AV→St→Prop):AX→St→Prop:=fun x st1=>match x with
  | .normal=>match resOf C.P st1 fn.results.toList with
   | some vs=>k (resAV vs) (leave n st1)
   | none=>False
  | .ret=>match resOf C.P st1 fn.results.toList with
   | some vs=>k (resAV vs) (leave n st1)
   | none=>False
  | .panic _=>False
  | .exit _=>False
end Q6
set_option maxRecDepth 100000
namespace Q6
open Go Go.AE Go.Proofs PE PF
attribute [local irreducible] loopK evCode evSpec loopB norm
theorem g123_in (T:List Int) (t:Int) (K:List AV→Prop):evSpec C7 Tryz.f128 [ii6 T,i6 t] K = (LoopI C6 (bodyOf Tryz.f135) 0 (St.mk (lapp [i64 (T.length:Int),AV.fn 136 [] [.ptr 0 0,.ptr 1 0],.dead,.dead,i64 0,i64 0,i64 (T.length:Int),.dead,i64 (T.length:Int)] (dN 17)) [(0,Ob.mk true 0 (AObj.cells [.imm (.ints IntKind.i64 T)])),(1,Ob.mk true 0 (AObj.cells [i64 t]))] 2 [.imm (.ints IntKind.i64 T),i64 t,.ptr 0 0,.ptr 1 0,i64 0,.imm (.ints IntKind.i64 T),i64 (T.length:Int),AV.fn 136 [] [.ptr 0 0,.ptr 1 0],.dead]) (finI C6 Tryz.f135 9 (cont123 K))):=by kernel_rfl
theorem g130_lp (T:List Int) (t:Int) (i:Int) (j:Int) (k:AX→St→Prop):evCode C6 (loopB (bodyOf Tryz.f135) 0) (k130 T t i j) k = (brn (decide (i < j)) ((0:Int)≤1∧((0:Int)≤IntKind.wrap .i64 (shrV IntKind.u64 (IntKind.wrap IntKind.u64 (IntKind.wrap .i64 (i + j))) (1:Int))∧IntKind.wrap .i64 (shrV IntKind.u64 (IntKind.wrap IntKind.u64 (IntKind.wrap .i64 (i + j))) (1:Int)) < (T.length:Int)∧brn (!decide (List.getD T (IntKind.wrap .i64 (shrV IntKind.u64 (IntKind.wrap IntKind.u64 (IntKind.wrap .i64 (i + j))) (1:Int))).toNat (0:Int) > t)) (k AX.normal (St.mk [.dead,AV.fn 136 [] [.ptr 0 0,.ptr 1 0],.dead,.dead,.dead,i64 (IntKind.wrap .i64 (IntKind.wrap .i64 (shrV IntKind.u64 (IntKind.wrap IntKind.u64 (IntKind.wrap .i64 (i + j))) (1:Int)) + 1)),i64 j,i64 (IntKind.wrap .i64 (shrV IntKind.u64 (IntKind.wrap IntKind.u64 (IntKind.wrap .i64 (i + j))) (1:Int))),.dead,i64 i,i64 j,bo (decide (i < j)),i64 i,i64 j,i64 (IntKind.wrap .i64 (i + j)),.imm (.int IntKind.u64 (IntKind.wrap IntKind.u64 (IntKind.wrap .i64 (i + j)))),.imm (.int IntKind.u64 (shrV IntKind.u64 (IntKind.wrap IntKind.u64 (IntKind.wrap .i64 (i + j))) (1:Int))),i64 (IntKind.wrap
 .i64 (shrV IntKind.u64 (IntKind.wrap IntKind.u64 (IntKind.wrap .i64 (i + j))) (1:Int))),AV.fn 136 [] [.ptr 0 0,.ptr 1 0],i64 (IntKind.wrap .i64 (shrV IntKind.u64 (IntKind.wrap IntKind.u64 (IntKind.wrap .i64 (i + j))) (1:Int))),bo (decide (List.getD T (IntKind.wrap .i64 (shrV IntKind.u64 (IntKind.wrap IntKind.u64 (IntKind.wrap .i64 (i + j))) (1:Int))).toNat (0:Int) > t)),bo (!decide (List.getD T (IntKind.wrap .i64 (shrV IntKind.u64 (IntKind.wrap IntKind.u64 (IntKind.wrap .i64 (i + j))) (1:Int))).toNat (0:Int) > t)),i64 (IntKind.wrap .i64 (shrV IntKind.u64 (IntKind.wrap IntKind.u64 (IntKind.wrap .i64 (i + j))) (1:Int))),i64 (IntKind.wrap .i64 (IntKind.wrap .i64 (shrV IntKind.u64 (IntKind.wrap IntKind.u64 (IntKind.wrap .i64 (i + j))) (1:Int)) + 1)),.dead,.dead] [(0,Ob.mk true 0 (AObj.cells [.imm (.ints IntKind.i64 T)])),(1,Ob.mk true 0 (AObj.cells [i64 t]))] 2 [.imm (.ints IntKind.i64 T),i64 t,.ptr 0 0,.ptr 1 0,i64 0,.imm (.ints IntKind.i64 T),i64 (T.length:Int),AV.fn 136 [] [.ptr 0 0,.ptr 1 0],.dead])) (k AX.normal (St.mk [.dead,AV.fn 136 [] [.ptr 0 0,.ptr 1 0],.dead,.dead,.dead,i64 i,i64 (IntKind.wrap .i64 (shrV IntKind.u64 (IntKind.wrap
 IntKind.u64 (IntKind.wrap .i64 (i + j))) (1:Int))),i64 (IntKind.wrap .i64 (shrV IntKind.u64 (IntKind.wrap IntKind.u64 (IntKind.wrap .i64 (i + j))) (1:Int))),.dead,i64 i,i64 j,bo (decide (i < j)),i64 i,i64 j,i64 (IntKind.wrap .i64 (i + j)),.imm (.int IntKind.u64 (IntKind.wrap IntKind.u64 (IntKind.wrap .i64 (i + j)))),.imm (.int IntKind.u64 (shrV IntKind.u64 (IntKind.wrap IntKind.u64 (IntKind.wrap .i64 (i + j))) (1:Int))),i64 (IntKind.wrap .i64 (shrV IntKind.u64 (IntKind.wrap IntKind.u64 (IntKind.wrap .i64 (i + j))) (1:Int))),AV.fn 136 [] [.ptr 0 0,.ptr 1 0],i64 (IntKind.wrap .i64 (shrV IntKind.u64 (IntKind.wrap IntKind.u64 (IntKind.wrap .i64 (i + j))) (1:Int))),bo (decide (List.getD T (IntKind.wrap .i64 (shrV IntKind.u64 (IntKind.wrap IntKind.u64 (IntKind.wrap .i64 (i + j))) (1:Int))).toNat (0:Int) > t)),bo (!decide (List.getD T (IntKind.wrap .i64 (shrV IntKind.u64 (IntKind.wrap IntKind.u64 (IntKind.wrap .i64 (i + j))) (1:Int))).toNat (0:Int) > t)),.dead,.dead,i64 (IntKind.wrap .i64 (shrV IntKind.u64 (IntKind.wrap IntKind.u64 (IntKind.wrap .i64 (i + j))) (1:Int))),.dead] [(0,Ob.mk true 0 (AObj.cells [.imm (.ints IntKind.i64 T)])),(1,Ob.mk
 true 0 (AObj.cells [i64 t]))] 2 [.imm (.ints IntKind.i64 T),i64 t,.ptr 0 0,.ptr 1 0,i64 0,.imm (.ints IntKind.i64 T),i64 (T.length:Int),AV.fn 136 [] [.ptr 0 0,.ptr 1 0],.dead])))∧(0:Int)≤IntKind.wrap .i64 (shrV IntKind.u64 (IntKind.wrap IntKind.u64 (IntKind.wrap .i64 (i + j))) (1:Int))∧IntKind.wrap .i64 (shrV IntKind.u64 (IntKind.wrap IntKind.u64 (IntKind.wrap .i64 (i + j))) (1:Int)) < (T.length:Int)∧brn (!decide (List.getD T (IntKind.wrap .i64 (shrV IntKind.u64 (IntKind.wrap IntKind.u64 (IntKind.wrap .i64 (i + j))) (1:Int))).toNat (0:Int) > t)) (k AX.normal (St.mk [.dead,AV.fn 136 [] [.ptr 0 0,.ptr 1 0],.dead,.dead,.dead,i64 (IntKind.wrap .i64 (IntKind.wrap .i64 (shrV IntKind.u64 (IntKind.wrap IntKind.u64 (IntKind.wrap .i64 (i + j))) (1:Int)) + 1)),i64 j,i64 (IntKind.wrap .i64 (shrV IntKind.u64 (IntKind.wrap IntKind.u64 (IntKind.wrap .i64 (i + j))) (1:Int))),.dead,i64 i,i64 j,bo (decide (i < j)),i64 i,i64 j,i64 (IntKind.wrap .i64 (i + j)),.imm (.int IntKind.u64 (IntKind.wrap IntKind.u64 (IntKind.wrap .i64 (i + j)))),.imm (.int IntKind.u64 (shrV IntKind.u64 (IntKind.wrap IntKind.u64 (IntKind.wrap .i64 (i + j))) (1:Int))),i64
 (IntKind.wrap .i64 (shrV IntKind.u64 (IntKind.wrap IntKind.u64 (IntKind.wrap .i64 (i + j))) (1:Int))),AV.fn 136 [] [.ptr 0 0,.ptr 1 0],i64 (IntKind.wrap .i64 (shrV IntKind.u64 (IntKind.wrap IntKind.u64 (IntKind.wrap .i64 (i + j))) (1:Int))),bo (decide (List.getD T (IntKind.wrap .i64 (shrV IntKind.u64 (IntKind.wrap IntKind.u64 (IntKind.wrap .i64 (i + j))) (1:Int))).toNat (0:Int) > t)),bo (!decide (List.getD T (IntKind.wrap .i64 (shrV IntKind.u64 (IntKind.wrap IntKind.u64 (IntKind.wrap .i64 (i + j))) (1:Int))).toNat (0:Int) > t)),i64 (IntKind.wrap .i64 (shrV IntKind.u64 (IntKind.wrap IntKind.u64 (IntKind.wrap .i64 (i + j))) (1:Int))),i64 (IntKind.wrap .i64 (IntKind.wrap .i64 (shrV IntKind.u64 (IntKind.wrap IntKind.u64 (IntKind.wrap .i64 (i + j))) (1:Int)) + 1)),.dead,.dead] [(0,Ob.mk true 0 (AObj.cells [.imm (.ints IntKind.i64 T)])),(1,Ob.mk true 0 (AObj.cells [i64 t]))] 2 [.imm (.ints IntKind.i64 T),i64 t,.ptr 0 0,.ptr 1 0,i64 0,.imm (.ints IntKind.i64 T),i64 (T.length:Int),AV.fn 136 [] [.ptr 0 0,.ptr 1 0],.dead])) (k AX.normal (St.mk [.dead,AV.fn 136 [] [.ptr 0 0,.ptr 1 0],.dead,.dead,.dead,i64 i,i64 (IntKind.wrap .i64 (shrV IntKind.u64
 (IntKind.wrap IntKind.u64 (IntKind.wrap .i64 (i + j))) (1:Int))),i64 (IntKind.wrap .i64 (shrV IntKind.u64 (IntKind.wrap IntKind.u64 (IntKind.wrap .i64 (i + j))) (1:Int))),.dead,i64 i,i64 j,bo (decide (i < j)),i64 i,i64 j,i64 (IntKind.wrap .i64 (i + j)),.imm (.int IntKind.u64 (IntKind.wrap IntKind.u64 (IntKind.wrap .i64 (i + j)))),.imm (.int IntKind.u64 (shrV IntKind.u64 (IntKind.wrap IntKind.u64 (IntKind.wrap .i64 (i + j))) (1:Int))),i64 (IntKind.wrap .i64 (shrV IntKind.u64 (IntKind.wrap IntKind.u64 (IntKind.wrap .i64 (i + j))) (1:Int))),AV.fn 136 [] [.ptr 0 0,.ptr 1 0],i64 (IntKind.wrap .i64 (shrV IntKind.u64 (IntKind.wrap IntKind.u64 (IntKind.wrap .i64 (i + j))) (1:Int))),bo (decide (List.getD T (IntKind.wrap .i64 (shrV IntKind.u64 (IntKind.wrap IntKind.u64 (IntKind.wrap .i64 (i + j))) (1:Int))).toNat (0:Int) > t)),bo (!decide (List.getD T (IntKind.wrap .i64 (shrV IntKind.u64 (IntKind.wrap IntKind.u64 (IntKind.wrap .i64 (i + j))) (1:Int))).toNat (0:Int) > t)),.dead,.dead,i64 (IntKind.wrap .i64 (shrV IntKind.u64 (IntKind.wrap IntKind.u64 (IntKind.wrap .i64 (i + j))) (1:Int))),.dead] [(0,Ob.mk true 0 (AObj.cells [.imm (.ints IntKind.i64
 T)])),(1,Ob.mk true 0 (AObj.cells [i64 t]))] 2 [.imm (.ints IntKind.i64 T),i64 t,.ptr 0 0,.ptr 1 0,i64 0,.imm (.ints IntKind.i64 T),i64 (T.length:Int),AV.fn 136 [] [.ptr 0 0,.ptr 1 0],.dead]))) (k (AX.exit 0) (St.mk (lapp [.dead,AV.fn 136 [] [.ptr 0 0,.ptr 1 0],.dead,.dead,.dead,i64 i,i64 j,.dead,.dead,i64 i,i64 j,bo (decide (i < j))] (dN 14)) [(0,Ob.mk true 0 (AObj.cells [.imm (.ints IntKind.i64 T)])),(1,Ob.mk true 0 (AObj.cells [i64 t]))] 2 [.imm (.ints IntKind.i64 T),i64 t,.ptr 0 0,.ptr 1 0,i64 0,.imm (.ints IntKind.i64 T),i64 (T.length:Int),AV.fn 136 [] [.ptr 0 0,.ptr 1 0],.dead]))):=by kernel_rfl
theorem wrapu {n:Int} (h0:0≤n) (h1:n < 18446744073709551616):IntKind.wrap .u64 n = n:=wrapU h0 h1
theorem mid {i j:Int} (h0:0≤i) (h1:i < j) (h2:j≤1000000):IntKind.wrap .i64 (shrV .u64 (IntKind.wrap .u64 (IntKind.wrap .i64 (i + j))) 1) = (i + j) / 2:=by
 have e1:IntKind.wrap .i64 (i + j) = i + j:=wrap64 (by omega) (by omega)
 have e2:IntKind.wrap .u64 (i + j) = i + j:=wrapu (by omega) (by omega)
 have e3:shrV .u64 (i + j) 1 = (i + j) / 2:=by
  unfold shrV
  exact Int.fdiv_eq_ediv_of_nonneg _ (by decide)
 rw [e1,e2,e3]
 exact wrap64 (by omega) (by omega)
theorem aft_is {T:List Int} {t:Int} (ha:asc T):∀ (v:Nat),v≤T.length→(∀ k:Nat,k < v→T.getD k 0≤t)→(v < T.length→¬ T.getD v 0≤t)→aft T t = (v:Int):=by
 clear ha
 unfold aft
 induction T with
 | nil=>intro v hv _ _; simp at hv; simp [hv]
 | cons x T ih =>
  intro v hv hk hn
  cases v with
  | zero =>
   have:=hn (by simp)
   simp only [List.getD_cons_zero] at this
   simp [List.takeWhile_cons,this]
  | succ v =>
   have h0:=hk 0 (by omega)
   simp only [List.getD_cons_zero] at h0
   have:=ih v (by simpa using hv) (fun k hkv=>by have:=hk (k + 1) (by omega); simpa using this) (fun h=>by have:=hn (by simpa using h); simpa using this)
   simp only [List.takeWhile_cons,h0,decide_true,if_true,List.length_cons]
   omega
theorem aft_ex (T:List Int) (t:Int) (hl:(T.length:Int)≤1000000) (ha:asc T):∀ K:List AV→Prop,K [i6 (aft T t)]→evSpec C7 Tryz.f128 [ii6 T,i6 t] K:=by
 refine Exists.elim (loop_det (C:=C6) (c:=loopB (bodyOf Tryz.f135) 0) (fun s:Int×Int=>k130 T t s.1 s.2) (fun s=>0≤s.1∧s.1≤s.2∧s.2≤T.length∧(∀ k:Nat,(k:Int) < s.1→T.getD k 0≤t)∧(∀ k:Nat,s.2≤(k:Int)→k < T.length→¬ T.getD k 0≤t)) (fun s=>(s.2 - s.1).toNat) (fun v:Int=>v = aft T t) (fun v=>[i6 v])
  (fun K=>loopK C6 (bodyOf Tryz.f135) 0 (finI C6 Tryz.f135 9 (cont123 K))) rfl (fun s hs=>?_) ((0:Int),(T.length:Int)) ⟨Int.le_refl 0,by show (0:Int)≤(T.length:Int); omega,Int.le_refl _,fun k hk=>by have hk:(k:Int) < 0:=hk; omega,fun k hk hk2=>by have hk:(T.length:Int)≤(k:Int):=hk; omega⟩) (fun v hv=>?_)
 ·obtain ⟨i,j⟩:=s
  obtain ⟨i1,i2,i3,i4,i5⟩:=hs
  have i1:0≤i:=i1
  have i2:i≤j:=i2
  have i3:j≤T.length:=i3
  have i4:∀ k:Nat,(k:Int) < i→T.getD k 0≤t:=i4
  have i5:∀ k:Nat,j≤(k:Int)→k < T.length→¬ T.getD k 0≤t:=i5
  by_cases h:i < j
  ·have hm:=mid i1 h (by omega)
   obtain ⟨m,hm2⟩:∃ m:Nat,(i + j) / 2 = (m:Int):=⟨((i + j) / 2).toNat,by omega⟩
   rw [hm2] at hm
   have m1:i≤(m:Int):=by omega
   have m2:(m:Int) < j:=by omega
   by_cases hx:T.getD m 0 > t
   ·refine .inl ⟨(i,(m:Int)),q130,_,⟨i1,m1,by show (m:Int)≤T.length; omega,i4,fun k hk hk2=>?_⟩,by show ((m:Int) - i).toNat < (j - i).toNat; omega,?_,fun K' hK'=>by
     show evCode C6 (loopB (bodyOf Tryz.f135) 0) (k130 T t i j) K'
     rw [g130_lp,hm]
     exact brn_T (decide_eq_true h) ⟨by decide,⟨by omega,by omega,brn_Fa (by rw [Int.toNat_natCast,decide_eq_true hx]; rfl) hK'⟩,by omega,by omega,brn_Fa (by rw [Int.toNat_natCast,decide_eq_true hx]; rfl) hK'⟩⟩
    ·have hk:(m:Int)≤(k:Int):=hk
     rcases Nat.lt_or_ge m k with hlt | hge
     ·have:=ha.lt m k hlt hk2
      omega
     ·have:k = m:=by omega
      rw [this]; omega
    ·kernel_rfl
   ·refine .inl ⟨((m:Int) + 1,j),q130,_,⟨by show 0≤(m:Int) + 1; omega,by show (m:Int) + 1≤j; omega,i3,fun k hk=>?_,i5⟩,by show (j - ((m:Int) + 1)).toNat < (j - i).toNat; omega,?_,fun K' hK'=>by
     show evCode C6 (loopB (bodyOf Tryz.f135) 0) (k130 T t i j) K'
     rw [g130_lp,hm]
     exact brn_T (decide_eq_true h) ⟨by decide,⟨by omega,by omega,brn_T (by rw [Int.toNat_natCast,decide_eq_false hx]; rfl) hK'⟩,by omega,by omega,brn_T (by rw [Int.toNat_natCast,decide_eq_false hx]; rfl) hK'⟩⟩
    ·have hk:(k:Int) < (m:Int) + 1:=hk
     rcases Nat.lt_or_ge k m with hlt | hge
     ·have:=ha.lt k m hlt (by omega)
      omega
     ·have:k = m:=by omega
      rw [this]; omega
    ·rw [w1 (by omega) (by omega)]
     kernel_rfl
  ·have hij:i = j:=by omega
   subst hij
   refine .inr ⟨.exit 0,_,by simp,fun K' hK'=>by
    show evCode C6 (loopB (bodyOf Tryz.f135) 0) (k130 T t i i) K'
    rw [g130_lp]
    exact brn_Fa (decide_eq_false h) hK',i,?_,fun K hK=>?_⟩
   ·obtain ⟨n,rfl⟩:∃ n:Nat,i = n:=⟨i.toNat,by omega⟩
    exact (aft_is ha n (by omega) (fun k hk=>i4 k (by omega)) (fun hn=>i5 n (Int.le_refl _) hn)).symm
   ·exact Eq.mp (by kernel_rfl) hK
 ·obtain ⟨rfl,hk⟩:=hv
  intro K hK
  rw [g123_in]
  unfold LoopI
  exact hk K hK q130 _ (by kernel_rfl)
theorem I7_ok:∀ f fn,I7 f = some fn→Tryz.prog.funcs[f]? = some fn∧(fn.name == "runtime.NumGoroutine") = false:=by
 intro f fn h
 unfold I7 at h
 cases h1:Nat.beq f 135 with
 | true=>rw [h1,cond_true] at h; cases h; obtain rfl:=nbeq h1; exact ⟨Tryz.func135,by kernel_rfl⟩
 | false =>
  rw [h1,cond_false] at h
  cases h2:Nat.beq f 136 with
  | true=>rw [h2,cond_true] at h; cases h; obtain rfl:=nbeq h2; exact ⟨Tryz.func136,by kernel_rfl⟩
  | false=>rw [h2,cond_false] at h; cases h
theorem ok123:∀ args pres res,sAft args = some (pres,res)→SpecOK Tryz.prog G6 128 args pres res:=by
 intro args pres res h
 unfold sAft at h
 split at h
 case h_2=>cases h
 cases h
 rename_i T t
 exact spec_ok (C:=C7) okH6 (inl_ok okH6 I7_ok 3) Tryz.func128 (by kernel_rfl) (by kernel_rfl) (fun hp=>aft_ex T t (hp _ (by simp)) (hp (asc T) (by simp)) _ rfl)
theorem okH7:EOK Tryz.prog H7 G6:=addE_ok okH6 ok123
end Q6
namespace Q6
open Go Go.AE Go.Proofs
def inE (T:List Int) (I:List UInt8) (t:Int):Int:=bif aft T t == 0 then 0 else ((I.getD (aft T t - 1).toNat 0).toNat:Int)
structure okV (T:List Int) (I:List UInt8) (X:List (List IV)) (C:List UInt8) (L:List (List IV)) (S U:List Bool):Prop where
 t:(T.length:Int)≤1000000
 a:asc T
 i:I.length = T.length
 x:okT6 X
 c:(C.length:Int)≤1000000
 l:okX L
 s:(S.length:Int)≤1000000
 u:(U.length:Int)≤1000000
def blk6 (T:List Int) (I:List UInt8) (X:List (List IV)) (C:List UInt8) (L:List (List IV)) (S U:List Bool):List AV:=[.imm (.ints .i64 T),.imm (.bytes I),.imm (.sl 3 X),.imm (.bytes C),.imm (.sl 2 L),.imm (.bools S),.imm (.bools U)]
def sInE:List AV→Option (List Prop×List AV)
 | [.agg [.imm (.ints .i64 T),.imm (.bytes I),.imm (.sl 3 X),.imm (.bytes C),.imm (.sl 2 L),.imm (.bools S),.imm (.bools U)],.imm (.int .i64 t)]=>some ([okV T I X C L S U],[i6 (inE T I t)])
 | _=>none
noncomputable def H8:=addE H7 127 sInE
noncomputable def V122:Cx:=⟨Tryz.prog,H7,noCall,G6,4019⟩
noncomputable def I8:FuncId→Option Func:=fun f=>bif Nat.beq f 129 then some Tryz.f129 else none
noncomputable def VW:Cx:=⟨Tryz.prog,H8,inl I8 Tryz.prog H8 G6 6080 2,G6,6080⟩
def zS:AV:=.imm (.val (.slice none 0 0))
def rowO (v:IV):Ob:=⟨true,0,.row v⟩
def clO (l:List AV):Ob:=⟨true,0,.cells l⟩
def zB7:List AV:=[zS,zS,zS,zS,zS,zS,zS]
def k120a (b:List AV) (kk:Int) (Tv:List Int) (Xv:List (List IV)) (C:List UInt8) (Sv Uv:List Bool) (J acc:List UInt8) (n i:Int):St :=
  ⟨spr [(1,.ptr 0 0),(2,.ptr 1 0),(3,.ptr 2 0),(6,.fn 129 [] [.ptr 2 0]),(7,.ptr 3 0),(47,.imm (.bytes J)),(48,i6 n),(49,i6 i)] 0 80,
   [(0,clO b),(1,clO zB7),(2,clO [i6 kk]),(3,clO [.row 4 0,.row 5 0,.row 6 0,.row 7 0,zS,.row 8 0,.row 9 0]),(4,rowO (.ints .i64 Tv)),(5,rowO (.bytes acc)),(6,rowO (.sl 3 Xv)),(7,rowO (.bytes C)),(8,rowO (.bools Sv)),(9,rowO (.bools Uv))],10,[]⟩
def q120i:Plan:=⟨[.obj 3 1 (.bytes [])],msk [1,2,3,6,7,47,48,49] 0 80,[0,1,2,3,4,9,5,6,7,8]⟩
def k120b (Tv:List Int) (Iv:List UInt8) (Xv:List (List IV)) (C:List UInt8) (Sv Uv:List Bool) (L acc:List (List IV)) (n i:Int):St :=
  ⟨spr [(2,.ptr 0 0),(7,.ptr 1 0),(63,sl2 L),(64,i6 n),(65,i6 i)] 0 80,
   [(0,clO zB7),(1,clO [.row 2 0,.row 3 0,.row 4 0,.row 5 0,.row 6 0,.row 7 0,.row 8 0]),(2,rowO (.ints .i64 Tv)),(3,rowO (.bytes Iv)),(4,rowO (.sl 3 Xv)),(5,rowO (.bytes C)),(6,rowO (.sl 2 acc)),(7,rowO (.bools Sv)),(8,rowO (.bools Uv))],9,[]⟩
def q120j:Plan:=⟨[.obj 3 4 (.sl 2 [])],msk [2,7,63,64,65] 0 80,[1,3,4,5,6,7,10,8,9]⟩
end Q6
set_option maxRecDepth 100000
namespace Q6
open Go Go.AE Go.Proofs PE PF
attribute [local irreducible] loopK evCode evSpec loopB norm
def nS:IV:=(IV.val (Value.slice none 0 0))
theorem g122_in (T:List Int) (I:List UInt8) (X:List (List IV)) (C:List UInt8) (L:List (List IV)) (S:List Bool) (U:List Bool) (t:Int) (K:List AV→Prop):evSpec V122 Tryz.f127 [.agg (blk6 T I X C L S U),i6 t] K = ((T.length:Int)≤1000000∧asc T∧brn (aft T t == 0) (K [i64 0]) ((0:Int)≤IntKind.wrap .i64 (aft T t - 1)∧IntKind.wrap .i64 (aft T t - 1) < (I.length:Int)∧K [i64 (IntKind.wrap .i64 (↑(UInt8.toNat (List.getD I (IntKind.wrap .i64 (aft T t - 1)).toNat (0:UInt8))):Int))])):=by kernel_rfl
theorem g120_in (T:List Int) (I:List UInt8) (X:List (List IV)) (C:List UInt8) (L:List (List IV)) (S:List Bool) (U:List Bool) (K:List AV→Prop):evSpec VW Tryz.f125 [.agg (blk6 T I X C L S U)] K = (let E1:Prop:=((sm (St.mk (lapp [.agg (blk6 T I X C L S U),.ptr 0 0,.ptr 1 0,.ptr 2 0,i64 (aft T (-2147483649:Int)),i64 (aft T (2147483647:Int))] (lapp (dN 6) (lapp [.agg (blk6 T I X C L S U),i64 (inE T I (-2147483649:Int)),.ptr 0 0,.imm (.ints IntKind.i64 T),i64 (aft T (-2147483649:Int)),.ptr 0 0,.imm (.ints IntKind.i64 T),i64 (aft T (2147483647:Int))] (dN 60)))) [(0,Ob.mk true 0 (AObj.cells (blk6 T I X C L S U))),(1,Ob.mk true 0 (AObj.cells [.imm nS,.imm nS,.imm nS,.imm nS,.imm nS,.imm nS,.imm nS])),(2,Ob.mk true 0 (AObj.cells [i64 (inE T I (-2147483649:Int))]))] 3 []))); let E2:Prop:=((sm (St.mk (lapp [.agg (blk6 T I X C L S U),.ptr 0 0,.ptr 1 0,.ptr 2 0,i64 (aft T (-2147483649:Int)),i64 (aft T (2147483647:Int)),AV.fn 129 [] [.ptr 2 0],.ptr 3 0] (lapp (dN 4) (lapp [.agg (blk6 T I X C L S U),i64 (inE T I (-2147483649:Int)),.ptr 0 0,.imm (.ints IntKind.i64 T),i64 (aft T (-2147483649:Int)),.ptr 0 0,.imm (.ints
 IntKind.i64 T),i64 (aft T (2147483647:Int)),AV.fn 129 [] [.ptr 2 0],.ptr 0 0,.imm (.ints IntKind.i64 T),i64 (aft T (-2147483649:Int)),i64 (aft T (2147483647:Int)),.imm (.ints IntKind.i64 (List.take ((aft T (2147483647:Int)).toNat - (aft T (-2147483649:Int)).toNat) (List.drop (aft T (-2147483649:Int)).toNat T))),AV.row 4 0,.ptr 0 2,.imm (.sl 3 X),i64 (inE T I (-2147483649:Int)),AV.row 5 0,.ptr 0 3,by' C,AV.row 6 0,.ptr 0 5,.imm (.bools S),i64 (inE T I (-2147483649:Int)),AV.row 7 0,.ptr 0 6,.imm (.bools U),i64 (inE T I (-2147483649:Int)),AV.row 8 0,.agg [AV.row 4 0,.imm nS,AV.row 5 0,AV.row 6 0,.imm nS,AV.row 7 0,AV.row 8 0]] (dN 37)))) [(0,Ob.mk true 0 (AObj.cells (blk6 T I X C L S U))),(1,Ob.mk true 0 (AObj.cells [.imm nS,.imm nS,.imm nS,.imm nS,.imm nS,.imm nS,.imm nS])),(2,Ob.mk true 0 (AObj.cells [i64 (inE T I (-2147483649:Int))])),(3,Ob.mk true 0 (AObj.cells [AV.row 4 0,.imm nS,AV.row 5 0,AV.row 6 0,.imm nS,AV.row 7 0,AV.row 8 0])),(4,Ob.mk true 0 (AObj.row (IV.ints IntKind.i64 (List.take ((aft T (2147483647:Int)).toNat - (aft T (-2147483649:Int)).toNat) (List.drop (aft T (-2147483649:Int)).toNat
 T))))),(5,Ob.mk true 0 (AObj.row (IV.sl 3 (sw X [] (inE T I (-2147483649:Int)))))),(6,Ob.mk true 0 (AObj.row (IV.bytes C))),(7,Ob.mk true 0 (AObj.row (IV.bools (sw S false (inE T I (-2147483649:Int)))))),(8,Ob.mk true 0 (AObj.row (IV.bools (sw U false (inE T I (-2147483649:Int))))))] 9 []))); okV T I X C L S U∧((T.length:Int)≤1000000∧asc T∧(T.length:Int)≤1000000∧asc T∧E1)∧(((0:Int)≤aft T (-2147483649:Int)∧aft T (-2147483649:Int)≤aft T (2147483647:Int)∧aft T (2147483647:Int)≤(T.length:Int)∧((↑(List.take ((aft T (2147483647:Int)).toNat - (aft T (-2147483649:Int)).toNat) (List.drop (aft T (-2147483649:Int)).toNat T)).length:Int)≤1000000∧(okT6 X∧(0:Int)≤inE T I (-2147483649:Int)∧((C.length:Int)≤1000000∧((S.length:Int)≤1000000∧(0:Int)≤inE T I (-2147483649:Int)∧((U.length:Int)≤1000000∧(0:Int)≤inE T I (-2147483649:Int)∧E2∧E2)∧(U.length:Int)≤1000000∧(0:Int)≤inE T I (-2147483649:Int)∧E2)∧(S.length:Int)≤1000000∧(0:Int)≤inE T I (-2147483649:Int)∧(U.length:Int)≤1000000∧(0:Int)≤inE T I (-2147483649:Int)∧E2)∧(C.length:Int)≤1000000
 ∧ (S.length:Int)≤1000000∧(0:Int)≤inE T I (-2147483649:Int)∧(U.length:Int)≤1000000∧(0:Int)≤inE T I (-2147483649:Int)∧E2)∧okT6 X∧(0:Int)≤inE T I (-2147483649:Int)∧(C.length:Int)≤1000000∧(S.length:Int)≤1000000∧(0:Int)≤inE T I (-2147483649:Int)∧(U.length:Int)≤1000000∧(0:Int)≤inE T I (-2147483649:Int)∧E2)∧(↑(List.take ((aft T (2147483647:Int)).toNat - (aft T (-2147483649:Int)).toNat) (List.drop (aft T (-2147483649:Int)).toNat T)).length:Int)≤1000000∧okT6 X∧(0:Int)≤inE T I (-2147483649:Int)∧(C.length:Int)≤1000000∧(S.length:Int)≤1000000∧(0:Int)≤inE T I (-2147483649:Int)∧(U.length:Int)≤1000000∧(0:Int)≤inE T I (-2147483649:Int)∧E2)∧(0:Int)≤aft T (-2147483649:Int)∧aft T (-2147483649:Int)≤aft T (2147483647:Int)∧aft T (2147483647:Int)≤(T.length:Int)∧(↑(List.take ((aft T (2147483647:Int)).toNat - (aft T (-2147483649:Int)).toNat) (List.drop (aft T (-2147483649:Int)).toNat T)).length:Int)≤1000000∧okT6 X∧(0:Int)≤inE T I (-2147483649:Int)∧(C.length:Int)≤1000000∧(S.length:Int)≤1000000∧(0:Int)≤inE T I
 (-2147483649:Int)∧(U.length:Int)≤1000000∧(0:Int)≤inE T I (-2147483649:Int)∧E2)∧(0:Int)≤aft T (-2147483649:Int)∧aft T (-2147483649:Int)≤aft T (2147483647:Int)∧aft T (2147483647:Int)≤(I.length:Int)∧LoopI VW (bodyOf Tryz.f125) 0 (St.mk (lapp [.agg (blk6 T I X C L S U),.ptr 0 0,.ptr 1 0,.ptr 2 0,i64 (aft T (-2147483649:Int)),i64 (aft T (2147483647:Int)),AV.fn 129 [] [.ptr 2 0],.ptr 3 0] (lapp (dN 4) (lapp [.agg (blk6 T I X C L S U),i64 (inE T I (-2147483649:Int)),.ptr 0 0,.imm (.ints IntKind.i64 T),i64 (aft T (-2147483649:Int)),.ptr 0 0,.imm (.ints IntKind.i64 T),i64 (aft T (2147483647:Int)),AV.fn 129 [] [.ptr 2 0],.ptr 0 0,.imm (.ints IntKind.i64 T),i64 (aft T (-2147483649:Int)),i64 (aft T (2147483647:Int)),.imm (.ints IntKind.i64 (List.take ((aft T (2147483647:Int)).toNat - (aft T (-2147483649:Int)).toNat) (List.drop (aft T (-2147483649:Int)).toNat T))),AV.row 4 0,.ptr 0 2,.imm (.sl 3 X),i64 (inE T I (-2147483649:Int)),AV.row 5 0,.ptr 0 3,by' C,AV.row 6 0,.ptr 0 5,.imm (.bools S),i64 (inE T I (-2147483649:Int)),AV.row 7 0,.ptr 0 6,.imm (.bools U),i64 (inE T I (-2147483649:Int)),
 AV.row 8 0,.agg [AV.row 4 0,.imm nS,AV.row 5 0,AV.row 6 0,.imm nS,AV.row 7 0,AV.row 8 0],.ptr 0 1,by' I,i64 (aft T (-2147483649:Int)),i64 (aft T (2147483647:Int)),by' (List.take ((aft T (2147483647:Int)).toNat - (aft T (-2147483649:Int)).toNat) (List.drop (aft T (-2147483649:Int)).toNat I)),i64 (↑(List.take ((aft T (2147483647:Int)).toNat - (aft T (-2147483649:Int)).toNat) (List.drop (aft T (-2147483649:Int)).toNat I)).length:Int),i64 0] (dN 30)))) [(0,Ob.mk true 0 (AObj.cells (blk6 T I X C L S U))),(1,Ob.mk true 0 (AObj.cells [.imm nS,.imm nS,.imm nS,.imm nS,.imm nS,.imm nS,.imm nS])),(2,Ob.mk true 0 (AObj.cells [i64 (inE T I (-2147483649:Int))])),(3,Ob.mk true 0 (AObj.cells [AV.row 4 0,.imm nS,AV.row 5 0,AV.row 6 0,.imm nS,AV.row 7 0,AV.row 8 0])),(4,Ob.mk true 0 (AObj.row (IV.ints IntKind.i64 (List.take ((aft T (2147483647:Int)).toNat - (aft T (-2147483649:Int)).toNat) (List.drop (aft T (-2147483649:Int)).toNat T))))),(5,Ob.mk true 0 (AObj.row (IV.sl 3 (sw X [] (inE T I (-2147483649:Int)))))),(6,Ob.mk true 0 (AObj.row (IV.bytes C))),(7,Ob.mk true 0 (AObj.row (IV.bools (sw S false (inE T I (-2147483649 :
 Int)))))),(8,Ob.mk true 0 (AObj.row (IV.bools (sw U false (inE T I (-2147483649:Int))))))] 9 []) (finK VW Tryz.f125 K)):=by kernel_rfl
theorem g120_lp (T:List Int) (I:List UInt8) (X:List (List IV)) (C:List UInt8) (L:List (List IV)) (S:List Bool) (U:List Bool) (kk:Int) (Tv:List Int) (Xv:List (List IV)) (Cv:List UInt8) (Sv:List Bool) (Uv:List Bool) (J:List UInt8) (acc:List UInt8) (n:Int) (i:Int) (k:AX→St→Prop) (jj:Int) (hjj:jj = (↑(UInt8.toNat (List.getD J i.toNat (0:UInt8))):Int)):evCode VW (loopB (bodyOf Tryz.f125) 0) (k120a (blk6 T I X C L S U) kk Tv Xv Cv Sv Uv J acc n i) k = (let A1:Prop:=((k AX.normal (St.mk (lapp [.dead,.ptr 0 0,.ptr 1 0,.ptr 2 0,.dead,.dead,AV.fn 129 [] [.ptr 2 0],.ptr 3 0,.dead,.imm (.int .u8 jj)] (lapp (dN 37) (lapp [by' J,i64 n,i64 (IntKind.wrap .i64 (i + 1)),bo (decide (i < n)),AV.elv [IV.int .u8 jj],.imm (.int .u8 jj),.ptr 3 1,.dead,AV.fn 129 [] [.ptr 2 0],.imm (.int .u8 jj),.imm (.int .u8 (IntKind.wrap IntKind.u8 kk)),.full (IV.bytes (List.map u8 [IntKind.wrap IntKind.u8 kk])),AV.row 4 0,.ptr 3 1,i64 (IntKind.wrap .i64 (i + 1))] (dN 18)))) [(0,Ob.mk true 0 (AObj.cells (blk6 T I X C L S U))),(1,Ob.mk true 0 (AObj.cells [.imm nS,.imm nS,.imm nS,.imm nS,.imm nS,.imm nS,.imm nS])),(2,Ob.mk true 0
 (AObj.cells [i64 kk])),(3,Ob.mk true 0 (AObj.cells [AV.row 5 0,AV.row 4 0,AV.row 6 0,AV.row 7 0,.imm nS,AV.row 8 0,AV.row 9 0])),(4,Ob.mk true 0 (AObj.row (IV.bytes (acc ++ List.map u8 [IntKind.wrap IntKind.u8 kk])))),(5,Ob.mk true 0 (AObj.row (IV.ints IntKind.i64 Tv))),(6,Ob.mk true 0 (AObj.row (IV.sl 3 Xv))),(7,Ob.mk true 0 (AObj.row (IV.bytes Cv))),(8,Ob.mk true 0 (AObj.row (IV.bools Sv))),(9,Ob.mk true 0 (AObj.row (IV.bools Uv)))] 10 []))); let A8:Prop:=((k AX.normal (St.mk (lapp [.dead,.ptr 0 0,.ptr 1 0,.ptr 2 0,.dead,.dead,AV.fn 129 [] [.ptr 2 0],.ptr 3 0,.dead,.imm (.int .u8 jj)] (lapp (dN 37) (lapp [by' J,i64 n,i64 (IntKind.wrap .i64 (i + 1)),bo (decide (i < n)),AV.elv [IV.int .u8 jj],.imm (.int .u8 jj),.ptr 3 1,.dead,AV.fn 129 [] [.ptr 2 0],.imm (.int .u8 jj),.imm (.int .u8 0),.full (IV.bytes (List.map u8 [(0:Int)])),AV.row 4 0,.ptr 3 1,i64 (IntKind.wrap .i64 (i + 1))] (dN 18)))) [(0,Ob.mk true 0 (AObj.cells (blk6 T I X C L S U))),(1,Ob.mk true 0 (AObj.cells [.imm nS,.imm nS,.imm nS,.imm nS,.imm nS,.imm nS,.imm nS])),(2,Ob.mk true 0 (AObj.cells [i64 kk])),(3,Ob.mk true 0 (AObj.cells [AV.row 5 0,AV.row 4 0,
 AV.row 6 0,AV.row 7 0,.imm nS,AV.row 8 0,AV.row 9 0])),(4,Ob.mk true 0 (AObj.row (IV.bytes (acc ++ List.map u8 [(0:Int)])))),(5,Ob.mk true 0 (AObj.row (IV.ints IntKind.i64 Tv))),(6,Ob.mk true 0 (AObj.row (IV.sl 3 Xv))),(7,Ob.mk true 0 (AObj.row (IV.bytes Cv))),(8,Ob.mk true 0 (AObj.row (IV.bools Sv))),(9,Ob.mk true 0 (AObj.row (IV.bools Uv)))] 10 []))); let A15:Prop:=((k AX.normal (St.mk (lapp [.dead,.ptr 0 0,.ptr 1 0,.ptr 2 0,.dead,.dead,AV.fn 129 [] [.ptr 2 0],.ptr 3 0,.dead,.imm (.int .u8 jj)] (lapp (dN 37) (lapp [by' J,i64 n,i64 (IntKind.wrap .i64 (i + 1)),bo (decide (i < n)),AV.elv [IV.int .u8 jj],.imm (.int .u8 jj),.ptr 3 1,.dead,AV.fn 129 [] [.ptr 2 0],.imm (.int .u8 jj),.imm (.int .u8 jj),.full (IV.bytes (List.map u8 [jj])),AV.row 4 0,.ptr 3 1,i64 (IntKind.wrap .i64 (i + 1))] (dN 18)))) [(0,Ob.mk true 0 (AObj.cells (blk6 T I X C L S U))),(1,Ob.mk true 0 (AObj.cells [.imm nS,.imm nS,.imm nS,.imm nS,.imm nS,.imm nS,.imm nS])),(2,Ob.mk true 0 (AObj.cells [i64 kk])),(3,Ob.mk true 0 (AObj.cells [AV.row 5 0,AV.row 4 0,AV.row 6 0,AV.row 7 0,.imm nS,AV.row 8 0,AV.row 9 0])),(4,Ob.mk true 0 (AObj.row (IV.bytes (acc ++
 List.map u8 [jj])))),(5,Ob.mk true 0 (AObj.row (IV.ints IntKind.i64 Tv))),(6,Ob.mk true 0 (AObj.row (IV.sl 3 Xv))),(7,Ob.mk true 0 (AObj.row (IV.bytes Cv))),(8,Ob.mk true 0 (AObj.row (IV.bools Sv))),(9,Ob.mk true 0 (AObj.row (IV.bools Uv)))] 10 []))); let A30:Prop:=(((List.length acc + (List.map u8 [IntKind.wrap IntKind.u8 kk]).length) * 1≤140737488355328∧List.length acc + (List.map u8 [IntKind.wrap IntKind.u8 kk]).length≤140737488355328∧A1)); let A38:Prop:=(((List.length acc + (List.map u8 [(0:Int)]).length) * 1≤140737488355328∧List.length acc + (List.map u8 [(0:Int)]).length≤140737488355328∧A8)); let A46:Prop:=(((List.length acc + (List.map u8 [jj]).length) * 1≤140737488355328∧List.length acc + (List.map u8 [jj]).length≤140737488355328∧A15)); brn (decide (i < n)) ((0:Int)≤i∧i < (J.length:Int)∧brn (IntKind.wrap .i64 jj == 0) ((List.length acc + (List.map u8 [IntKind.wrap IntKind.u8 kk]).length) * 1≤140737488355328∧List.length acc + (List.map u8 [IntKind.wrap IntKind.u8 kk]).length≤140737488355328∧A1) (brn (IntKind.wrap .i64 jj == kk) ((List.length acc + (List.map u8 [(0:Int)]).length) * 1≤140737488355328 ∧
 List.length acc + (List.map u8 [(0:Int)]).length≤140737488355328∧A8) ((List.length acc + (List.map u8 [jj]).length) * 1≤140737488355328∧List.length acc + (List.map u8 [jj]).length≤140737488355328∧A15))∧brn (IntKind.wrap .i64 jj == 0) (A30∧A30) (brn (IntKind.wrap .i64 jj == kk) (A38∧A38) (A46∧A46))) (k (AX.exit 0) (St.mk (lapp [.dead,.ptr 0 0,.ptr 1 0,.ptr 2 0,.dead,.dead,AV.fn 129 [] [.ptr 2 0],.ptr 3 0] (lapp (dN 39) (lapp [by' J,i64 n,i64 i,bo (decide (i < n))] (dN 29)))) [(0,Ob.mk true 0 (AObj.cells (blk6 T I X C L S U))),(1,Ob.mk true 0 (AObj.cells [.imm nS,.imm nS,.imm nS,.imm nS,.imm nS,.imm nS,.imm nS])),(2,Ob.mk true 0 (AObj.cells [i64 kk])),(3,Ob.mk true 0 (AObj.cells [AV.row 4 0,AV.row 5 0,AV.row 6 0,AV.row 7 0,.imm nS,AV.row 8 0,AV.row 9 0])),(4,Ob.mk true 0 (AObj.row (IV.ints IntKind.i64 Tv))),(5,Ob.mk true 0 (AObj.row (IV.bytes acc))),(6,Ob.mk true 0 (AObj.row (IV.sl 3 Xv))),(7,Ob.mk true 0 (AObj.row (IV.bytes Cv))),(8,Ob.mk true 0 (AObj.row (IV.bools Sv))),(9,Ob.mk true 0 (AObj.row (IV.bools Uv)))] 10 []))):=by subst hjj; kernel_rfl
theorem g120_lp2 (Tv:List Int) (Iv:List UInt8) (Xv:List (List IV)) (C:List UInt8) (Sv:List Bool) (Uv:List Bool) (L:List (List IV)) (acc:List (List IV)) (n:Int) (i:Int) (k:AX→St→Prop):evCode VW (loopB (bodyOf Tryz.f125) 1) (k120b Tv Iv Xv C Sv Uv L acc n i) k = (brn (decide (i < n)) ((0:Int)≤i∧i < (L.length:Int)∧kcells (List.getD L i.toNat []) 0 (lapp [CK.int IntKind.i64] (lapp [CK.int IntKind.i32] [])) = List.getD L i.toNat []∧brn (decide (ivInt (ivNth (List.getD L i.toNat []) 0) < 2147483648)) ((List.length acc + List.length [[IV.int .i64 (ivInt (ivNth (List.getD L i.toNat []) 0)),IV.int IntKind.i32 (ivInt (ivNth (List.getD L i.toNat []) (0 + 1)))]]) * 16≤140737488355328∧List.length acc + List.length [[IV.int .i64 (ivInt (ivNth (List.getD L i.toNat []) 0)),IV.int IntKind.i32 (ivInt (ivNth (List.getD L i.toNat []) (0 + 1)))]]≤140737488355328∧k AX.normal (St.mk (lapp [.dead,.dead,.ptr 0 0] (lapp (dN 4) (lapp [.ptr 1 0,.dead,.dead,.dead,.ptr 2 0] (lapp (dN 51) [.imm (.sl 2 L),i64 n,i64 (IntKind.wrap .i64 (i + 1)),bo (decide (i < n)),AV.elv [IV.int .i64 (ivInt (ivNth (List.getD L i.toNat []) 0)),IV.int IntKind.i32 (ivInt
 (ivNth (List.getD L i.toNat []) (0 + 1)))],.agg [i64 (ivInt (ivNth (List.getD L i.toNat []) 0)),.imm (.int IntKind.i32 (ivInt (ivNth (List.getD L i.toNat []) (0 + 1))))],.ptr 2 0,i64 (ivInt (ivNth (List.getD L i.toNat []) 0)),bo (decide (ivInt (ivNth (List.getD L i.toNat []) 0) < 2147483648)),.ptr 1 4,.dead,.agg [i64 (ivInt (ivNth (List.getD L i.toNat []) 0)),.imm (.int IntKind.i32 (ivInt (ivNth (List.getD L i.toNat []) (0 + 1))))],.full (IV.sl 2 [[IV.int .i64 (ivInt (ivNth (List.getD L i.toNat []) 0)),IV.int IntKind.i32 (ivInt (ivNth (List.getD L i.toNat []) (0 + 1)))]]),AV.row 3 0,.ptr 1 4,i64 (IntKind.wrap .i64 (i + 1)),.dead])))) [(0,Ob.mk true 0 (AObj.cells [.imm nS,.imm nS,.imm nS,.imm nS,.imm nS,.imm nS,.imm nS])),(1,Ob.mk true 0 (AObj.cells [AV.row 4 0,AV.row 5 0,AV.row 6 0,AV.row 7 0,AV.row 3 0,AV.row 8 0,AV.row 9 0])),(2,Ob.mk true 0 (AObj.cells [i64 (ivInt (ivNth (List.getD L i.toNat []) 0)),.imm (.int IntKind.i32 (ivInt (ivNth (List.getD L i.toNat []) (0 + 1))))])),(3,Ob.mk true 0 (AObj.row (IV.sl 2 (acc ++ [[IV.int .i64 (ivInt (ivNth (List.getD L i.toNat []) 0)),IV.int IntKind.i32 (ivInt (ivNth (List.getD L i.toNat []) (0 +
 1)))]])))),(4,Ob.mk true 0 (AObj.row (IV.ints IntKind.i64 Tv))),(5,Ob.mk true 0 (AObj.row (IV.bytes Iv))),(6,Ob.mk true 0 (AObj.row (IV.sl 3 Xv))),(7,Ob.mk true 0 (AObj.row (IV.bytes C))),(8,Ob.mk true 0 (AObj.row (IV.bools Sv))),(9,Ob.mk true 0 (AObj.row (IV.bools Uv)))] 10 [])) (k AX.normal (St.mk (lapp [.dead,.dead,.ptr 0 0] (lapp (dN 4) (lapp [.ptr 1 0,.dead,.dead,.dead,.ptr 2 0] (lapp (dN 51) (lapp [.imm (.sl 2 L),i64 n,i64 (IntKind.wrap .i64 (i + 1)),bo (decide (i < n)),AV.elv [IV.int .i64 (ivInt (ivNth (List.getD L i.toNat []) 0)),IV.int IntKind.i32 (ivInt (ivNth (List.getD L i.toNat []) (0 + 1)))],.agg [i64 (ivInt (ivNth (List.getD L i.toNat []) 0)),.imm (.int IntKind.i32 (ivInt (ivNth (List.getD L i.toNat []) (0 + 1))))],.ptr 2 0,i64 (ivInt (ivNth (List.getD L i.toNat []) 0)),bo (decide (ivInt (ivNth (List.getD L i.toNat []) 0) < 2147483648))] (lapp (dN 6) [i64 (IntKind.wrap .i64 (i + 1)),.dead])))))) [(0,Ob.mk true 0 (AObj.cells [.imm nS,.imm nS,.imm nS,.imm nS,.imm nS,.imm nS,.imm nS])),(1,Ob.mk true 0 (AObj.cells [AV.row 3 0,AV.row 4 0,AV.row 5 0,AV.row 6 0,AV.row 7 0,AV.row 8 0,AV.row 9 0])),(2,Ob.mk true 0 (AObj.cells [i64
 (ivInt (ivNth (List.getD L i.toNat []) 0)),.imm (.int IntKind.i32 (ivInt (ivNth (List.getD L i.toNat []) (0 + 1))))])),(3,Ob.mk true 0 (AObj.row (IV.ints IntKind.i64 Tv))),(4,Ob.mk true 0 (AObj.row (IV.bytes Iv))),(5,Ob.mk true 0 (AObj.row (IV.sl 3 Xv))),(6,Ob.mk true 0 (AObj.row (IV.bytes C))),(7,Ob.mk true 0 (AObj.row (IV.sl 2 acc))),(8,Ob.mk true 0 (AObj.row (IV.bools Sv))),(9,Ob.mk true 0 (AObj.row (IV.bools Uv)))] 10 []))) (k (AX.exit 2) (St.mk (lapp [.dead,.dead,.ptr 0 0] (lapp (dN 4) (lapp [.ptr 1 0] (lapp (dN 55) (lapp [.imm (.sl 2 L),i64 n,i64 i,bo (decide (i < n))] (dN 13)))))) [(0,Ob.mk true 0 (AObj.cells [.imm nS,.imm nS,.imm nS,.imm nS,.imm nS,.imm nS,.imm nS])),(1,Ob.mk true 0 (AObj.cells [AV.row 2 0,AV.row 3 0,AV.row 4 0,AV.row 5 0,AV.row 6 0,AV.row 7 0,AV.row 8 0])),(2,Ob.mk true 0 (AObj.row (IV.ints IntKind.i64 Tv))),(3,Ob.mk true 0 (AObj.row (IV.bytes Iv))),(4,Ob.mk true 0 (AObj.row (IV.sl 3 Xv))),(5,Ob.mk true 0 (AObj.row (IV.bytes C))),(6,Ob.mk true 0 (AObj.row (IV.sl 2 acc))),(7,Ob.mk true 0 (AObj.row (IV.bools Sv))),(8,Ob.mk true 0 (AObj.row (IV.bools Uv)))] 9 []))):=by kernel_rfl
theorem g120_out (T:List Int) (I:List UInt8) (X:List (List IV)) (C:List UInt8) (L:List (List IV)) (S:List Bool) (U:List Bool) (kk:Int) (Tv:List Int) (Xv:List (List IV)) (Cv:List UInt8) (Sv:List Bool) (Uv:List Bool) (J:List UInt8) (acc:List UInt8) (n:Int) (i:Int) (K:List AV→Prop):loopK VW (bodyOf Tryz.f125) 0 (finK VW Tryz.f125 K) (AX.exit 0) (St.mk (let y:=let y:=let y:=let y:=(dN 5); AV.dead :: AV.dead :: AV.dead :: AV.dead :: AV.dead :: y; let y:=AV.dead :: AV.dead :: AV.dead :: AV.dead :: AV.dead :: y; AV.dead :: AV.dead :: AV.dead :: AV.dead :: AV.dead :: y; let y:=let y:=AV.dead :: AV.dead :: AV.dead :: AV.dead :: AV.dead :: y; bo (decide (i < n)) :: AV.dead :: AV.dead :: AV.dead :: AV.dead :: y; let y:=AV.dead :: AV.dead :: by' J :: i64 n :: i64 i :: y; AV.dead :: AV.dead :: AV.dead :: AV.dead :: AV.dead :: y; let y:=let y:=let y:=AV.dead :: AV.dead :: AV.dead :: AV.dead :: AV.dead :: y; AV.dead :: AV.dead :: AV.dead :: AV.dead :: AV.dead :: y; let y:=AV.dead :: AV.dead :: AV.dead :: AV.dead :: AV.dead :: y; AV.dead :: AV.dead :: AV.dead :: AV.dead :: AV.dead :: y; let y:=let y:=AV.dead :: AV.dead :: AV.dead :: AV.dead :: AV.dead :: y; AV.dead :: AV.dead :: AV.dead :: AV.dead :: AV.dead :: y; let y:=AV.dead :: AV.fn 129 [] [.ptr 2 0] :: AV.ptr 3 0 :: AV.dead :: AV.dead :: y; AV.dead :: AV.ptr 0 0 :: AV.ptr 1 0 :: AV.ptr 2 0 :: AV.dead :: y) [(0,Ob.mk true 0 (AObj.cells (blk6 T I X C L S U))),(1,Ob.mk true 0 (AObj.cells [.imm nS,.imm nS,.imm nS,.imm nS,.imm nS,.imm nS,.imm nS])),(2,Ob.mk true 0 (AObj.cells [i64 kk])),(3,Ob.mk true 0 (AObj.cells [AV.row 4 0,AV.row 5 0,AV.row 6 0,AV.row 7 0,.imm nS,AV.row 8 0,AV.row 9 0])),(4,Ob.mk true 0 (AObj.row (IV.ints IntKind.i64 Tv))),(5,Ob.mk true 0 (AObj.row (IV.bytes acc))),(6,Ob.mk true 0 (AObj.row (IV.sl 3 Xv))),(7,Ob.mk true 0 (AObj.row (IV.bytes Cv))),(8,Ob.mk true 0 (AObj.row (IV.bools Sv))),(9,Ob.mk true 0 (AObj.row (IV.bools Uv)))] 10 []) = (LoopI VW (bodyOf Tryz.f125) 1 (St.mk (lapp [.dead,.ptr 0 0,.ptr 1 0,.ptr 2 0,.dead,.dead,AV.fn 129 [] [.ptr 2 0],.ptr 3 0] (lapp (dN 39) (lapp [by' J,i64 n,i64 i,bo (decide (i < n))] (lapp (dN 11) (lapp [.ptr 0 4,.imm (.sl 2 L),i64 (L.length:Int),i64 0] (dN 14)))))) [(0,Ob.mk true 0 (AObj.cells (blk6 T I X C L S U))),(1,Ob.mk true 0 (AObj.cells [.imm nS,.imm nS,.imm nS,.imm nS,.imm nS,.imm nS,.imm nS])),(2,Ob.mk true 0 (AObj.cells [i64 kk])),(3,Ob.mk true 0 (AObj.cells [AV.row 4 0,AV.row 5 0,AV.row 6 0,AV.row 7 0,.imm nS,AV.row 8 0,AV.row 9 0])),(4,Ob.mk true 0 (AObj.row (IV.ints IntKind.i64 Tv))),(5,Ob.mk true 0 (AObj.row (IV.bytes acc))),(6,Ob.mk true 0 (AObj.row (IV.sl 3 Xv))),(7,Ob.mk true 0 (AObj.row (IV.bytes Cv))),(8,Ob.mk true 0 (AObj.row (IV.bools Sv))),(9,Ob.mk true 0 (AObj.row (IV.bools Uv)))] 10 []) (finK VW Tryz.f125 K)):=by kernel_rfl
theorem g120_out2 (Tv:List Int) (Iv:List UInt8) (Xv:List (List IV)) (C:List UInt8) (Sv:List Bool) (Uv:List Bool) (L:List (List IV)) (acc:List (List IV)) (n:Int) (i:Int) (K:List AV→Prop):loopK VW (bodyOf Tryz.f125) 1 (finK VW Tryz.f125 K) (AX.exit 2) (St.mk (let y:=let y:=let y:=let y:=(dN 5); AV.dead :: AV.dead :: AV.dead :: AV.dead :: AV.dead :: y; let y:=i64 i :: bo (decide (i < n)) :: AV.dead :: AV.dead :: AV.dead :: y; AV.dead :: AV.dead :: AV.dead :: AV.imm (.sl 2 L) :: i64 n :: y; let y:=let y:=AV.dead :: AV.dead :: AV.dead :: AV.dead :: AV.dead :: y; AV.dead :: AV.dead :: AV.dead :: AV.dead :: AV.dead :: y; let y:=AV.dead :: AV.dead :: AV.dead :: AV.dead :: AV.dead :: y; AV.dead :: AV.dead :: AV.dead :: AV.dead :: AV.dead :: y; let y:=let y:=let y:=AV.dead :: AV.dead :: AV.dead :: AV.dead :: AV.dead :: y; AV.dead :: AV.dead :: AV.dead :: AV.dead :: AV.dead :: y; let y:=AV.dead :: AV.dead :: AV.dead :: AV.dead :: AV.dead :: y; AV.dead :: AV.dead :: AV.dead :: AV.dead :: AV.dead :: y; let y:=let y:=AV.dead :: AV.dead :: AV.dead :: AV.dead :: AV.dead :: y; AV.dead :: AV.dead :: AV.dead :: AV.dead :: AV.dead :: y; let y:=AV.dead :: AV.dead :: AV.ptr 1 0 :: AV.dead :: AV.dead :: y; AV.dead :: AV.dead :: AV.ptr 0 0 :: AV.dead :: AV.dead :: y) [(0,Ob.mk true 0 (AObj.cells [.imm nS,.imm nS,.imm nS,.imm nS,.imm nS,.imm nS,.imm nS])),(1,Ob.mk true 0 (AObj.cells [AV.row 2 0,AV.row 3 0,AV.row 4 0,AV.row 5 0,AV.row 6 0,AV.row 7 0,AV.row 8 0])),(2,Ob.mk true 0 (AObj.row (IV.ints IntKind.i64 Tv))),(3,Ob.mk true 0 (AObj.row (IV.bytes Iv))),(4,Ob.mk true 0 (AObj.row (IV.sl 3 Xv))),(5,Ob.mk true 0 (AObj.row (IV.bytes C))),(6,Ob.mk true 0 (AObj.row (IV.sl 2 acc))),(7,Ob.mk true 0 (AObj.row (IV.bools Sv))),(8,Ob.mk true 0 (AObj.row (IV.bools Uv)))] 9 []) = (K [.agg [AV.new (IV.ints IntKind.i64 Tv),AV.new (IV.bytes Iv),AV.new (IV.sl 3 Xv),AV.new (IV.bytes C),AV.new (IV.sl 2 acc),AV.new (IV.bools Sv),AV.new (IV.bools Uv)]]):=by kernel_rfl
end Q6
namespace Q6
open Go Go.AE Go.Proofs
def renB (kk:Int) (c:UInt8):UInt8:=if IntKind.wrap .i64 (c.toNat:Int) == 0 then u8 (IntKind.wrap .u8 kk) else if IntKind.wrap .i64 (c.toNat:Int) == kk then u8 0 else u8 (c.toNat:Int)
def lowL:Int:=-2147483649
def highL:Int:=2147483647
def vT (T:List Int):List Int:=List.take (Int.toNat (aft T highL) - Int.toNat (aft T lowL)) (List.drop (Int.toNat (aft T lowL)) T)
def vJ (T:List Int) (I:List UInt8):List UInt8:=List.take (Int.toNat (aft T highL) - Int.toNat (aft T lowL)) (List.drop (Int.toNat (aft T lowL)) I)
def vK (T:List Int) (I:List UInt8):Int:=inE T I lowL
def isLow (el:List IV):Bool:=decide (ivInt (ivNth el 0) < 2147483648)
def sView:List AV→Option (List Prop×List AV)
 | [.agg [.imm (.ints .i64 T),.imm (.bytes I),.imm (.sl 3 X),.imm (.bytes C),.imm (.sl 2 L),.imm (.bools S),.imm (.bools U)]]=>some ([okV T I X C L S U],
   [.agg [.new (.ints .i64 (vT T)),.new (.bytes ((vJ T I).map (renB (vK T I)))),.new (.sl 3 (sw X [] (vK T I))),.new (.bytes C),.new (.sl 2 (L.filter isLow)),.new (.bools (sw S false (vK T I))),.new (.bools (sw U false (vK T I)))]])
 | _=>none
noncomputable def H9:=addE H8 125 sView
end Q6
set_option maxRecDepth 100000
namespace Q6
open Go Go.AE Go.Proofs PE PF
attribute [local irreducible] loopK evCode evSpec loopB norm
theorem aft0 (T:List Int) (t:Int):0≤aft T t:=by unfold aft; omega
theorem aft_le (T:List Int) (t:Int):aft T t≤(T.length:Int):=by
 unfold aft
 have:=(List.takeWhile_prefix (fun x=>decide (x≤t)) (l:=T)).length_le
 omega
theorem aft_mono (T:List Int) {s t:Int} (h:s≤t):aft T s≤aft T t:=by
 unfold aft
 induction T with
 | nil=>simp
 | cons x T ih =>
  simp only [List.takeWhile_cons]
  by_cases hx:x≤s
  ·have:x≤t:=by omega
   simp [hx,this] at ih ⊢
   omega
  ·by_cases hy:x≤t
   ·simp [hx,hy]; omega
   ·simp [hx,hy]
theorem inE0 (T:List Int) (I:List UInt8) (t:Int):0≤inE T I t∧inE T I t≤255:=by
 unfold inE
 cases aft T t == 0 with
 | true=>exact ⟨Int.le_refl 0,(by decide:(0:Int)≤255)⟩
 | false =>
  have:=(I.getD (aft T t - 1).toNat 0).toNat_lt
  show 0≤((I.getD (aft T t - 1).toNat 0).toNat:Int)∧((I.getD (aft T t - 1).toNat 0).toNat:Int)≤255
  omega
theorem wrapB6 (c:UInt8):IntKind.wrap .i64 (c.toNat:Int) = (c.toNat:Int):=by
 have:=c.toNat_lt
 exact wrap64 (by omega) (by omega)
theorem ok122:∀ args pres res,sInE args = some (pres,res)→SpecOK Tryz.prog G6 127 args pres res:=by
 intro args pres res h
 unfold sInE at h
 split at h
 case h_2=>cases h
 cases h
 rename_i T I X C L S U t
 refine spec_ok (C:=V122) okH7 noCall_ok Tryz.func127 (by kernel_rfl) (by kernel_rfl) (fun hp=>?_)
 have hV:okV T I X C L S U:=hp (okV T I X C L S U) (by simp)
 have hl:=hV.t
 have a0:=aft0 T t
 have a1:=aft_le T t
 have hi:=hV.i
 refine Eq.mpr (g122_in T I X C L S U t _) ⟨hl,hV.a,brn_intro (fun h=>?_) (fun h=>?_)⟩
 ·have:inE T I t = 0:=by unfold inE; rw [h]; first | done | rfl
  rw [this]; first | done | rfl
 ·have hn:aft T t≠0:=fun e=>by rw [e] at h; exact absurd h (by decide)
  have e0:IntKind.wrap .i64 (aft T t - 1) = aft T t - 1:=wrap64 (by omega) (by omega)
  rw [e0,wrapB6]
  have:inE T I t = ((I.getD (aft T t - 1).toNat 0).toNat:Int):=by unfold inE; rw [h]; first | done | rfl
  rw [this]
  exact ⟨by omega,by omega,rfl⟩
theorem okH8:EOK Tryz.prog H8 G6:=addE_ok okH7 ok122
theorem I8_ok:∀ f fn,I8 f = some fn→Tryz.prog.funcs[f]? = some fn∧(fn.name == "runtime.NumGoroutine") = false:=by
 intro f fn h
 unfold I8 at h
 cases h1:Nat.beq f 129 with
 | true=>rw [h1,cond_true] at h; cases h; obtain rfl:=nbeq h1; exact ⟨Tryz.func129,by kernel_rfl⟩
 | false=>rw [h1,cond_false] at h; cases h
theorem take_s {α:Type} {l:List α} {i:Nat} (h:i < l.length) (d:α):l.take (i + 1) = l.take i ++ [l.getD i d]:=by
 rw [List.take_succ,List.getD_eq_getElem?_getD,List.getElem?_eq_getElem h]; first | done | rfl
theorem b64 {n m:Nat} (h:n≤1000000) (hm:m≤100):(n + 1) * m≤140737488355328:=by
 have:(n + 1) * m≤1000001 * 100:=Nat.mul_le_mul (by omega) hm
 omega
theorem lp2_det (Tv:List Int) (Iv:List UInt8) (Xv:List (List IV)) (C:List UInt8) (Sv Uv:List Bool) (L:List (List IV)) (hX:okX L) :
  ∀ K:List AV→Prop,K [.agg [.new (.ints .i64 Tv),.new (.bytes Iv),.new (.sl 3 Xv),.new (.bytes C),.new (.sl 2 (L.filter isLow)),.new (.bools Sv),.new (.bools Uv)]]→∀ p st,norm p st = some (k120b Tv Iv Xv C Sv Uv L [] (L.length:Int) 0)→evCode VW (.loop (loopB (bodyOf Tryz.f125) 1)) st (loopK VW (bodyOf Tryz.f125) 1 (finK VW Tryz.f125 K)):=by
 have hl:=hX.len
 refine Exists.elim (loop_det (C:=VW) (c:=loopB (bodyOf Tryz.f125) 1) (fun s:Nat×List (List IV)=>k120b Tv Iv Xv C Sv Uv L s.2 (L.length:Int) (s.1:Int)) (fun s=>s.1≤L.length∧s.2 = (L.take s.1).filter isLow) (fun s=>L.length - s.1) (fun _:Unit=>True)
  (fun _=>[.agg [.new (.ints .i64 Tv),.new (.bytes Iv),.new (.sl 3 Xv),.new (.bytes C),.new (.sl 2 (L.filter isLow)),.new (.bools Sv),.new (.bools Uv)]])
  (fun K=>loopK VW (bodyOf Tryz.f125) 1 (finK VW Tryz.f125 K)) rfl (fun s hs=>?_) (0,[]) ⟨Nat.zero_le _,by simp⟩) (fun v hv=>hv.2)
 obtain ⟨i,acc⟩:=s
 obtain ⟨i1,i2⟩:=hs
 have i1:i≤L.length:=i1
 have i2:acc = (L.take i).filter isLow:=i2
 have ha:acc.length≤i:=by rw [i2]; exact Nat.le_trans (List.length_filter_le _ _) (by rw [List.length_take]; omega)
 have hw:IntKind.wrap .i64 ((i:Int) + 1) = ((i + 1:Nat):Int):=by rw [w1 (by omega) (by omega)]; first | done | rfl
 by_cases h:i < L.length
 ·have hz:(i:Int) < (L.length:Int):=by omega
  have hk:=hX.kc i (by omega) hz
  have e:List.getD L (Int.toNat (i:Int)) [] = L.getD i []:=by rw [Int.toNat_natCast]
  cases hx:decide (ivInt (ivNth (List.getD L (Int.toNat (i:Int)) []) 0) < 2147483648) with
  | true =>
   refine .inl ⟨(i + 1,acc ++ [kcells (List.getD L (Int.toNat (i:Int)) []) 0 (lapp [CK.int .i64] (lapp [CK.int .i32] []))]),⟨[],msk [2,7,63,64,65] 0 80,[0,1,4,5,6,7,3,8,9]⟩,_,⟨by show i + 1≤L.length; omega,?_⟩,by show L.length - (i + 1) < L.length - i; omega,?_,fun K' hK'=>by
    show evCode VW (loopB (bodyOf Tryz.f125) 1) (k120b Tv Iv Xv C Sv Uv L acc (L.length:Int) (i:Int)) K'
    rw [g120_lp2,hw]
    exact brn_T (decide_eq_true hz) ⟨by omega,hz,hk,brn_T hx ⟨b64 (by omega) (by decide),by show acc.length + 1≤140737488355328; omega,hK'⟩⟩⟩
   ·show acc ++ [kcells (List.getD L (Int.toNat (i:Int)) []) 0 (lapp [CK.int .i64] (lapp [CK.int .i32] []))] = (L.take (i + 1)).filter isLow
    rw [hk,e,take_s h [],List.filter_append,i2]
    have:isLow (L.getD i []) = true:=by rw [e] at hx; exact hx
    rw [show [L.getD i []].filter isLow = [L.getD i []] from by rw [List.filter_cons,this]; rfl]
   ·kernel_rfl
  | false =>
   refine .inl ⟨(i + 1,acc),⟨[],msk [2,7,63,64,65] 0 80,[0,1,3,4,5,6,7,8,9]⟩,_,⟨by show i + 1≤L.length; omega,?_⟩,by show L.length - (i + 1) < L.length - i; omega,?_,fun K' hK'=>by
    show evCode VW (loopB (bodyOf Tryz.f125) 1) (k120b Tv Iv Xv C Sv Uv L acc (L.length:Int) (i:Int)) K'
    rw [g120_lp2,hw]
    exact brn_T (decide_eq_true hz) ⟨by omega,hz,hk,brn_Fa hx hK'⟩⟩
   ·show acc = (L.take (i + 1)).filter isLow
    rw [take_s h [],List.filter_append,i2]
    have:isLow (L.getD i []) = false:=by rw [e] at hx; exact hx
    rw [show [L.getD i []].filter isLow = [] from by rw [List.filter_cons,this]; rfl,List.append_nil]
   ·kernel_rfl
 ·have hz:¬ (i:Int) < (L.length:Int):=by omega
  refine .inr ⟨.exit 2,_,by simp,fun K' hK'=>by
   show evCode VW (loopB (bodyOf Tryz.f125) 1) (k120b Tv Iv Xv C Sv Uv L acc (L.length:Int) (i:Int)) K'
   rw [g120_lp2]
   exact brn_Fa (decide_eq_false hz) hK',(),trivial,fun K hK=>?_⟩
  have e:acc = L.filter isLow:=by rw [i2,List.take_of_length_le (by omega)]
  rw [← e] at hK
  exact Eq.mp (by kernel_rfl) (Eq.mpr (g120_out2 Tv Iv Xv C Sv Uv L acc (L.length:Int) (i:Int) K) hK)
theorem lp1_det (T:List Int) (I:List UInt8) (X:List (List IV)) (C:List UInt8) (L:List (List IV)) (S U:List Bool) (kk:Int) (Tv:List Int) (Xv:List (List IV)) (Cv:List UInt8) (Sv Uv:List Bool) (J:List UInt8) (hJ:J.length≤1000000) (hX:okX L) :
  ∀ K:List AV→Prop,K [.agg [.new (.ints .i64 Tv),.new (.bytes (J.map (renB kk))),.new (.sl 3 Xv),.new (.bytes Cv),.new (.sl 2 (L.filter isLow)),.new (.bools Sv),.new (.bools Uv)]]→∀ p st,norm p st = some (k120a (blk6 T I X C L S U) kk Tv Xv Cv Sv Uv J [] (J.length:Int) 0)→evCode VW (.loop (loopB (bodyOf Tryz.f125) 0)) st (loopK VW (bodyOf Tryz.f125) 0 (finK VW Tryz.f125 K)):=by
 refine Exists.elim (loop_det (C:=VW) (c:=loopB (bodyOf Tryz.f125) 0) (fun s:Nat×List UInt8=>k120a (blk6 T I X C L S U) kk Tv Xv Cv Sv Uv J s.2 (J.length:Int) (s.1:Int)) (fun s=>s.1≤J.length∧s.2 = (J.take s.1).map (renB kk)) (fun s=>J.length - s.1) (fun _:Unit=>True)
  (fun _=>[.agg [.new (.ints .i64 Tv),.new (.bytes (J.map (renB kk))),.new (.sl 3 Xv),.new (.bytes Cv),.new (.sl 2 (L.filter isLow)),.new (.bools Sv),.new (.bools Uv)]])
  (fun K=>loopK VW (bodyOf Tryz.f125) 0 (finK VW Tryz.f125 K)) rfl (fun s hs=>?_) (0,[]) ⟨Nat.zero_le _,by simp⟩) (fun v hv=>hv.2)
 obtain ⟨i,acc⟩:=s
 obtain ⟨i1,i2⟩:=hs
 have i1:i≤J.length:=i1
 have i2:acc = (J.take i).map (renB kk):=i2
 have ha:acc.length≤i:=by rw [i2,List.length_map,List.length_take]; omega
 have hw:IntKind.wrap .i64 ((i:Int) + 1) = ((i + 1:Nat):Int):=by rw [w1 (by omega) (by omega)]; first | done | rfl
 have b1:(acc.length + 1) * 1≤140737488355328:=by omega
 have b2:acc.length + 1≤140737488355328:=by omega
 by_cases h:i < J.length
 ·have hz:(i:Int) < (J.length:Int):=by omega
  have i0:(0:Int)≤(i:Int):=by omega
  have e:List.getD J (Int.toNat (i:Int)) 0 = J.getD i 0:=by rw [Int.toNat_natCast]
  have next:∀ c:UInt8,renB kk (J.getD i 0) = c→acc ++ [c] = (J.take (i + 1)).map (renB kk):=fun c hc=>by
   rw [take_s h 0,List.map_append,i2]
   rw [show [J.getD i 0].map (renB kk) = [renB kk (J.getD i 0)] from rfl,hc]
  cases hx:(IntKind.wrap .i64 ((List.getD J (Int.toNat (i:Int)) 0).toNat:Int) == 0) with
  | true =>
   refine .inl ⟨(i + 1,acc ++ List.map u8 [IntKind.wrap .u8 kk]),⟨[],msk [1,2,3,6,7,47,48,49] 0 80,[0,1,2,3,5,4,6,7,8,9]⟩,_,⟨by show i + 1≤J.length; omega,next _ ?_⟩,by show J.length - (i + 1) < J.length - i; omega,?_,fun K' hK'=>by
    show evCode VW (loopB (bodyOf Tryz.f125) 0) (k120a (blk6 T I X C L S U) kk Tv Xv Cv Sv Uv J acc (J.length:Int) (i:Int)) K'
    rw [g120_lp (hjj:=rfl),hw]
    intro A1 A8 A15 A30 A38 A46
    have hA:A1:=hK'
    have h30:A30:=⟨b1,b2,hA⟩
    exact brn_T (decide_eq_true hz) ⟨i0,hz,brn_T hx ⟨b1,b2,hA⟩,brn_T hx ⟨h30,h30⟩⟩⟩
   ·unfold renB
    rw [e] at hx
    rw [hx]
    first | done | rfl
   ·kernel_rfl
  | false =>
   cases hy:(IntKind.wrap .i64 ((List.getD J (Int.toNat (i:Int)) 0).toNat:Int) == kk) with
   | true =>
    refine .inl ⟨(i + 1,acc ++ List.map u8 [0]),⟨[],msk [1,2,3,6,7,47,48,49] 0 80,[0,1,2,3,5,4,6,7,8,9]⟩,_,⟨by show i + 1≤J.length; omega,next _ ?_⟩,by show J.length - (i + 1) < J.length - i; omega,?_,fun K' hK'=>by
     show evCode VW (loopB (bodyOf Tryz.f125) 0) (k120a (blk6 T I X C L S U) kk Tv Xv Cv Sv Uv J acc (J.length:Int) (i:Int)) K'
     rw [g120_lp (hjj:=rfl),hw]
     intro A1 A8 A15 A30 A38 A46
     have hA:A8:=hK'
     have h38:A38:=⟨b1,b2,hA⟩
     exact brn_T (decide_eq_true hz) ⟨i0,hz,brn_Fa hx (brn_T hy ⟨b1,b2,hA⟩),brn_Fa hx (brn_T hy ⟨h38,h38⟩)⟩⟩
    ·unfold renB
     rw [e] at hx hy
     rw [hx,hy]
     first | done | rfl
    ·kernel_rfl
   | false =>
    refine .inl ⟨(i + 1,acc ++ List.map u8 [((List.getD J (Int.toNat (i:Int)) 0).toNat:Int)]),⟨[],msk [1,2,3,6,7,47,48,49] 0 80,[0,1,2,3,5,4,6,7,8,9]⟩,_,⟨by show i + 1≤J.length; omega,next _ ?_⟩,by show J.length - (i + 1) < J.length - i; omega,?_,fun K' hK'=>by
     show evCode VW (loopB (bodyOf Tryz.f125) 0) (k120a (blk6 T I X C L S U) kk Tv Xv Cv Sv Uv J acc (J.length:Int) (i:Int)) K'
     rw [g120_lp (hjj:=rfl),hw]
     intro A1 A8 A15 A30 A38 A46
     have hA:A15:=hK'
     have h46:A46:=⟨b1,b2,hA⟩
     exact brn_T (decide_eq_true hz) ⟨i0,hz,brn_Fa hx (brn_Fa hy ⟨b1,b2,hA⟩),brn_Fa hx (brn_Fa hy ⟨h46,h46⟩)⟩⟩
    ·unfold renB
     rw [e] at hx hy ⊢
     rw [hx,hy]
     first | done | rfl
    ·kernel_rfl
 ·have hz:¬ (i:Int) < (J.length:Int):=by omega
  refine .inr ⟨.exit 0,_,by simp,fun K' hK'=>by
   show evCode VW (loopB (bodyOf Tryz.f125) 0) (k120a (blk6 T I X C L S U) kk Tv Xv Cv Sv Uv J acc (J.length:Int) (i:Int)) K'
   rw [g120_lp (hjj:=rfl)]
   intro A1 A8 A15 A30 A38 A46
   exact brn_Fa (decide_eq_false hz) hK',(),trivial,fun K hK=>?_⟩
  have e:acc = J.map (renB kk):=by rw [i2,List.take_of_length_le (by omega)]
  rw [← e] at hK
  have key:=lp2_det Tv acc Xv Cv Sv Uv L hX K hK
  refine Eq.mp (by kernel_rfl) (Eq.mpr (g120_out T I X C L S U kk Tv Xv Cv Sv Uv J acc (J.length:Int) (i:Int) K) ?_)
  unfold LoopI
  exact key q120j _ (by kernel_rfl)
theorem ok120:∀ args pres res,sView args = some (pres,res)→SpecOK Tryz.prog G6 125 args pres res:=by
 intro args pres res h
 unfold sView at h
 split at h
 case h_2=>cases h
 cases h
 rename_i T I X C L S U
 refine spec_ok (C:=VW) okH8 (inl_ok okH8 I8_ok 2) Tryz.func125 (by kernel_rfl) (by kernel_rfl) (fun hp=>?_)
 have hV:okV T I X C L S U:=hp (okV T I X C L S U) (by simp)
 have a0:=aft0 T lowL
 have a1:aft T lowL≤aft T highL:=aft_mono T (by decide)
 have a2:=aft_le T highL
 have hT:=hV.t
 have hA:=hV.a
 have hi:=hV.i
 have hXX:=hV.x
 have hC:=hV.c
 have hS:=hV.s
 have hU:=hV.u
 have hk:=(inE0 T I lowL).1
 have hJ:(vJ T I).length≤1000000:=by unfold vJ; rw [List.length_take,List.length_drop]; omega
 have hTv:((vT T).length:Int)≤1000000:=by unfold vT; rw [List.length_take,List.length_drop]; omega
 have a3:aft T highL≤(I.length:Int):=by rw [hi]; exact a2
 have key:=lp1_det T I X C L S U (vK T I) (vT T) (sw X [] (vK T I)) C (sw S false (vK T I)) (sw U false (vK T I)) (vJ T I) hJ hV.l
 refine Eq.mpr (g120_in T I X C L S U _) ?_
 intro E1 E2
 have hE1:E1:=rfl
 have hE2:E2:=rfl
 clear_value E1 E2
 refine ⟨hV,?_⟩
 repeat' apply And.intro
 all_goals first | assumption | skip
 unfold LoopI
 refine key _ ?_ q120i _ ?_
 ·rfl
 ·kernel_rfl
theorem okH9:EOK Tryz.prog H9 G6:=addE_ok okH8 ok120
end Q6
namespace Q6
open Go Go.AE Go.Proofs
noncomputable section
def av {α:Type} (n:Int) (x y:α):α:=bif decide (n < 2) then x else y
def fil (n:Int) (T:List Int) (I:List UInt8) (X:List (List IV)) (C:List UInt8) (L:List (List IV)) (S U:List Bool) (T':List Int) (I':List UInt8) (X':List (List IV)) (C':List UInt8) (L':List (List IV)) (S' U':List Bool) (f:List UInt8):List AV:=[.imm (.int .i64 n),.imm (.ints .i64 T),.imm (.bytes I),.imm (.sl 3 X),.imm (.bytes C),.imm (.sl 2 L),.imm (.bools S),.imm (.bools U),.imm (.ints .i64 T'),.imm (.bytes I'),.imm (.sl 3 X'),.imm (.bytes C'),.imm (.sl 2 L'),.imm (.bools S'),.imm (.bools U'),.imm (.str f)]
def sAct:List AV→Option (List Prop×List AV)
 | [.agg [.imm (.int .i64 n),.imm (.ints .i64 T),.imm (.bytes I),.imm (.sl 3 X),.imm (.bytes C),.imm (.sl 2 L),.imm (.bools S),.imm (.bools U),.imm (.ints .i64 T'),.imm (.bytes I'),.imm (.sl 3 X'),.imm (.bytes C'),.imm (.sl 2 L'),.imm (.bools S'),.imm (.bools U'),.imm (.str f)]]=>some ([],[.agg [.imm (.ints .i64 (av n T T')),.imm (.bytes (av n I I')),.imm (.sl 3 (av n X X')),.imm (.bytes (av n C C')),.imm (.sl 2 (av n L L')),.imm (.bools (av n S S')),.imm (.bools (av n U U'))]])
 | _=>none
def sSlim:List AV→Option (List Prop×List AV)
 | []=>some ([],[.agg [.imm (.ints .i64 []),.imm (.bytes []),.imm (.sl 3 [[.int .i32 0,.bool false,.int .u8 0]]),.imm (.bytes [0]),.imm (.sl 2 []),.imm (.bools []),.imm (.bools [])]])
 | _=>none
def sViewS:List AV→Option (List Prop×List AV)
 | [.agg [.imm (.ints .i64 T),.imm (.bytes I),.imm (.sl 3 X),.imm (.bytes C),.imm (.sl 2 L),.imm (.bools S),.imm (.bools U)]]=>some ([okV T I X C L S U],
   [.agg [.imm (.ints .i64 (vT T)),.imm (.bytes ((vJ T I).map (renB (vK T I)))),.imm (.sl 3 (sw X [] (vK T I))),.imm (.bytes C),.imm (.sl 2 (L.filter isLow)),.imm (.bools (sw S false (vK T I))),.imm (.bools (sw U false (vK T I)))]])
 | _=>none
structure okVA (n:Int) (T:List Int) (I:List UInt8) (X:List (List IV)) (C:List UInt8) (L:List (List IV)) (S U:List Bool) (T':List Int) (I':List UInt8) (X':List (List IV)) (C':List UInt8) (L':List (List IV)) (S' U':List Bool) (f:List UInt8):Prop where
 v:okV (av n T T') (av n I I') (av n X X') (av n C C') (av n L L') (av n S S') (av n U U')
def sW1:List AV→Option (List Prop×List AV)
 | [.agg [.imm (.int .i64 n),.imm (.ints .i64 T),.imm (.bytes I),.imm (.sl 3 X),.imm (.bytes C),.imm (.sl 2 L),.imm (.bools S),.imm (.bools U),.imm (.ints .i64 T'),.imm (.bytes I'),.imm (.sl 3 X'),.imm (.bytes C'),.imm (.sl 2 L'),.imm (.bools S'),.imm (.bools U'),.imm (.str f)],.imm (.int .i64 v)]=>some ([okVA n T I X C L S U T' I' X' C' L' S' U' f],[.agg [.imm (.int .i64 v),.imm (.ints .i64 (vT (av n T T'))),.imm (.bytes ((vJ (av n T T') (av n I I')).map (renB (vK (av n T T') (av n I I'))))),.imm (.sl 3 (sw (av n X X') [] (vK (av n T T') (av n I I')))),.imm (.bytes (av n C C')),.imm (.sl 2 ((av n L L').filter isLow)),.imm (.bools (sw (av n S S') false (vK (av n T T') (av n I I')))),.imm (.bools (sw (av n U U') false (vK (av n T T') (av n I I')))),.imm (.ints .i64 []),.imm (.bytes []),.imm (.sl 3 []),.imm (.bytes []),.imm (.sl 2 []),.imm (.bools []),.imm (.bools []),.imm (.str [])]])
 | _=>none
def sW2:List AV→Option (List Prop×List AV)
 | [.agg [.imm (.int .i64 n),.imm (.ints .i64 T),.imm (.bytes I),.imm (.sl 3 X),.imm (.bytes C),.imm (.sl 2 L),.imm (.bools S),.imm (.bools U),.imm (.ints .i64 T'),.imm (.bytes I'),.imm (.sl 3 X'),.imm (.bytes C'),.imm (.sl 2 L'),.imm (.bools S'),.imm (.bools U'),.imm (.str f)],.imm (.int .i64 v)]=>some ([],[.agg [.imm (.int .i64 v),.imm (.ints .i64 []),.imm (.bytes []),.imm (.sl 3 [[.int .i32 0,.bool false,.int .u8 0]]),.imm (.bytes [0]),.imm (.sl 2 []),.imm (.bools []),.imm (.bools []),.imm (.ints .i64 (av n T T')),.imm (.bytes (av n I I')),.imm (.sl 3 (av n X X')),.imm (.bytes (av n C C')),.imm (.sl 2 (av n L L')),.imm (.bools (av n S S')),.imm (.bools (av n U U')),.imm (.str f)]])
 | _=>none
def extP (f:List UInt8):Bool:=(P9.ruP f).h && (PA.late (P9.ruP f).S.t || PA.late (P9.ruP f).E.t)
def neV (xs:List (List IV)):Bool:=lvA xs 4 && !lvA xs 3
def exV (n v:Int) (L L':List (List IV)) (f:List UInt8):Bool:=bif decide (v < 3) && P9.whyP f == 0 && extP f then false else decide (v≥4) || !neV (av n L L')
structure okE (n:Int) (T:List Int) (I:List UInt8) (X:List (List IV)) (C:List UInt8) (L:List (List IV)) (S U:List Bool) (T':List Int) (I':List UInt8) (X':List (List IV)) (C':List UInt8) (L':List (List IV)) (S' U':List Bool) (f:List UInt8):Prop where
 l:okX (av n L L')
 f:(f.length:Int)≤1000000
def sExp:List AV→Option (List Prop×List AV)
 | [.agg [.imm (.int .i64 n),.imm (.ints .i64 T),.imm (.bytes I),.imm (.sl 3 X),.imm (.bytes C),.imm (.sl 2 L),.imm (.bools S),.imm (.bools U),.imm (.ints .i64 T'),.imm (.bytes I'),.imm (.sl 3 X'),.imm (.bytes C'),.imm (.sl 2 L'),.imm (.bools S'),.imm (.bools U'),.imm (.str f)],.imm (.int .i64 v)]=>some ([okE n T I X C L S U T' I' X' C' L' S' U' f],[bo6 (exV n v L L' f)])
 | _=>none
def toC (n v:Int) (L L':List (List IV)) (f:List UInt8):Nat:=bif decide (v < 1) || decide (v > 4) then 0 else bif decide (n≤v) then 1 else bif exV n v L L' f then (bif v == 1 then 3 else 4) else 2
def p5 {α:Type} (c:Nat) (z s w u:α):α:=match c with
 | 0=>z
 | 1=>s
 | 2=>z
 | 3=>w
 | _=>u
def toE (c:Nat):Int:=match c with
 | 0=>18
 | 2=>17
 | _=>0
structure okTo (n:Int) (T:List Int) (I:List UInt8) (X:List (List IV)) (C:List UInt8) (L:List (List IV)) (S U:List Bool) (T':List Int) (I':List UInt8) (X':List (List IV)) (C':List UInt8) (L':List (List IV)) (S' U':List Bool) (f:List UInt8) (v:Int):Prop where
 e:okE n T I X C L S U T' I' X' C' L' S' U' f
 v:v = 1→1 < n→okV (av n T T') (av n I I') (av n X X') (av n C C') (av n L L') (av n S S') (av n U U')
noncomputable def H10:=addE (addE (addE H9 20 sAct) 134 sSlim) 125 sViewS
noncomputable def H11:=addE (addE H10 124 sW1) 126 sW2
noncomputable def H12:=addE H11 9 sExp
noncomputable def V18:Cx:=⟨Tryz.prog,H9,noCall,G6,4003⟩
noncomputable def I9:FuncId→Option Func:=fun f=>bif Nat.beq f 139 then some Tryz.f139 else bif Nat.beq f 140 then some Tryz.f140 else none
noncomputable def V129:Cx:=⟨Tryz.prog,H9,inl I9 Tryz.prog H9 G6 2 3,G6,2⟩
noncomputable def V119:Cx:=⟨Tryz.prog,H10,noCall,G6,4005⟩
noncomputable def V9:Cx:=⟨Tryz.prog,H11,noCall,G6,4008⟩
noncomputable def V10:Cx:=⟨Tryz.prog,H12,noCall,G6,4008⟩
def sTo:List AV→Option (List Prop×List AV)
 | [.agg [.imm (.int .i64 n),.imm (.ints .i64 T),.imm (.bytes I),.imm (.sl 3 X),.imm (.bytes C),.imm (.sl 2 L),.imm (.bools S),.imm (.bools U),.imm (.ints .i64 T'),.imm (.bytes I'),.imm (.sl 3 X'),.imm (.bytes C'),.imm (.sl 2 L'),.imm (.bools S'),.imm (.bools U'),.imm (.str f)],.imm (.int .i64 v)]=>some ([okTo n T I X C L S U T' I' X' C' L' S' U' f v],[.agg [.imm (.int .i64 (p5 (toC n v L L' f) 0 n v v)),.imm (.ints .i64 (p5 (toC n v L L' f) [] T (vT (av n T T')) [])),.imm (.bytes (p5 (toC n v L L' f) [] I ((vJ (av n T T') (av n I I')).map (renB (vK (av n T T') (av n I I')))) [])),.imm (.sl 3 (p5 (toC n v L L' f) [] X (sw (av n X X') [] (vK (av n T T') (av n I I'))) [[.int .i32 0,.bool false,.int .u8 0]])),.imm (.bytes (p5 (toC n v L L' f) [] C (av n C C') [0])),.imm (.sl 2 (p5 (toC n v L L' f) [] L ((av n L L').filter isLow) [])),.imm (.bools (p5 (toC n v L L' f) [] S (sw (av n S S') false (vK (av n T T') (av n I I'))) [])),.imm (.bools (p5 (toC n v L L' f) [] U (sw (av n U U') false (vK (av n T T') (av n I I'))) [])),.imm (.ints .i64 (p5 (toC n v L L' f) [] T' [] (av n T T'))),.imm (.bytes (p5 (toC n v L L' f) [] I' [] (av n I I'))),.imm (.sl 3 (p5 (toC n v L L' f) [] X' [] (av n X X'))),.imm (.bytes (p5 (toC n v L L' f) [] C' [] (av n C C'))),.imm (.sl 2 (p5 (toC n v L L' f) [] L' [] (av n L L'))),.imm (.bools (p5 (toC n v L L' f) [] S' [] (av n S S'))),.imm (.bools (p5 (toC n v L L' f) [] U' [] (av n U U'))),.imm (.str (p5 (toC n v L L' f) [] f [] f))],i6 (toE (toC n v L L' f))])
 | _=>none
noncomputable def H13:=addE H12 6 sTo
end
end Q6
set_option maxRecDepth 100000
namespace Q6
open Go Go.AE Go.Proofs PE PF
attribute [local irreducible] loopK evCode evSpec loopB norm
theorem g18_in (n:Int) (T:List Int) (I:List UInt8) (X:List (List IV)) (C:List UInt8) (L:List (List IV)) (S:List Bool) (U:List Bool) (T':List Int) (I':List UInt8) (X':List (List IV)) (C':List UInt8) (L':List (List IV)) (S':List Bool) (U':List Bool) (f:List UInt8) (K:List AV→Prop):evSpec V18 Tryz.f20 [.agg (fil n T I X C L S U T' I' X' C' L' S' U' f)] K = (brn (decide (n < 2)) (K [.agg [.imm (.ints IntKind.i64 T),by' I,.imm (.sl 3 X),by' C,.imm (.sl 2 L),.imm (.bools S),.imm (.bools U)]]) (K [.agg [.imm (.ints IntKind.i64 T'),by' I',.imm (.sl 3 X'),by' C',.imm (.sl 2 L'),.imm (.bools S'),.imm (.bools U')]])):=by kernel_rfl
theorem g129_in (K:List AV→Prop):evSpec V129 Tryz.f134 [] K = ((0:Int)≤1∧(1:Int)≤1∧(↑8:Int) * 1≤140737488355328∧(1:Int)≤140737488355328∧K [.agg [AV.new (IV.ints IntKind.i64 []),AV.new (IV.bytes []),AV.new (IV.sl 3 [[IV.int IntKind.i32 (0:Int),IV.bool false,IV.int .u8 0]]),by' (List.map u8 [(0:Int)]),AV.new (IV.sl 2 []),AV.new (IV.bools []),AV.new (IV.bools [])]]):=by kernel_rfl
theorem g119_in (n:Int) (T:List Int) (I:List UInt8) (X:List (List IV)) (C:List UInt8) (L:List (List IV)) (S:List Bool) (U:List Bool) (T':List Int) (I':List UInt8) (X':List (List IV)) (C':List UInt8) (L':List (List IV)) (S':List Bool) (U':List Bool) (f:List UInt8) (v:Int) (K:List AV→Prop):evSpec V119 Tryz.f124 [.agg (fil n T I X C L S U T' I' X' C' L' S' U' f),i6 v] K = (okV (av n T T') (av n I I') (av n X X') (av n C C') (av n L L') (av n S S') (av n U U')∧K [.agg [i64 v,.imm (.ints IntKind.i64 (vT (av n T T'))),by' (List.map (renB (vK (av n T T') (av n I I'))) (vJ (av n T T') (av n I I'))),.imm (.sl 3 (sw (av n X X') [] (vK (av n T T') (av n I I')))),by' (av n C C'),.imm (.sl 2 (List.filter isLow (av n L L'))),.imm (.bools (sw (av n S S') false (vK (av n T T') (av n I I')))),.imm (.bools (sw (av n U U') false (vK (av n T T') (av n I I')))),AV.new (IV.ints IntKind.i64 []),AV.new (IV.bytes []),AV.new (IV.sl 3 []),AV.new (IV.bytes []),AV.new (IV.sl 2 []),AV.new (IV.bools []),AV.new (IV.bools []),.imm (.str [])]]):=by kernel_rfl
theorem g121_in (n:Int) (T:List Int) (I:List UInt8) (X:List (List IV)) (C:List UInt8) (L:List (List IV)) (S:List Bool) (U:List Bool) (T':List Int) (I':List UInt8) (X':List (List IV)) (C':List UInt8) (L':List (List IV)) (S':List Bool) (U':List Bool) (f:List UInt8) (v:Int) (K:List AV→Prop):evSpec V119 Tryz.f126 [.agg (fil n T I X C L S U T' I' X' C' L' S' U' f),i6 v] K = (let E1:Prop:=((sm (St.mk [.agg [i64 n,.imm (.ints IntKind.i64 T),by' I,.imm (.sl 3 X),by' C,.imm (.sl 2 L),.imm (.bools S),.imm (.bools U),.imm (.ints IntKind.i64 T'),by' I',.imm (.sl 3 X'),by' C',.imm (.sl 2 L'),.imm (.bools S'),.imm (.bools U'),.imm (.str f)],i64 v,.ptr 0 0,.dead,.ptr 1 0,i64 v,.agg [.imm (.ints IntKind.i64 []),by' ([]),.imm (.sl 3 [[IV.int IntKind.i32 (0:Int),IV.bool false,IV.int .u8 0]]),by' ([(0:UInt8)]),.imm (.sl 2 []),.imm (.bools []),.imm (.bools [])],.agg [i64 n,.imm (.ints IntKind.i64 T),by' I,.imm (.sl 3 X),by' C,.imm (.sl 2 L),.imm (.bools S),.imm (.bools U),.imm (.ints IntKind.i64 T'),by' I',.imm (.sl 3 X'),by' C',.imm (.sl 2 L'),.imm (.bools S'),.imm (.bools U'),.imm (.str f)],.agg [.imm
 (.ints IntKind.i64 (av n T T')),by' (av n I I'),.imm (.sl 3 (av n X X')),by' (av n C C'),.imm (.sl 2 (av n L L')),.imm (.bools (av n S S')),.imm (.bools (av n U U'))],.ptr 0 15,.imm (.str f),.agg [i64 v,.imm (.ints IntKind.i64 []),by' ([]),.imm (.sl 3 [[IV.int IntKind.i32 (0:Int),IV.bool false,IV.int .u8 0]]),by' ([(0:UInt8)]),.imm (.sl 2 []),.imm (.bools []),.imm (.bools []),.imm (.ints IntKind.i64 (av n T T')),by' (av n I I'),.imm (.sl 3 (av n X X')),by' (av n C C'),.imm (.sl 2 (av n L L')),.imm (.bools (av n S S')),.imm (.bools (av n U U')),.imm (.str f)]] [(0,Ob.mk true 0 (AObj.cells [i64 n,.imm (.ints IntKind.i64 T),by' I,.imm (.sl 3 X),by' C,.imm (.sl 2 L),.imm (.bools S),.imm (.bools U),.imm (.ints IntKind.i64 T'),by' I',.imm (.sl 3 X'),by' C',.imm (.sl 2 L'),.imm (.bools S'),.imm (.bools U'),.imm (.str f)])),(1,Ob.mk true 0 (AObj.cells [i64 v,.imm (.ints IntKind.i64 []),by' ([]),.imm (.sl 3 [[IV.int IntKind.i32 (0:Int),IV.bool false,IV.int .u8 0]]),by' ([(0:UInt8)]),.imm (.sl 2 []),.imm (.bools []),.imm (.bools []),.imm (.ints IntKind.i64 (av n T T')),by' (av n I I'),.imm (.sl 3 (av n X X')),by' (av n C C'),
 .imm (.sl 2 (av n L L')),.imm (.bools (av n S S')),.imm (.bools (av n U U')),.imm (.str f)]))] 2 []))); E1∧K [.agg [i64 v,.imm (.ints IntKind.i64 []),by' ([]),.imm (.sl 3 [[IV.int IntKind.i32 (0:Int),IV.bool false,IV.int .u8 0]]),by' ([(0:UInt8)]),.imm (.sl 2 []),.imm (.bools []),.imm (.bools []),.imm (.ints IntKind.i64 (av n T T')),by' (av n I I'),.imm (.sl 3 (av n X X')),by' (av n C C'),.imm (.sl 2 (av n L L')),.imm (.bools (av n S S')),.imm (.bools (av n U U')),.imm (.str f)]]):=by kernel_rfl
theorem g9_in (n:Int) (T:List Int) (I:List UInt8) (X:List (List IV)) (C:List UInt8) (L:List (List IV)) (S:List Bool) (U:List Bool) (T':List Int) (I':List UInt8) (X':List (List IV)) (C':List UInt8) (L':List (List IV)) (S':List Bool) (U':List Bool) (f:List UInt8) (v:Int) (K:List AV→Prop):evSpec V9 Tryz.f9 [.agg (fil n T I X C L S U T' I' X' C' L' S' U' f),i6 v] K = ((f.length:Int)≤1000000000000000000∧brn (decide (v < 3) && P9.whyP f == 0 && (P9.Ru.h (P9.ruP f) && (PA.late (P9.Dv.t (P9.Ru.S (P9.ruP f))) || PA.late (P9.Dv.t (P9.Ru.E (P9.ruP f)))))) (K [bo false]) ((decide (v≥4) = false→okX (av n L L'))∧K [bo (decide (v≥4) || !(lvA (av n L L') (4:Int) && !lvA (av n L L') (3:Int)))])):=by kernel_rfl
theorem g10_in (n:Int) (T:List Int) (I:List UInt8) (X:List (List IV)) (C:List UInt8) (L:List (List IV)) (S:List Bool) (U:List Bool) (T':List Int) (I':List UInt8) (X':List (List IV)) (C':List UInt8) (L':List (List IV)) (S':List Bool) (U':List Bool) (f:List UInt8) (v:Int) (K:List AV→Prop):evSpec V10 Tryz.f6 [.agg (fil n T I X C L S U T' I' X' C' L' S' U' f),i6 v] K = (let A12:Prop:=((brn (decide (n≤v)) (K [.agg [i64 n,.imm (.ints IntKind.i64 T),by' I,.imm (.sl 3 X),by' C,.imm (.sl 2 L),.imm (.bools S),.imm (.bools U),.imm (.ints IntKind.i64 T'),by' I',.imm (.sl 3 X'),by' C',.imm (.sl 2 L'),.imm (.bools S'),.imm (.bools U'),.imm (.str f)],i64 0]) (Q6.okE n T I X C L S U T' I' X' C' L' S' U' f∧brn (!exV n v L L' f) (K [.agg [i64 0,AV.new (IV.ints IntKind.i64 []),AV.new (IV.bytes []),AV.new (IV.sl 3 []),AV.new (IV.bytes []),AV.new (IV.sl 2 []),AV.new (IV.bools []),AV.new (IV.bools []),AV.new (IV.ints IntKind.i64 []),AV.new (IV.bytes []),AV.new (IV.sl 3 []),AV.new (IV.bytes []),AV.new (IV.sl 2 []),AV.new (IV.bools []),AV.new (IV.bools []),.imm (.str [])],i64 17]) (K [.agg [i64 v,.imm (.ints IntKind.i64 []),
 by' ([]),.imm (.sl 3 [[IV.int IntKind.i32 (0:Int),IV.bool false,IV.int .u8 0]]),by' ([(0:UInt8)]),.imm (.sl 2 []),.imm (.bools []),.imm (.bools []),.imm (.ints IntKind.i64 (av n T T')),by' (av n I I'),.imm (.sl 3 (av n X X')),by' (av n C C'),.imm (.sl 2 (av n L L')),.imm (.bools (av n S S')),.imm (.bools (av n U U')),.imm (.str f)],i64 0])))); brn (decide (v = 1)) (brn (decide (n≤v)) (K [.agg [i64 n,.imm (.ints IntKind.i64 T),by' I,.imm (.sl 3 X),by' C,.imm (.sl 2 L),.imm (.bools S),.imm (.bools U),.imm (.ints IntKind.i64 T'),by' I',.imm (.sl 3 X'),by' C',.imm (.sl 2 L'),.imm (.bools S'),.imm (.bools U'),.imm (.str f)],i64 0]) (Q6.okE n T I X C L S U T' I' X' C' L' S' U' f∧brn (!exV n v L L' f) (K [.agg [i64 0,AV.new (IV.ints IntKind.i64 []),AV.new (IV.bytes []),AV.new (IV.sl 3 []),AV.new (IV.bytes []),AV.new (IV.sl 2 []),AV.new (IV.bools []),AV.new (IV.bools []),AV.new (IV.ints IntKind.i64 []),AV.new (IV.bytes []),AV.new (IV.sl 3 []),AV.new (IV.bytes []),AV.new (IV.sl 2 []),AV.new (IV.bools []),AV.new (IV.bools []),.imm (.str [])],i64 17]) (okVA n T I X C L S U T' I' X' C' L' S' U' f∧K [.agg [i64 v,.imm (.ints IntKind.i64
 (vT (av n T T'))),by' (List.map (renB (vK (av n T T') (av n I I'))) (vJ (av n T T') (av n I I'))),.imm (.sl 3 (sw (av n X X') [] (vK (av n T T') (av n I I')))),by' (av n C C'),.imm (.sl 2 (List.filter isLow (av n L L'))),.imm (.bools (sw (av n S S') false (vK (av n T T') (av n I I')))),.imm (.bools (sw (av n U U') false (vK (av n T T') (av n I I')))),.imm (.ints IntKind.i64 []),by' ([]),.imm (.sl 3 []),by' ([]),.imm (.sl 2 []),.imm (.bools []),.imm (.bools []),.imm (.str [])],i64 0]))) (brn (decide (v = 2)) A12 (brn (decide (v = 3)) A12 (brn (decide (v = 4)) A12 (K [.agg [i64 0,AV.new (IV.ints IntKind.i64 []),AV.new (IV.bytes []),AV.new (IV.sl 3 []),AV.new (IV.bytes []),AV.new (IV.sl 2 []),AV.new (IV.bools []),AV.new (IV.bools []),AV.new (IV.ints IntKind.i64 []),AV.new (IV.bytes []),AV.new (IV.sl 3 []),AV.new (IV.bytes []),AV.new (IV.sl 2 []),AV.new (IV.bools []),AV.new (IV.bools []),.imm (.str [])],i64 18]))))):=by kernel_rfl
theorem ok18:∀ args pres res,sAct args = some (pres,res)→SpecOK Tryz.prog G6 20 args pres res:=by
 intro args pres res h
 unfold sAct at h
 split at h
 case h_2=>cases h
 cases h
 rename_i n T I X C L S U T' I' X' C' L' S' U' f
 refine spec_ok (C:=V18) okH9 noCall_ok Tryz.func20 (by kernel_rfl) (by kernel_rfl) (fun hp=>?_)
 refine Eq.mpr (g18_in n T I X C L S U T' I' X' C' L' S' U' f _) ?_
 unfold av
 exact brn_intro (fun h=>by rw [h]; rfl) (fun h=>by rw [h]; rfl)
theorem ok129:∀ args pres res,sSlim args = some (pres,res)→SpecOK Tryz.prog G6 134 args pres res:=by
 intro args pres res h
 unfold sSlim at h
 split at h
 case h_2=>cases h
 cases h
 have I9_ok:∀ f fn,I9 f = some fn→Tryz.prog.funcs[f]? = some fn∧(fn.name == "runtime.NumGoroutine") = false:=by
  intro f fn h
  unfold I9 at h
  cases h1:Nat.beq f 139 with
  | true=>rw [h1,cond_true] at h; cases h; obtain rfl:=nbeq h1; exact ⟨Tryz.func139,by kernel_rfl⟩
  | false =>
   rw [h1,cond_false] at h
   cases h2:Nat.beq f 140 with
   | true=>rw [h2,cond_true] at h; cases h; obtain rfl:=nbeq h2; exact ⟨Tryz.func140,by kernel_rfl⟩
   | false=>rw [h2,cond_false] at h; cases h
 refine spec_okS (C:=V129) okH9 (inl_ok okH9 I9_ok 3) Tryz.func134 (by kernel_rfl) (by kernel_rfl) (fun hp=>?_)
 exact Eq.mpr (g129_in _) ⟨by decide,by decide,by decide,by decide,rfl⟩
theorem ok120s:∀ args pres res,sViewS args = some (pres,res)→SpecOK Tryz.prog G6 125 args pres res:=by
 intro args pres res h
 unfold sViewS at h
 split at h
 case h_2=>cases h
 cases h
 rename_i T I X C L S U
 exact spec_settle (ok120 [.agg (blk6 T I X C L S U)] [okV T I X C L S U] [.agg [.new (.ints .i64 (vT T)),.new (.bytes ((vJ T I).map (renB (vK T I)))),.new (.sl 3 (sw X [] (vK T I))),.new (.bytes C),.new (.sl 2 (L.filter isLow)),.new (.bools (sw S false (vK T I))),.new (.bools (sw U false (vK T I)))]] rfl)
theorem okH10:EOK Tryz.prog H10 G6:=addE_ok (addE_ok (addE_ok okH9 ok18) ok129) ok120s
theorem ok119:∀ args pres res,sW1 args = some (pres,res)→SpecOK Tryz.prog G6 124 args pres res:=by
 intro args pres res h
 unfold sW1 at h
 split at h
 case h_2=>cases h
 cases h
 rename_i n T I X C L S U T' I' X' C' L' S' U' f v
 refine spec_okS (C:=V119) okH10 noCall_ok Tryz.func124 (by kernel_rfl) (by kernel_rfl) (fun hp=>?_)
 have hV:okVA n T I X C L S U T' I' X' C' L' S' U' f:=hp (okVA n T I X C L S U T' I' X' C' L' S' U' f) (by simp)
 exact Eq.mpr (g119_in n T I X C L S U T' I' X' C' L' S' U' f v _) ⟨hV.v,rfl⟩
theorem ok121:∀ args pres res,sW2 args = some (pres,res)→SpecOK Tryz.prog G6 126 args pres res:=by
 intro args pres res h
 unfold sW2 at h
 split at h
 case h_2=>cases h
 cases h
 rename_i n T I X C L S U T' I' X' C' L' S' U' f v
 refine spec_okS (C:=V119) okH10 noCall_ok Tryz.func126 (by kernel_rfl) (by kernel_rfl) (fun hp=>?_)
 refine Eq.mpr (g121_in n T I X C L S U T' I' X' C' L' S' U' f v _) ?_
 intro E1
 exact ⟨rfl,rfl⟩
theorem okH11:EOK Tryz.prog H11 G6:=addE_ok (addE_ok okH10 ok119) ok121
theorem ok9:∀ args pres res,sExp args = some (pres,res)→SpecOK Tryz.prog G6 9 args pres res:=by
 intro args pres res h
 unfold sExp at h
 split at h
 case h_2=>cases h
 cases h
 rename_i n T I X C L S U T' I' X' C' L' S' U' f v
 refine spec_ok (C:=V9) okH11 noCall_ok Tryz.func9 (by kernel_rfl) (by kernel_rfl) (fun hp=>?_)
 have hE:okE n T I X C L S U T' I' X' C' L' S' U' f:=hp (okE n T I X C L S U T' I' X' C' L' S' U' f) (by simp)
 have hf:=hE.f
 refine Eq.mpr (g9_in n T I X C L S U T' I' X' C' L' S' U' f v _) ⟨by omega,brn_intro (fun h=>?_) (fun h=>⟨fun _=>hE.l,?_⟩)⟩
 ·have:exV n v L L' f = false:=by
   unfold exV extP
   rw [h]; first | done | rfl
  rw [this]; first | done | rfl
 ·have:exV n v L L' f = (decide (v≥4) || !neV (av n L L')):=by
   unfold exV extP
   rw [h]; first | done | rfl
  rw [this]; first | done | rfl
theorem okH12:EOK Tryz.prog H12 G6:=addE_ok okH11 ok9
theorem ok10:∀ args pres res,sTo args = some (pres,res)→SpecOK Tryz.prog G6 6 args pres res:=by
 intro args pres res h
 unfold sTo at h
 split at h
 case h_2=>cases h
 cases h
 rename_i n T I X C L S U T' I' X' C' L' S' U' f v
 refine spec_okS (C:=V10) okH12 noCall_ok Tryz.func6 (by kernel_rfl) (by kernel_rfl) (fun hp=>?_)
 have hO:okTo n T I X C L S U T' I' X' C' L' S' U' f v:=hp (okTo n T I X C L S U T' I' X' C' L' S' U' f v) (by simp)
 have hE:=hO.e
 refine Eq.mpr (g10_in n T I X C L S U T' I' X' C' L' S' U' f v _) ?_
 intro A12
 have wide:2≤v→v≤4→A12:=by
  intro h2 h4
  have c0:(decide (v < 1) || decide (v > 4)) = false:=by
   rw [decide_eq_false (by omega),decide_eq_false (by omega)]; first | done | rfl
  have c1:(v == 1) = false:=beq_eq_false_iff_ne.mpr (by omega)
  refine brn_intro (fun h=>?_) (fun h=>⟨hE,brn_intro (fun hx=>?_) (fun hx=>?_)⟩)
  ·have hc:toC n v L L' f = 1:=by unfold toC; rw [c0,h]; first | done | rfl
   rw [hc]; first | done | rfl
  ·have hx:exV n v L L' f = false:=by simpa using hx
   have hc:toC n v L L' f = 2:=by unfold toC; rw [c0,h,hx]; first | done | rfl
   rw [hc]; first | done | rfl
  ·have hx:exV n v L L' f = true:=by simpa using hx
   have hc:toC n v L L' f = 4:=by unfold toC; rw [c0,h,hx,c1]; first | done | rfl
   rw [hc]; first | done | rfl
 refine brn_intro (fun hv=>?_) (fun h1=>brn_intro (fun hv=>?_) (fun h2=>brn_intro (fun hv=>?_) (fun h3=>brn_intro (fun hv=>?_) (fun h4=>?_))))
 ·have hv:=of_decide_eq_true hv
  have c0:(decide (v < 1) || decide (v > 4)) = false:=by
   rw [decide_eq_false (by omega),decide_eq_false (by omega)]; first | done | rfl
  have c1:(v == 1) = true:=beq_iff_eq.mpr hv
  refine brn_intro (fun h=>?_) (fun h=>⟨hE,brn_intro (fun hx=>?_) (fun hx=>?_)⟩)
  ·have hc:toC n v L L' f = 1:=by unfold toC; rw [c0,h]; first | done | rfl
   rw [hc]; first | done | rfl
  ·have hx:exV n v L L' f = false:=by simpa using hx
   have hc:toC n v L L' f = 2:=by unfold toC; rw [c0,h,hx]; first | done | rfl
   rw [hc]; first | done | rfl
  ·have hx:exV n v L L' f = true:=by simpa using hx
   have hc:toC n v L L' f = 3:=by unfold toC; rw [c0,h,hx,c1]; first | done | rfl
   rw [hc]
   have hn:=of_decide_eq_false h
   exact ⟨⟨hO.v hv (by omega)⟩,rfl⟩
 ·have hv:=of_decide_eq_true hv; exact wide (by omega) (by omega)
 ·have hv:=of_decide_eq_true hv; exact wide (by omega) (by omega)
 ·have hv:=of_decide_eq_true hv; exact wide (by omega) (by omega)
 ·have h1:=of_decide_eq_false h1
  have h2:=of_decide_eq_false h2
  have h3:=of_decide_eq_false h3
  have h4:=of_decide_eq_false h4
  have c0:(decide (v < 1) || decide (v > 4)) = true:=by
   by_cases h:v < 1
   ·rw [decide_eq_true h]; first | done | rfl
   ·rw [decide_eq_true (show v > 4 by omega),Bool.or_true]
  have hc:toC n v L L' f = 0:=by unfold toC; rw [c0]; first | done | rfl
  rw [hc]; first | done | rfl
theorem okH13:EOK Tryz.prog H13 G6:=addE_ok okH12 ok10
end Q6
set_option maxRecDepth 100000
namespace PF
open Go Go.AE Go.Proofs PE
noncomputable section
def cells (l:List AV):Ob:=⟨true,0,.cells l⟩
structure Pz where
 (s:List UInt8) (o:Int) (h:Bool) (t:List UInt8) (p:Int)
 (a b c d e f a' b' c' d' e' f' er at':Int)
def pzV (s:List UInt8):Pz:=⟨(P9.ruP s).a,(P9.ruP s).o,(P9.ruP s).h,(P9.ruP s).b,(P9.ruP s).p,(P9.ruP s).S.k,(P9.ruP s).S.d,(P9.ruP s).S.m,(P9.ruP s).S.w,(P9.ruP s).S.e,(P9.ruP s).S.t,(P9.ruP s).E.k,(P9.ruP s).E.d,(P9.ruP s).E.m,(P9.ruP s).E.w,(P9.ruP s).E.e,(P9.ruP s).E.t,P9.whyP s,P9.atP s⟩
def sPz:List AV→Option (List Prop×List AV)
 | [.imm (.str s)]=>some ([(s.length:Int)≤1000000],[.agg (ruC (pzV s).s (pzV s).o (pzV s).h (pzV s).t (pzV s).p (rdC (pzV s).a (pzV s).b (pzV s).c (pzV s).d (pzV s).e (pzV s).f) (rdC (pzV s).a' (pzV s).b' (pzV s).c' (pzV s).d' (pzV s).e' (pzV s).f')),i64 (pzV s).er,i64 (pzV s).at'])
 | _=>none
def s59:List AV→Option (List Prop×List AV)
 | [.imm (.bytes b)]=>some ([(b.length:Int)≤1000000],[bo (badV b == -1)])
 | _=>none
def N12q:Cx:=⟨Tryz.prog,Q6.H13,noCall,G16,4003⟩
def F34:=addE (addE (addE Q6.H13 53 s59) 22 sPz) 23 sExt
def N22:Cx:=⟨Tryz.prog,F34,noCall,G16,4011⟩
def blC (T:List Int) (I:List UInt8) (X:List Ty) (C:List UInt8) (L:List Lp) (S U:List Bool):List AV:=[ii T,by' I,xT X,by' C,xL L,oo S,oo U]
def k37 (T:List Int) (I:List UInt8) (X:List Ty) (C:List UInt8) (L:List Lp) (S U:List Bool) (v s n i:Int):St:=⟨spr [(1,i64 v),(2,i64 s),(3,.ptr 0 0),(7,i64 n),(8,i64 i)] 0 121,[(0,cells (blC T I X C L S U))],1,[]⟩
def q37:Plan:=⟨[],msk [1,2,3,7,8] 0 121,[0]⟩
def k37b (T:List Int) (I:List UInt8) (X:List Ty) (C:List UInt8) (L:List Lp) (S U:List Bool) (v n i:Int):St:=⟨spr [(1,i64 v),(3,.ptr 0 0),(7,i64 n),(9,i64 i)] 0 121,[(0,cells (blC T I X C L S U))],1,[]⟩
def q37b:Plan:=⟨[],msk [1,3,7,9] 0 121,[0]⟩
end
attribute [local irreducible] loopK evCode evSpec loopB norm
theorem ok41e:∀ args pres res,sPz args = some (pres,res)→SpecOK Tryz.prog G16 22 args pres res:=by
 intro args pres res h
 unfold sPz at h
 split at h
 case h_2=>cases h
 cases h
 rename_i s
 have key:=PA.ok21 [.imm (.str s)] [(s.length:Int)≤1000000000000000000] [.agg (P9.ruP s).cells,i64 (P9.whyP s),i64 (P9.atP s)] rfl
 refine ⟨key.fn,fun hp=>key.calls (fun p hm=>?_)⟩
 have h1:(s.length:Int)≤1000000:=hp _ (by simp)
 rw [List.mem_singleton] at hm
 rw [hm]; omega
theorem ok42e:∀ args pres res,sExt args = some (pres,res)→SpecOK Tryz.prog G16 23 args pres res:=by
 intro args pres res h
 unfold sExt at h
 split at h
 case h_2=>cases h
 cases h
 exact PA.ok18 _ _ _ rfl
theorem g59_in (b:List UInt8) (K:List AV→Prop):evSpec N12q Tryz.f53 [by' b] K =
 ((↑(List.length b):Int)≤(1000000:Int)∧K [AV.imm (IV.bool (badV b == (-1:Int)))]):=by kernel_rfl
theorem f59_ev (b:List UInt8) (hl:(b.length:Int)≤1000000) (K:List AV→Prop) (hK:K [bo (badV b == -1)]):evSpec N12q Tryz.f53 [by' b] K:=by
 rw [g59_in]
 exact ⟨hl,hK⟩
theorem ok59e:∀ args pres res,s59 args = some (pres,res)→SpecOK Tryz.prog G16 53 args pres res:=by
 intro args pres res h
 unfold s59 at h
 split at h
 case h_2=>cases h
 cases h
 exact spec_ok (C:=N12q) Q6.okH13 noCall_ok Tryz.func53 (by kernel_rfl) (by kernel_rfl) (fun hp=>f59_ev _ (hp _ (by simp)) _ rfl)
theorem okF34:EOK Tryz.prog F34 G16:=addE_ok (addE_ok (addE_ok Q6.okH13 ok59e) ok41e) ok42e
theorem vDay_of {k d m w e t:Int} (h:P9.validDay k d m w e t = true):vDay k d m w e t = true:=by
 unfold P9.validDay at h
 simp only [Bool.and_eq_true,Bool.or_eq_true,decide_eq_true_eq,beq_iff_eq] at h
 obtain ⟨⟨t0,t1⟩,h⟩:=h
 unfold vDay
 have e0:(decide (t < -604799) || decide (t > 604799)) = false:=by
  rw [decide_eq_false (by omega),decide_eq_false (by omega)]; first | done | rfl
 rw [e0]
 rcases h with ⟨⟨⟨⟨⟨⟨k0 | k0,m0⟩,w0⟩,e1⟩,d0⟩,d1⟩,hk⟩ | ⟨⟨⟨⟨⟨⟨⟨k0,d0⟩,m0⟩,m1⟩,w0⟩,w1⟩,e1⟩,e2⟩
 ·subst k0 m0 w0 e1
  rcases hk with hk | hk
  ·omega
  ·simp; omega
 ·subst k0 m0 w0 e1
  simp; omega
 ·subst k0 d0
  simp; omega
theorem pz_ru {s:List UInt8} (h:(pzV s).er = 0):okRu (pzV s).o (pzV s).p (pzV s).h (vDay (pzV s).a (pzV s).b (pzV s).c (pzV s).d (pzV s).e (pzV s).f) (vDay (pzV s).a' (pzV s).b' (pzV s).c' (pzV s).d' (pzV s).e' (pzV s).f'):=by
 have hk:PA.okP s = true:=by
  show (P9.whyP s == 0) = true
  rw [show P9.whyP s = 0 from h]; first | done | rfl
 obtain ⟨_,hv⟩:=PA.okP_rule hk
 obtain ⟨_,o0,o1,ht,hf⟩:=PA.rule_parts hv
 refine ⟨by show -100000≤(P9.ruP s).o; omega,by show (P9.ruP s).o≤100000; omega,?_,?_,fun hh=>?_⟩
 ·show -200000≤(P9.ruP s).p
  cases hh:(P9.ruP s).h with
  | true=>have:=(ht hh).2.1; omega
  | false=>have:=(hf hh).2.1; omega
 ·show (P9.ruP s).p≤200000
  cases hh:(P9.ruP s).h with
  | true=>have:=(ht hh).2.2.1; omega
  | false=>have:=(hf hh).2.1; omega
 ·have q:=ht hh
  exact ⟨vDay_of q.2.2.2.1,vDay_of q.2.2.2.2⟩
end PF
set_option maxRecDepth 100000
namespace PF
open Go Go.AE Go.Proofs PE
attribute [local irreducible] loopK evCode evSpec loopB norm
theorem g37_in (T:List Int) (I:List UInt8) (X:List Ty) (C:List UInt8) (L:List Lp) (S:List Bool) (U:List Bool) (v:Int) (s:Int) (K:List AV→Prop):evSpec N22 Tryz.f25 [.agg (blC T I X C L S U),i64 v,i64 s] K = (brn ((I.length:Int) != (T.length:Int) || (↑(List.map cellsT X).length:Int) == 0 || (C.length:Int) == 0 || (S.length:Int) != 0 && (S.length:Int) != (↑(List.map cellsT X).length:Int) || (U.length:Int) != 0 && (U.length:Int) != (↑(List.map cellsT X).length:Int)) (K [i64 6]) (sz48 s∧(T.length:Int)≤big∧brn (!fitP T s) (K [i64 18]) (LoopI N22 (bodyOf Tryz.f25) 0 (St.mk (lapp [.agg [.imm (.ints IntKind.i64 T),by' I,.imm (.sl 3 (List.map cellsT X)),by' C,.imm (.sl 2 (List.map cellsL L)),.imm (.bools S),.imm (.bools U)],i64 v,i64 s,.ptr 0 0,.dead,.dead,i64 0,i64 (↑(List.map cellsT X).length:Int),i64 0] (dN 112)) [(0,Ob.mk true 0 (AObj.cells [.imm (.ints IntKind.i64 T),by' I,.imm (.sl 3 (List.map cellsT X)),by' C,.imm (.sl 2 (List.map cellsL L)),.imm (.bools S),.imm (.bools U)]))] 1 []) (finK N22 Tryz.f25 K)))):=by kernel_rfl
theorem g37_lp (T:List Int) (I:List UInt8) (X:List Ty) (C:List UInt8) (L:List Lp) (S:List Bool) (U:List Bool) (v:Int) (s:Int) (n:Int) (i:Int) (k:AX→St→Prop):evCode N22 (loopB (bodyOf Tryz.f25) 0) (k37 T I X C L S U v s n i) k = (brn (decide (i < (↑(List.map cellsL L).length:Int))) ((0:Int)≤i∧i < (↑(List.map cellsL L).length:Int)∧kcells (List.getD (List.map cellsL L) i.toNat []) 0 (lapp [CK.int IntKind.i64] (lapp [CK.int IntKind.i32] [])) = List.getD (List.map cellsL L) i.toNat []∧sz48 s∧brn (!fitsP (ivInt (ivNth (List.getD (List.map cellsL L) i.toNat []) 0)) s) (k AX.ret (St.mk (lapp [.dead,i64 v,i64 s,.ptr 0 0,.dead,.dead,i64 18,i64 n,i64 i] (dN 112)) [(0,Ob.mk true 0 (AObj.cells [.imm (.ints IntKind.i64 T),by' I,.imm (.sl 3 (List.map cellsT X)),by' C,.imm (.sl 2 (List.map cellsL L)),.imm (.bools S),.imm (.bools U)]))] 1 [])) (k AX.normal (St.mk (lapp [.dead,i64 v,i64 s,.ptr 0 0,.dead,.dead,.dead,i64 n,i64 (IntKind.wrap .i64 (i + 1))] (lapp (dN 58) (lapp [i64 i,i64 (IntKind.wrap .i64 (i + 1))] (dN 52)))) [(0,Ob.mk true 0 (AObj.cells [.imm (.ints IntKind.i64 T),by' I,.imm (.sl 3 (List.map cellsT X)),by' C,
 .imm (.sl 2 (List.map cellsL L)),.imm (.bools S),.imm (.bools U)]))] 1 []))) (k (AX.exit 0) (St.mk (lapp [.dead,i64 v,i64 s,.ptr 0 0,.dead,.dead,.dead,i64 n,i64 i] (lapp (dN 53) (lapp [i64 i,.ptr 0 4,.imm (.sl 2 (List.map cellsL L)),i64 (↑(List.map cellsL L).length:Int),bo (decide (i < (↑(List.map cellsL L).length:Int)))] (dN 54)))) [(0,Ob.mk true 0 (AObj.cells [.imm (.ints IntKind.i64 T),by' I,.imm (.sl 3 (List.map cellsT X)),by' C,.imm (.sl 2 (List.map cellsL L)),.imm (.bools S),.imm (.bools U)]))] 1 []))):=by kernel_rfl
theorem g37_lp2 (T:List Int) (I:List UInt8) (X:List Ty) (C:List UInt8) (L:List Lp) (S:List Bool) (U:List Bool) (v:Int) (n:Int) (i:Int) (k:AX→St→Prop):evCode N22 (loopB (bodyOf Tryz.f25) 1) (k37b T I X C L S U v n i) k = (brn (decide (i < (I.length:Int))) ((0:Int)≤i∧i < (I.length:Int)∧brn (decide (IntKind.wrap .i64 (↑(UInt8.toNat (List.getD I i.toNat (0:UInt8))):Int)≥n)) (k AX.ret (St.mk (lapp [.dead,i64 v,.dead,.ptr 0 0,.dead,.dead,i64 8,i64 n,.dead,i64 i] (dN 111)) [(0,Ob.mk true 0 (AObj.cells [.imm (.ints IntKind.i64 T),by' I,.imm (.sl 3 (List.map cellsT X)),by' C,.imm (.sl 2 (List.map cellsL L)),.imm (.bools S),.imm (.bools U)]))] 1 [])) (k AX.normal (St.mk (lapp [.dead,i64 v,.dead,.ptr 0 0,.dead,.dead,.dead,i64 n,.dead,i64 (IntKind.wrap .i64 (i + 1))] (lapp (dN 77) (lapp [i64 i,i64 (IntKind.wrap .i64 (i + 1))] (dN 32)))) [(0,Ob.mk true 0 (AObj.cells [.imm (.ints IntKind.i64 T),by' I,.imm (.sl 3 (List.map cellsT X)),by' C,.imm (.sl 2 (List.map cellsL L)),.imm (.bools S),.imm (.bools U)]))] 1 []))) (k (AX.exit 2) (St.mk (lapp [.dead,i64 v,.dead,.ptr 0 0,.dead,.dead,.dead,i64 n,.dead,i64 i]
 (lapp (dN 72) (lapp [i64 i,.ptr 0 1,by' I,i64 (I.length:Int),bo (decide (i < (I.length:Int)))] (dN 34)))) [(0,Ob.mk true 0 (AObj.cells [.imm (.ints IntKind.i64 T),by' I,.imm (.sl 3 (List.map cellsT X)),by' C,.imm (.sl 2 (List.map cellsL L)),.imm (.bools S),.imm (.bools U)]))] 1 []))):=by kernel_rfl
theorem g37_out (T:List Int) (I:List UInt8) (X:List Ty) (C:List UInt8) (L:List Lp) (S:List Bool) (U:List Bool) (v:Int) (s:Int) (n:Int) (i:Int) (K:List AV→Prop):loopK N22 (bodyOf Tryz.f25) 0 (finK N22 Tryz.f25 K) (AX.exit 0) (St.mk (let y:=let y:=let y:=let y:=let y:=[.dead,.dead,.dead,.dead]; AV.dead :: AV.dead :: AV.dead :: AV.dead :: y; let y:=AV.dead :: AV.dead :: AV.dead :: AV.dead :: y; AV.dead :: AV.dead :: AV.dead :: AV.dead :: y; let y:=let y:=AV.dead :: AV.dead :: AV.dead :: AV.dead :: y; AV.dead :: AV.dead :: AV.dead :: AV.dead :: y; AV.dead :: AV.dead :: AV.dead :: AV.dead :: AV.dead :: AV.dead :: AV.dead :: y; let y:=let y:=let y:=AV.dead :: AV.dead :: AV.dead :: AV.dead :: y; AV.dead :: AV.dead :: AV.dead :: AV.dead :: y; AV.dead :: AV.dead :: AV.dead :: AV.dead :: AV.dead :: AV.dead :: AV.dead :: y; let y:=let y:=AV.dead :: AV.dead :: AV.dead :: AV.dead :: y; AV.dead :: AV.dead :: AV.dead :: AV.dead :: y; AV.dead :: AV.dead :: i64 i :: AV.ptr 0 4 :: AV.imm (.sl 2 (List.map cellsL L)) :: i64 (↑(List.map cellsL L).length:Int) :: bo (decide (i < (↑(List.map cellsL L).length:Int))) :: y; let y:=let y:=let y:=let y:=AV.dead :: AV.dead :: AV.dead :: AV.dead :: y; AV.dead :: AV.dead :: AV.dead :: AV.dead :: y; AV.dead :: AV.dead :: AV.dead :: AV.dead :: AV.dead :: AV.dead :: AV.dead :: y; let y:=let y:=AV.dead :: AV.dead :: AV.dead :: AV.dead :: y; AV.dead :: AV.dead :: AV.dead :: AV.dead :: y; AV.dead :: AV.dead :: AV.dead :: AV.dead :: AV.dead :: AV.dead :: AV.dead :: y; let y:=let y:=let y:=AV.dead :: AV.dead :: AV.dead :: AV.dead :: y; AV.dead :: AV.dead :: AV.dead :: AV.dead :: y; AV.dead :: AV.dead :: AV.dead :: AV.dead :: AV.dead :: AV.dead :: AV.dead :: y; let y:=let y:=AV.dead :: AV.dead :: AV.dead :: AV.dead :: y; i64 n :: i64 i :: AV.dead :: AV.dead :: y; AV.dead :: i64 v :: i64 s :: AV.ptr 0 0 :: AV.dead :: AV.dead :: AV.dead :: y) [(0,Ob.mk true 0 (AObj.cells [.imm (.ints IntKind.i64 T),by' I,.imm (.sl 3 (List.map cellsT X)),by' C,.imm (.sl 2 (List.map cellsL L)),.imm (.bools S),.imm (.bools U)]))] 1 []) = ((T.length:Int)≤1000000∧brn (desV T != (-1:Int)) (K [i64 7]) (LoopI N22 (bodyOf Tryz.f25) 1 (St.mk (lapp [.dead,i64 v,i64 s,.ptr 0 0,.dead,.dead,.dead,i64 n,i64 i,i64 0] (dN 111)) [(0,Ob.mk true 0 (AObj.cells [.imm (.ints IntKind.i64 T),by' I,.imm (.sl 3 (List.map cellsT X)),by' C,.imm (.sl 2 (List.map cellsL L)),.imm (.bools S),.imm (.bools U)]))] 1 []) (finK N22 Tryz.f25 K))):=by kernel_rfl
theorem g37_out2 (T:List Int) (I:List UInt8) (X:List Ty) (C:List UInt8) (L:List Lp) (S:List Bool) (U:List Bool) (v:Int) (n:Int) (i:Int) (K:List AV→Prop):loopK N22 (bodyOf Tryz.f25) 1 (finK N22 Tryz.f25 K) (AX.exit 2) (St.mk (let y:=let y:=let y:=let y:=let y:=[.dead,.dead,.dead,.dead]; AV.dead :: AV.dead :: AV.dead :: AV.dead :: y; let y:=AV.dead :: AV.dead :: AV.dead :: AV.dead :: y; AV.dead :: AV.dead :: AV.dead :: AV.dead :: y; let y:=let y:=AV.dead :: AV.dead :: AV.dead :: AV.dead :: y; AV.dead :: AV.dead :: AV.dead :: AV.dead :: y; AV.dead :: AV.dead :: AV.dead :: AV.dead :: AV.dead :: AV.dead :: AV.dead :: y; let y:=let y:=let y:=bo (decide (i < (I.length:Int))) :: AV.dead :: AV.dead :: AV.dead :: y; i64 i :: AV.ptr 0 1 :: by' I :: i64 (I.length:Int) :: y; AV.dead :: AV.dead :: AV.dead :: AV.dead :: AV.dead :: AV.dead :: AV.dead :: y; let y:=let y:=AV.dead :: AV.dead :: AV.dead :: AV.dead :: y; AV.dead :: AV.dead :: AV.dead :: AV.dead :: y; AV.dead :: AV.dead :: AV.dead :: AV.dead :: AV.dead :: AV.dead :: AV.dead :: y; let y:=let y:=let y:=let y:=AV.dead :: AV.dead :: AV.dead :: AV.dead :: y; AV.dead :: AV.dead :: AV.dead :: AV.dead :: y; AV.dead :: AV.dead :: AV.dead :: AV.dead :: AV.dead :: AV.dead :: AV.dead :: y; let y:=let y:=AV.dead :: AV.dead :: AV.dead :: AV.dead :: y; AV.dead :: AV.dead :: AV.dead :: AV.dead :: y; AV.dead :: AV.dead :: AV.dead :: AV.dead :: AV.dead :: AV.dead :: AV.dead :: y; let y:=let y:=let y:=AV.dead :: AV.dead :: AV.dead :: AV.dead :: y; AV.dead :: AV.dead :: AV.dead :: AV.dead :: y; AV.dead :: AV.dead :: AV.dead :: AV.dead :: AV.dead :: AV.dead :: AV.dead :: y; let y:=let y:=AV.dead :: AV.dead :: AV.dead :: AV.dead :: y; i64 n :: AV.dead :: i64 i :: AV.dead :: y; AV.dead :: i64 v :: AV.dead :: AV.ptr 0 0 :: AV.dead :: AV.dead :: AV.dead :: y) [(0,Ob.mk true 0 (AObj.cells [.imm (.ints IntKind.i64 T),by' I,.imm (.sl 3 (List.map cellsT X)),by' C,.imm (.sl 2 (List.map cellsL L)),.imm (.bools S),.imm (.bools U)]))] 1 []) = (okT (List.map cellsT X)∧(↑(List.map cellsT X).length:Int)≤1000000∧brn (chkV (tys (List.map cellsT X)) (C.length:Int) != 0) (K [i64 (chkV (tys (List.map cellsT X)) (C.length:Int))]) ((C.length:Int)≤1000000∧brn (!badV C == (-1:Int)) (K [i64 11]) (okL (List.map cellsL L)∧(↑(List.map cellsL L).length:Int)≤1000000∧brn (!lvV (lps (List.map cellsL L)) v) (K [i64 12]) ((U.length:Int)≤1000000∧brn (!conV S U) (K [i64 13]) (K [i64 0]))))):=by kernel_rfl
def okBl (T:List Int) (I:List UInt8) (X:List Ty) (C:List UInt8) (S U:List Bool):Prop :=
 I.length = T.length∧X.length≠0∧C.length≠0∧(S.length = 0∨S.length = X.length)∧(U.length = 0∨U.length = X.length)∧∀ j:Nat,j < I.length→(I.getD j 0).toNat < X.length
noncomputable def okBd (T:List Int) (I:List UInt8) (X:List Ty) (C:List UInt8) (L:List Lp) (S U:List Bool) (v:Int):Prop:=okBl T I X C S U∧desV T = -1∧lvV (lps (L.map cellsL)) v = true
theorem wrapB (c:UInt8):IntKind.wrap .i64 (c.toNat:Int) = (c.toNat:Int):=by
 have:=c.toNat_lt
 exact wrap64 (by omega) (by omega)
theorem lens_or {a b:Nat} (h:((a:Int) != (0:Int) && (a:Int) != (b:Int)) = false):a = 0∨a = b:=by
 rcases Nat.eq_zero_or_pos a with h0 | h0
 ·exact .inl h0
 ·refine .inr ?_
  have h1:((a:Int) != (0:Int)) = true:=bne_iff_ne.mpr (by omega)
  rw [h1,Bool.true_and] at h
  have:=bne_eq_false_iff_eq.mp h
  omega
theorem bl_ex (T:List Int) (I:List UInt8) (X:List Ty) (C:List UInt8) (L:List Lp) (S U:List Bool) (v s:Int) (hT:okT (X.map cellsT)) (hL:okL (L.map cellsL)) (hs:sz48 s)
  (l1:(T.length:Int)≤1000000) (l2:(I.length:Int)≤1000000) (l3:(X.length:Int)≤1000000) (l4:(C.length:Int)≤1000000) (l5:(L.length:Int)≤1000000) (l6:(U.length:Int)≤1000000) :
  ∃ r:Int,(r = 0→okBd T I X C L S U v)∧∀ K:List AV→Prop,K [i64 r]→evSpec N22 Tryz.f25 [.agg (blC T I X C L S U),i64 v,i64 s] K:=by
 have hlX:(X.map cellsT).length = X.length:=List.length_map _
 have hlL:(L.map cellsL).length = L.length:=List.length_map _
 have hbig:(1000000:Int)≤big:=by unfold big; decide
 cases c0:((I.length:Int) != (T.length:Int) || ((X.map cellsT).length:Int) == 0 || (C.length:Int) == 0 || ((S.length:Int) != 0 && (S.length:Int) != ((X.map cellsT).length:Int)) || ((U.length:Int) != 0 && (U.length:Int) != ((X.map cellsT).length:Int))) with
 | true =>
  refine ⟨6,fun h=>absurd h (by decide),fun K hK=>?_⟩
  rw [g37_in]
  exact brn_T c0 hK
 | false =>
  have c0':=c0
  simp only [Bool.or_eq_false_iff] at c0'
  obtain ⟨⟨⟨⟨d1,d2⟩,d3⟩,d4⟩,d5⟩:=c0'
  have f1:I.length = T.length:=by
   have:=bne_eq_false_iff_eq.mp d1
   omega
  have f2:X.length≠0:=fun h=>by rw [hlX,h] at d2; exact absurd d2 (by decide)
  have f3:C.length≠0:=fun h=>by rw [h] at d3; exact absurd d3 (by decide)
  have f4:=lens_or d4
  have f5:=lens_or d5
  rw [hlX] at f4 f5
  cases hf:fitP T s with
  | false =>
   refine ⟨18,fun h=>absurd h (by decide),fun K hK=>?_⟩
   rw [g37_in]
   exact brn_Fa c0 ⟨hs,by omega,brn_T (by rw [hf]; rfl) hK⟩
  | true =>
   have second:desV T = -1→∃ r:Int,(r = 0→okBd T I X C L S U v)∧∀ K:List AV→Prop,K [i64 r]→∀ p st,norm p st = some (k37b T I X C L S U v ((X.map cellsT).length:Int) 0)→evCode N22 (.loop (loopB (bodyOf Tryz.f25) 1)) st (loopK N22 (bodyOf Tryz.f25) 1 (finK N22 Tryz.f25 K)):=by
    intro hd1
    refine loop_det (C:=N22) (c:=loopB (bodyOf Tryz.f25) 1) (fun i:Int=>k37b T I X C L S U v ((X.map cellsT).length:Int) i) (fun i=>0≤i∧i≤I.length∧∀ j:Nat,(j:Int) < i→(I.getD j 0).toNat < X.length) (fun i=>((I.length:Int) - i).toNat) (fun r:Int=>r = 0→okBd T I X C L S U v) (fun r=>[i64 r])
     (fun K=>loopK N22 (bodyOf Tryz.f25) 1 (finK N22 Tryz.f25 K)) rfl (fun i hi=>?_) 0 ⟨Int.le_refl 0,by omega,fun j hj=>by omega⟩
    obtain ⟨i1,i2,i3⟩:=hi
    by_cases h:i < I.length
    ·have hw:IntKind.wrap .i64 (i + 1) = i + 1:=w1 i1 (by omega)
     by_cases hx:IntKind.wrap .i64 ((I.getD i.toNat 0).toNat:Int)≥((X.map cellsT).length:Int)
     ·refine .inr ⟨.ret,_,by simp,fun K' hK'=>by
       rw [g37_lp2]
       exact brn_T (decide_eq_true h) ⟨i1,h,brn_T (decide_eq_true hx) hK'⟩,8,fun h=>absurd h (by decide),fun K hK=>?_⟩
      exact Eq.mp (by kernel_rfl) hK
     ·refine .inl ⟨i + 1,q37b,_,⟨by omega,by omega,fun j hj=>?_⟩,by omega,?_,fun K' hK'=>by
       rw [g37_lp2,hw]
       exact brn_T (decide_eq_true h) ⟨i1,h,brn_Fa (decide_eq_false hx) hK'⟩⟩
      ·by_cases hji:(j:Int) = i
       ·have e:j = i.toNat:=by omega
        rw [wrapB,hlX] at hx
        rw [e]; omega
       ·exact i3 j (by omega)
      ·kernel_rfl
    ·have hfin:okBl T I X C S U:=⟨f1,f2,f3,f4,f5,fun j hj=>i3 j (by omega)⟩
     have e1:tys (X.map cellsT) = tys (X.map cellsT):=rfl
     cases k1:(chkV (tys (X.map cellsT)) (C.length:Int) != 0) with
     | true =>
      refine .inr ⟨.exit 2,_,by simp,fun K' hK'=>by
       rw [g37_lp2]
       exact brn_Fa (decide_eq_false h) hK',chkV (tys (X.map cellsT)) (C.length:Int),fun h=>absurd h (bne_iff_ne.mp k1),fun K hK=>?_⟩
      have key:=Eq.mpr (g37_out2 T I X C L S U v ((X.map cellsT).length:Int) i K) ⟨hT,by rw [hlX]; exact l3,brn_T k1 hK⟩
      exact Eq.mp (by kernel_rfl) key
     | false =>
      cases k2:(!badV C == -1) with
      | true =>
       refine .inr ⟨.exit 2,_,by simp,fun K' hK'=>by
        rw [g37_lp2]
        exact brn_Fa (decide_eq_false h) hK',11,fun h=>absurd h (by decide),fun K hK=>?_⟩
       have key:=Eq.mpr (g37_out2 T I X C L S U v ((X.map cellsT).length:Int) i K) ⟨hT,by rw [hlX]; exact l3,brn_Fa k1 ⟨l4,brn_T k2 hK⟩⟩
       exact Eq.mp (by kernel_rfl) key
      | false =>
       cases k3:(!lvV (lps (L.map cellsL)) v) with
       | true =>
        refine .inr ⟨.exit 2,_,by simp,fun K' hK'=>by
         rw [g37_lp2]
         exact brn_Fa (decide_eq_false h) hK',12,fun h=>absurd h (by decide),fun K hK=>?_⟩
        have key:=Eq.mpr (g37_out2 T I X C L S U v ((X.map cellsT).length:Int) i K) ⟨hT,by rw [hlX]; exact l3,brn_Fa k1 ⟨l4,brn_Fa k2 ⟨hL,by rw [hlL]; exact l5,brn_T k3 hK⟩⟩⟩
        exact Eq.mp (by kernel_rfl) key
       | false =>
        cases k4:(!conV S U) with
        | true =>
         refine .inr ⟨.exit 2,_,by simp,fun K' hK'=>by
          rw [g37_lp2]
          exact brn_Fa (decide_eq_false h) hK',13,fun h=>absurd h (by decide),fun K hK=>?_⟩
         have key:=Eq.mpr (g37_out2 T I X C L S U v ((X.map cellsT).length:Int) i K) ⟨hT,by rw [hlX]; exact l3,brn_Fa k1 ⟨l4,brn_Fa k2 ⟨hL,by rw [hlL]; exact l5,brn_Fa k3 ⟨l6,brn_T k4 hK⟩⟩⟩⟩
         exact Eq.mp (by kernel_rfl) key
        | false =>
         refine .inr ⟨.exit 2,_,by simp,fun K' hK'=>by
          rw [g37_lp2]
          exact brn_Fa (decide_eq_false h) hK',0,fun _=>⟨hfin,hd1,by simpa using k3⟩,fun K hK=>?_⟩
         have key:=Eq.mpr (g37_out2 T I X C L S U v ((X.map cellsT).length:Int) i K) ⟨hT,by rw [hlX]; exact l3,brn_Fa k1 ⟨l4,brn_Fa k2 ⟨hL,by rw [hlL]; exact l5,brn_Fa k3 ⟨l6,brn_Fa k4 hK⟩⟩⟩⟩
         exact Eq.mp (by kernel_rfl) key
   refine Exists.elim (loop_det (C:=N22) (c:=loopB (bodyOf Tryz.f25) 0) (fun i:Int=>k37 T I X C L S U v s ((X.map cellsT).length:Int) i) (fun i=>0≤i∧i≤L.length) (fun i=>((L.length:Int) - i).toNat) (fun r:Int=>r = 0→okBd T I X C L S U v) (fun r=>[i64 r])
    (fun K=>loopK N22 (bodyOf Tryz.f25) 0 (finK N22 Tryz.f25 K)) rfl (fun i hi=>?_) 0 ⟨Int.le_refl 0,by omega⟩) (fun r hr=>?_)
   ·obtain ⟨i1,i2⟩:=hi
    by_cases h:i < L.length
    ·have hb:i < ((L.map cellsL).length:Int):=by rw [hlL]; exact h
     have hk:=kcL i1 h
     have hw:IntKind.wrap .i64 (i + 1) = i + 1:=w1 i1 (by omega)
     cases hx:(!fitsP (ivInt (ivNth (List.getD (List.map cellsL L) i.toNat []) 0)) s) with
     | true =>
      refine .inr ⟨.ret,_,by simp,fun K' hK'=>by
       rw [g37_lp]
       exact brn_T (decide_eq_true hb) ⟨i1,hb,hk,hs,brn_T hx hK'⟩,18,fun h=>absurd h (by decide),fun K hK=>?_⟩
      exact Eq.mp (by kernel_rfl) hK
     | false =>
      refine .inl ⟨i + 1,q37,_,⟨by omega,by omega⟩,by omega,?_,fun K' hK'=>by
       rw [g37_lp,hw]
       exact brn_T (decide_eq_true hb) ⟨i1,hb,hk,hs,brn_Fa hx hK'⟩⟩
      kernel_rfl
    ·have hb:¬ i < ((L.map cellsL).length:Int):=by rw [hlL]; exact h
     cases hd:(desV T != -1) with
     | true =>
      refine .inr ⟨.exit 0,_,by simp,fun K' hK'=>by
       rw [g37_lp]
       exact brn_Fa (decide_eq_false hb) hK',7,fun h=>absurd h (by decide),fun K hK=>?_⟩
      have key:=Eq.mpr (g37_out T I X C L S U v s ((X.map cellsT).length:Int) i K) ⟨l1,brn_T hd hK⟩
      exact Eq.mp (by kernel_rfl) key
     | false =>
      obtain ⟨r,hr,hk⟩:=second (bne_eq_false_iff_eq.mp hd)
      refine .inr ⟨.exit 0,_,by simp,fun K' hK'=>by
       rw [g37_lp]
       exact brn_Fa (decide_eq_false hb) hK',r,hr,fun K hK=>?_⟩
      have key:=Eq.mpr (g37_out T I X C L S U v s ((X.map cellsT).length:Int) i K) ⟨l1,brn_Fa hd (by
       unfold LoopI
       exact hk K hK q37b _ (by kernel_rfl))⟩
      exact Eq.mp (by kernel_rfl) key
   ·obtain ⟨hr',hk⟩:=hr
    refine ⟨r,hr',fun K hK=>?_⟩
    rw [g37_in]
    refine brn_Fa c0 ⟨hs,by omega,brn_Fa (by rw [hf]; rfl) ?_⟩
    unfold LoopI
    exact hk K hK q37 _ (by kernel_rfl)
end PF
set_option maxRecDepth 100000
namespace PF
open Go Go.AE Go.Proofs PE
noncomputable section
def blV (T:List Int) (I:List UInt8) (X:List Ty) (C:List UInt8) (L:List Lp) (S U:List Bool) (n s:Int):Int:=Classical.epsilon fun v:Int=>(v = 0→okBd T I X C L S U n)∧∀ K:List AV→Prop,K [i64 v]→evSpec N22 Tryz.f25 [.agg (blC T I X C L S U),i64 n,i64 s] K
def okBp (T:List Int) (I:List UInt8) (X:List (List IV)) (C:List UInt8) (L:List (List IV)) (S U:List Bool):Prop :=
 okT X∧okL L∧(T.length:Int)≤1000000∧(I.length:Int)≤1000000∧(X.length:Int)≤1000000∧(C.length:Int)≤1000000∧(L.length:Int)≤1000000∧(U.length:Int)≤1000000
def sBlk:List AV→Option (List Prop×List AV)
 | [.agg [.imm (.ints .i64 T),.imm (.bytes I),.imm (.sl 3 X),.imm (.bytes C),.imm (.sl 2 L),.imm (.bools S),.imm (.bools U)],.imm (.int .i64 n),.imm (.int .i64 s)]=>some ([okBp T I X C L S U,sz48 s],[i64 (blV T I (tys X) C (lps L) S U n s)])
 | _=>none
noncomputable def F35:=addE F34 25 sBlk
def N23:Cx:=⟨Tryz.prog,F35,noCall,G16,4010⟩
def fiC (v:Int) (T:List Int) (I:List UInt8) (X:List (List IV)) (C:List UInt8) (L:List (List IV)) (S U:List Bool) (T':List Int) (I':List UInt8) (X':List (List IV)) (C':List UInt8) (L':List (List IV)) (S' U':List Bool) (f:List UInt8):List AV :=
 [i64 v,ii T,by' I,.imm (.sl 3 X),by' C,.imm (.sl 2 L),oo S,oo U,ii T',by' I',.imm (.sl 3 X'),by' C',.imm (.sl 2 L'),oo S',oo U',.imm (.str f)]
end
noncomputable section
def atO (s:List UInt8) (o:Int) (h:Bool) (t:List UInt8) (p a b c d e f a' b' c' d' e' f' x:Int):Int:=bif onV (ruC s o h t p (rdC a b c d e f) (rdC a' b' c' d' e' f')) (splD x) (splS x) (dtV (splD x)).1 then p else o
def atD (s:List UInt8) (o:Int) (h:Bool) (t:List UInt8) (p a b c d e f a' b' c' d' e' f' x:Int):Bool:=onV (ruC s o h t p (rdC a b c d e f) (rdC a' b' c' d' e' f')) (splD x) (splS x) (dtV (splD x)).1
def atN (s:List UInt8) (o:Int) (h:Bool) (t:List UInt8) (p a b c d e f a' b' c' d' e' f' x:Int):List UInt8:=bif onV (ruC s o h t p (rdC a b c d e f) (rdC a' b' c' d' e' f')) (splD x) (splS x) (dtV (splD x)).1 then t else s
end
attribute [local irreducible] loopK evCode evSpec loopB norm
theorem ok37e:∀ args pres res,sBlk args = some (pres,res)→SpecOK Tryz.prog G16 25 args pres res:=by
 intro args pres res h
 unfold sBlk at h
 split at h
 case h_2=>cases h
 cases h
 rename_i T I X C L S U n s
 refine spec_ok (C:=N22) okF34 noCall_ok Tryz.func25 (by kernel_rfl) (by kernel_rfl) (fun hp=>?_)
 obtain ⟨hX,hL,l1,l2,l3,l4,l5,l6⟩:=hp (okBp T I X C L S U) (by simp)
 have hs:sz48 s:=hp _ (by simp)
 have e1:=xT_tys hX
 have hX':okT ((tys X).map cellsT):=by rw [← hX.1]; exact hX
 obtain ⟨M,rfl,e,hM⟩:=okL_elim hL
 rw [List.length_map] at l5
 rw [e]
 have:=(Classical.epsilon_spec (bl_ex T I (tys X) C M S U n s hX' hL hs l1 l2 (by rw [tys_len hX]; exact l3) l4 l5 l6)).2
 rw [e1]
 exact this _ rfl
theorem okF35:EOK Tryz.prog F35 G16:=addE_ok okF34 ok37e
theorem bl_sp {T:List Int} {I:List UInt8} {X:List (List IV)} {C:List UInt8} {L:List (List IV)} {S U:List Bool} {n s:Int} (h:okBp T I X C L S U) (hs:sz48 s):blV T I (tys X) C (lps L) S U n s = 0→okBl T I (tys X) C S U∧desV T = -1∧lvV (lps L) n = true:=by
 obtain ⟨hX,hL,l1,l2,l3,l4,l5,l6⟩:=h
 have hX':okT ((tys X).map cellsT):=by rw [← hX.1]; exact hX
 obtain ⟨M,rfl,e,hM⟩:=okL_elim hL
 rw [List.length_map] at l5
 rw [e]
 intro h0
 have:=(Classical.epsilon_spec (bl_ex T I (tys X) C M S U n s hX' hL hs l1 l2 (by rw [tys_len hX]; exact l3) l4 l5 l6)).1 h0
 unfold okBd at this
 rw [e] at this
 exact this
end PF
set_option maxRecDepth 100000
namespace PF
open Go Go.AE Go.Proofs PE
attribute [local irreducible] loopK evCode evSpec loopB norm
theorem g39_in (v:Int) (T:List Int) (I:List UInt8) (X:List (List IV)) (C:List UInt8) (L:List (List IV)) (S:List Bool) (U:List Bool) (T':List Int) (I':List UInt8) (X':List (List IV)) (C':List UInt8) (L':List (List IV)) (S':List Bool) (U':List Bool) (f:List UInt8) (K:List AV→Prop) (Q1:Pz) (hQ1:Q1 = (pzV f)):evSpec N23 Tryz.f26 [.agg (fiC v T I X C L S U T' I' X' C' L' S' U' f)] K = ( let E1:Prop:=((sm (St.mk (lapp [.agg [i64 v,.imm (.ints IntKind.i64 T),by' I,.imm (.sl 3 X),by' C,.imm (.sl 2 L),.imm (.bools S),.imm (.bools U),.imm (.ints IntKind.i64 T'),by' I',.imm (.sl 3 X'),by' C',.imm (.sl 2 L'),.imm (.bools S'),.imm (.bools U'),.imm (.str f)],.ptr 0 0,i64 0,i64 0,.ptr 1 0,i64 (Pz.er Q1),i64 (Pz.at' Q1),i64 (T'.length:Int),i64 (List.getD T' (IntKind.wrap .i64 ((T'.length:Int) - 1)).toNat (0:Int)),i64 (minU (List.getD T' (IntKind.wrap .i64 ((T'.length:Int) - 1)).toNat (0:Int)) (coV (lps L') (List.getD T' (IntKind.wrap .i64 ((T'.length:Int) - 1)).toNat (0:Int))))] (lapp (dN 40) [.agg [.imm (.str (Pz.s Q1)),i64 (Pz.o Q1),bo (Pz.h Q1),.imm (.str (Pz.t Q1)),i64 (Pz.p Q1),i64 (Pz.a Q1),i64 (Pz.b
 Q1),i64 (Pz.c Q1),i64 (Pz.d Q1),i64 (Pz.e Q1),i64 (Pz.f Q1),i64 (Pz.a' Q1),i64 (Pz.b' Q1),i64 (Pz.c' Q1),i64 (Pz.d' Q1),i64 (Pz.e' Q1),i64 (Pz.f' Q1)],i64 (minU (List.getD T' (IntKind.wrap .i64 ((T'.length:Int) - 1)).toNat (0:Int)) (coV (lps L') (List.getD T' (IntKind.wrap .i64 ((T'.length:Int) - 1)).toNat (0:Int)))),.agg [bo true,i64 (atO (Pz.s Q1) (Pz.o Q1) (Pz.h Q1) (Pz.t Q1) (Pz.p Q1) (Pz.a Q1) (Pz.b Q1) (Pz.c Q1) (Pz.d Q1) (Pz.e Q1) (Pz.f Q1) (Pz.a' Q1) (Pz.b' Q1) (Pz.c' Q1) (Pz.d' Q1) (Pz.e' Q1) (Pz.f' Q1) (minU (List.getD T' (IntKind.wrap .i64 ((T'.length:Int) - 1)).toNat (0:Int)) (coV (lps L') (List.getD T' (IntKind.wrap .i64 ((T'.length:Int) - 1)).toNat (0:Int))))),bo (atD (Pz.s Q1) (Pz.o Q1) (Pz.h Q1) (Pz.t Q1) (Pz.p Q1) (Pz.a Q1) (Pz.b Q1) (Pz.c Q1) (Pz.d Q1) (Pz.e Q1) (Pz.f Q1) (Pz.a' Q1) (Pz.b' Q1) (Pz.c' Q1) (Pz.d' Q1) (Pz.e' Q1) (Pz.f' Q1) (minU (List.getD T' (IntKind.wrap .i64 ((T'.length:Int) - 1)).toNat (0:Int)) (coV (lps L') (List.getD T' (IntKind.wrap .i64 ((T'.length:Int) - 1)).toNat (0:Int))))),.imm (.str (atN (Pz.s Q1) (Pz.o Q1) (Pz.h Q1) (Pz.t Q1) (Pz.p Q1) (Pz.a Q1) (Pz.b Q1) (Pz.c Q1) (Pz.d Q1) (Pz.e Q1) (Pz.f Q1)
 (Pz.a' Q1) (Pz.b' Q1) (Pz.c' Q1) (Pz.d' Q1) (Pz.e' Q1) (Pz.f' Q1) (minU (List.getD T' (IntKind.wrap .i64 ((T'.length:Int) - 1)).toNat (0:Int)) (coV (lps L') (List.getD T' (IntKind.wrap .i64 ((T'.length:Int) - 1)).toNat (0:Int))))))],.ptr 0 8,.agg [.imm (.ints IntKind.i64 T'),by' I',.imm (.sl 3 X'),by' C',.imm (.sl 2 L'),.imm (.bools S'),.imm (.bools U')],.ptr 0 8,.ptr 0 9,by' I',i64 (T'.length:Int),i64 (IntKind.wrap .i64 ((T'.length:Int) - 1)),AV.elv [IV.int .u8 (↑(UInt8.toNat (List.getD I' (IntKind.wrap .i64 ((T'.length:Int) - 1)).toNat (0:UInt8))):Int)],.imm (.int .u8 (↑(UInt8.toNat (List.getD I' (IntKind.wrap .i64 ((T'.length:Int) - 1)).toNat (0:UInt8))):Int)),i64 (IntKind.wrap .i64 (↑(UInt8.toNat (List.getD I' (IntKind.wrap .i64 ((T'.length:Int) - 1)).toNat (0:UInt8))):Int)),.agg [bo true,i64 (IntKind.wrap .i64 (ivInt (ivNth (List.getD X' (IntKind.wrap .i64 (↑(UInt8.toNat (List.getD I' (IntKind.wrap .i64 ((T'.length:Int) - 1)).toNat (0:UInt8))):Int)).toNat []) 0))),bo (ivBool (ivNth (List.getD X' (IntKind.wrap .i64 (↑(UInt8.toNat (List.getD I' (IntKind.wrap .i64 ((T'.length:Int) - 1)).toNat (0:UInt8))):Int)).toNat [])
 (0 + 1))),.imm (.str (nmV C' (IntKind.wrap .i64 (ivInt (ivNth (List.getD X' (IntKind.wrap .i64 (↑(UInt8.toNat (List.getD I' (IntKind.wrap .i64 ((T'.length:Int) - 1)).toNat (0:UInt8))):Int)).toNat []) (0 + 1 + 1))))).1)],bo (!(true == true && (atO (Pz.s Q1) (Pz.o Q1) (Pz.h Q1) (Pz.t Q1) (Pz.p Q1) (Pz.a Q1) (Pz.b Q1) (Pz.c Q1) (Pz.d Q1) (Pz.e Q1) (Pz.f Q1) (Pz.a' Q1) (Pz.b' Q1) (Pz.c' Q1) (Pz.d' Q1) (Pz.e' Q1) (Pz.f' Q1) (minU (List.getD T' (IntKind.wrap .i64 ((T'.length:Int) - 1)).toNat (0:Int)) (coV (lps L') (List.getD T' (IntKind.wrap .i64 ((T'.length:Int) - 1)).toNat (0:Int)))) == IntKind.wrap .i64 (ivInt (ivNth (List.getD X' (IntKind.wrap .i64 (↑(UInt8.toNat (List.getD I' (IntKind.wrap .i64 ((T'.length:Int) - 1)).toNat (0:UInt8))):Int)).toNat []) 0)) && (atD (Pz.s Q1) (Pz.o Q1) (Pz.h Q1) (Pz.t Q1) (Pz.p Q1) (Pz.a Q1) (Pz.b Q1) (Pz.c Q1) (Pz.d Q1) (Pz.e Q1) (Pz.f Q1) (Pz.a' Q1) (Pz.b' Q1) (Pz.c' Q1) (Pz.d' Q1) (Pz.e' Q1) (Pz.f' Q1) (minU (List.getD T' (IntKind.wrap .i64 ((T'.length:Int) - 1)).toNat (0:Int)) (coV (lps L') (List.getD T' (IntKind.wrap .i64 ((T'.length:Int) - 1)).toNat (0:Int)))) == ivBool (ivNth (List.getD X' (IntKind.wrap .i64
 (↑(UInt8.toNat (List.getD I' (IntKind.wrap .i64 ((T'.length:Int) - 1)).toNat (0:UInt8))):Int)).toNat []) (0 + 1)) && (decide (atN (Pz.s Q1) (Pz.o Q1) (Pz.h Q1) (Pz.t Q1) (Pz.p Q1) (Pz.a Q1) (Pz.b Q1) (Pz.c Q1) (Pz.d Q1) (Pz.e Q1) (Pz.f Q1) (Pz.a' Q1) (Pz.b' Q1) (Pz.c' Q1) (Pz.d' Q1) (Pz.e' Q1) (Pz.f' Q1) (minU (List.getD T' (IntKind.wrap .i64 ((T'.length:Int) - 1)).toNat (0:Int)) (coV (lps L') (List.getD T' (IntKind.wrap .i64 ((T'.length:Int) - 1)).toNat (0:Int)))) = (nmV C' (IntKind.wrap .i64 (ivInt (ivNth (List.getD X' (IntKind.wrap .i64 (↑(UInt8.toNat (List.getD I' (IntKind.wrap .i64 ((T'.length:Int) - 1)).toNat (0:UInt8))):Int)).toNat []) (0 + 1 + 1))))).1) && true)))))])) [(0,Ob.mk true 0 (AObj.cells [i64 v,.imm (.ints IntKind.i64 T),by' I,.imm (.sl 3 X),by' C,.imm (.sl 2 L),.imm (.bools S),.imm (.bools U),.imm (.ints IntKind.i64 T'),by' I',.imm (.sl 3 X'),by' C',.imm (.sl 2 L'),.imm (.bools S'),.imm (.bools U'),.imm (.str f)])),(1,Ob.mk true 0 (AObj.cells [.imm (.str (Pz.s Q1)),i64 (Pz.o Q1),bo (Pz.h Q1),.imm (.str (Pz.t Q1)),i64 (Pz.p Q1),i64 (Pz.a Q1),i64 (Pz.b Q1),i64 (Pz.c Q1),i64 (Pz.d Q1),i64 (Pz.e Q1),i64 (Pz.f Q1),i64
 (Pz.a' Q1),i64 (Pz.b' Q1),i64 (Pz.c' Q1),i64 (Pz.d' Q1),i64 (Pz.e' Q1),i64 (Pz.f' Q1)]))] 2 []))); brn (decide (f = [])) (K [i64 0,i64 0]) ((f.length:Int)≤1000000∧brn (Pz.er Q1 != 0) (K [i64 14,i64 (Pz.at' Q1)]) (brn (v == 2 && extU (Pz.h Q1) (Pz.f Q1) (Pz.f' Q1)) (K [i64 16,i64 0]) (brn ((T'.length:Int) == 0) (K [i64 0,i64 0]) ((0:Int)≤IntKind.wrap .i64 ((T'.length:Int) - 1)∧IntKind.wrap .i64 ((T'.length:Int) - 1) < (T'.length:Int)∧okL L'∧(L'.length:Int)≤1000000∧((0:Int)≤IntKind.wrap .i64 ((T'.length:Int) - 1)∧IntKind.wrap .i64 ((T'.length:Int) - 1) < (I'.length:Int)∧(okRu (Pz.o Q1) (Pz.p Q1) (Pz.h Q1) (vDay (Pz.a Q1) (Pz.b Q1) (Pz.c Q1) (Pz.d Q1) (Pz.e Q1) (Pz.f Q1)) (vDay (Pz.a' Q1) (Pz.b' Q1) (Pz.c' Q1) (Pz.d' Q1) (Pz.e' Q1) (Pz.f' Q1))∧(-9223372036854775808:Int)≤minU (List.getD T' (IntKind.wrap .i64 ((T'.length:Int) - 1)).toNat (0:Int)) (coV (lps L') (List.getD T' (IntKind.wrap .i64 ((T'.length:Int) - 1)).toNat (0:Int)))∧minU (List.getD T' (IntKind.wrap .i64 ((T'.length:Int) - 1)).toNat (0:Int)) (coV (lps L') (List.getD T' (IntKind.wrap .i64 ((T'.length:Int) - 1)).toNat (0:Int)))≤9223372036854775807
 ∧ okT X'∧(0:Int)≤IntKind.wrap .i64 (↑(UInt8.toNat (List.getD I' (IntKind.wrap .i64 ((T'.length:Int) - 1)).toNat (0:UInt8))):Int)∧IntKind.wrap .i64 (↑(UInt8.toNat (List.getD I' (IntKind.wrap .i64 ((T'.length:Int) - 1)).toNat (0:UInt8))):Int) < (X'.length:Int)∧(C'.length:Int)≤1000000∧E1)∧okRu (Pz.o Q1) (Pz.p Q1) (Pz.h Q1) (vDay (Pz.a Q1) (Pz.b Q1) (Pz.c Q1) (Pz.d Q1) (Pz.e Q1) (Pz.f Q1)) (vDay (Pz.a' Q1) (Pz.b' Q1) (Pz.c' Q1) (Pz.d' Q1) (Pz.e' Q1) (Pz.f' Q1))∧(-9223372036854775808:Int)≤minU (List.getD T' (IntKind.wrap .i64 ((T'.length:Int) - 1)).toNat (0:Int)) (coV (lps L') (List.getD T' (IntKind.wrap .i64 ((T'.length:Int) - 1)).toNat (0:Int)))∧minU (List.getD T' (IntKind.wrap .i64 ((T'.length:Int) - 1)).toNat (0:Int)) (coV (lps L') (List.getD T' (IntKind.wrap .i64 ((T'.length:Int) - 1)).toNat (0:Int)))≤9223372036854775807∧okT X'∧(0:Int)≤IntKind.wrap .i64 (↑(UInt8.toNat (List.getD I' (IntKind.wrap .i64 ((T'.length:Int) - 1)).toNat (0:UInt8))):Int)∧IntKind.wrap .i64 (↑(UInt8.toNat (List.getD I' (IntKind.wrap .i64 ((T'.length:Int) - 1)).toNat (0:UInt8))):Int) < (X'.length:Int)∧(C'.length:Int)≤1000000
 ∧ E1)∧brn (!(true == true && (atO (Pz.s Q1) (Pz.o Q1) (Pz.h Q1) (Pz.t Q1) (Pz.p Q1) (Pz.a Q1) (Pz.b Q1) (Pz.c Q1) (Pz.d Q1) (Pz.e Q1) (Pz.f Q1) (Pz.a' Q1) (Pz.b' Q1) (Pz.c' Q1) (Pz.d' Q1) (Pz.e' Q1) (Pz.f' Q1) (minU (List.getD T' (IntKind.wrap .i64 ((T'.length:Int) - 1)).toNat (0:Int)) (coV (lps L') (List.getD T' (IntKind.wrap .i64 ((T'.length:Int) - 1)).toNat (0:Int)))) == IntKind.wrap .i64 (ivInt (ivNth (List.getD X' (IntKind.wrap .i64 (↑(UInt8.toNat (List.getD I' (IntKind.wrap .i64 ((T'.length:Int) - 1)).toNat (0:UInt8))):Int)).toNat []) 0)) && (atD (Pz.s Q1) (Pz.o Q1) (Pz.h Q1) (Pz.t Q1) (Pz.p Q1) (Pz.a Q1) (Pz.b Q1) (Pz.c Q1) (Pz.d Q1) (Pz.e Q1) (Pz.f Q1) (Pz.a' Q1) (Pz.b' Q1) (Pz.c' Q1) (Pz.d' Q1) (Pz.e' Q1) (Pz.f' Q1) (minU (List.getD T' (IntKind.wrap .i64 ((T'.length:Int) - 1)).toNat (0:Int)) (coV (lps L') (List.getD T' (IntKind.wrap .i64 ((T'.length:Int) - 1)).toNat (0:Int)))) == ivBool (ivNth (List.getD X' (IntKind.wrap .i64 (↑(UInt8.toNat (List.getD I' (IntKind.wrap .i64 ((T'.length:Int) - 1)).toNat (0:UInt8))):Int)).toNat []) (0 + 1)) && (decide (atN (Pz.s Q1) (Pz.o Q1) (Pz.h Q1) (Pz.t Q1) (Pz.p Q1) (Pz.a Q1) (Pz.b Q1) (Pz.c Q1) (Pz.d Q1)
 (Pz.e Q1) (Pz.f Q1) (Pz.a' Q1) (Pz.b' Q1) (Pz.c' Q1) (Pz.d' Q1) (Pz.e' Q1) (Pz.f' Q1) (minU (List.getD T' (IntKind.wrap .i64 ((T'.length:Int) - 1)).toNat (0:Int)) (coV (lps L') (List.getD T' (IntKind.wrap .i64 ((T'.length:Int) - 1)).toNat (0:Int)))) = (nmV C' (IntKind.wrap .i64 (ivInt (ivNth (List.getD X' (IntKind.wrap .i64 (↑(UInt8.toNat (List.getD I' (IntKind.wrap .i64 ((T'.length:Int) - 1)).toNat (0:UInt8))):Int)).toNat []) (0 + 1 + 1))))).1) && true))))) (K [i64 15,i64 0]) (K [i64 0,i64 0])))))):=by subst hQ1; kernel_rfl
theorem wrap_b (n:Int):-9223372036854775808≤IntKind.wrap .i64 n∧IntKind.wrap .i64 n≤9223372036854775807:=by
 rw [wrap64m]; omega
theorem min_b (t c:Int):-9223372036854775808≤minU t c∧minU t c≤9223372036854775807:=by
 unfold minU
 split
 ·decide
 ·split
  ·decide
  ·exact wrap_b _
theorem brn_bif {K:List AV→Prop} {B:Bool} {x:Int} (h:K [i64 (bif B then x else 0),i64 0]):brn B (K [i64 x,i64 0]) (K [i64 0,i64 0]):=by
 cases B with
 | true=>exact brn_T rfl h
 | false=>exact brn_Fa rfl h
def ftP (v:Int) (f:List UInt8):Prop:=f = []∨(P9.whyP f = 0∧(v = 2→extU (pzV f).h (pzV f).f (pzV f).f' = false))
theorem ft_ex (v:Int) (T:List Int) (I:List UInt8) (X:List (List IV)) (C:List UInt8) (L:List (List IV)) (S U:List Bool) (T':List Int) (I':List UInt8) (X':List (List IV)) (C':List UInt8) (L':List (List IV)) (S' U':List Bool) (f:List UInt8)
  (hp:okBp T' I' X' C' L' S' U') (hb:okBl T' I' (tys X') C' S' U') (hf:(f.length:Int)≤1000000) :
  ∃ r:Int×Int,(r.1 = 0→ftP v f)∧∀ K:List AV→Prop,K [i64 r.1,i64 r.2]→evSpec N23 Tryz.f26 [.agg (fiC v T I X C L S U T' I' X' C' L' S' U' f)] K:=by
 obtain ⟨hX,hL,l1,l2,l3,l4,l5,l6⟩:=hp
 obtain ⟨b1,b2,b3,b4,b5,b6⟩:=hb
 obtain ⟨Q,hQ⟩:∃ Q,Q = pzV f:=⟨_,rfl⟩
 have g:=fun K=>g39_in v T I X C L S U T' I' X' C' L' S' U' f K Q hQ
 by_cases h0:f = []
 ·refine ⟨(0,0),fun _=>.inl h0,fun K hK=>?_⟩
  ·rw [g]
   intro E1
   exact brn_T (decide_eq_true h0) hK
 ·have hz:=decide_eq_false h0
  cases he:(Q.er != 0) with
  | true =>
   refine ⟨(14,Q.at'),fun h=>absurd h (by show ¬ (14:Int) = 0; decide),fun K hK=>?_⟩
   rw [g]
   intro E1
   exact brn_Fa hz ⟨hf,brn_T he hK⟩
  | false =>
   have he0:Q.er = 0:=bne_eq_false_iff_eq.mp he
   have hru:okRu Q.o Q.p Q.h (vDay Q.a Q.b Q.c Q.d Q.e Q.f) (vDay Q.a' Q.b' Q.c' Q.d' Q.e' Q.f'):=by rw [hQ] at he0 ⊢; exact pz_ru he0
   have hw:P9.whyP f = 0:=by rw [hQ] at he0; exact he0
   cases hx:(v == 2 && extU Q.h Q.f Q.f') with
   | true =>
    refine ⟨(16,0),fun h=>absurd h (by decide),fun K hK=>?_⟩
    rw [g]
    intro E1
    exact brn_Fa hz ⟨hf,brn_Fa he (brn_T hx hK)⟩
   | false =>
    have hcl:ftP v f:=.inr ⟨hw,fun h2=>by
     rw [← hQ]
     have h3:(v == 2) = true:=by rw [h2]; first | done | rfl
     rw [h3,Bool.true_and] at hx
     exact hx⟩
    cases hn:((T'.length:Int) == 0) with
    | true =>
     refine ⟨(0,0),fun _=>hcl,fun K hK=>?_⟩
     rw [g]
     intro E1
     exact brn_Fa hz ⟨hf,brn_Fa he (brn_Fa hx (brn_T hn hK))⟩
    | false =>
     have hn0:T'.length≠0:=fun h=>by rw [h] at hn; exact absurd hn (by decide)
     have ew:IntKind.wrap .i64 ((T'.length:Int) - 1) = (T'.length:Int) - 1:=wrap64 (by omega) (by omega)
     have w0:0≤IntKind.wrap .i64 ((T'.length:Int) - 1):=by omega
     have wT:IntKind.wrap .i64 ((T'.length:Int) - 1) < T'.length:=by omega
     have wI:IntKind.wrap .i64 ((T'.length:Int) - 1) < I'.length:=by omega
     have hi:=b6 (IntKind.wrap .i64 ((T'.length:Int) - 1)).toNat (by omega)
     rw [tys_len hX] at hi
     have eB:=wrapB (I'.getD (IntKind.wrap .i64 ((T'.length:Int) - 1)).toNat 0)
     have x0:0≤IntKind.wrap .i64 ((I'.getD (IntKind.wrap .i64 ((T'.length:Int) - 1)).toNat 0).toNat:Int):=by omega
     have x1:IntKind.wrap .i64 ((I'.getD (IntKind.wrap .i64 ((T'.length:Int) - 1)).toNat 0).toNat:Int) < X'.length:=by omega
     have mb:=fun t c=>min_b t c
     exact ⟨(bif _ then 15 else 0,0),fun _=>hcl,fun K hK=>by
      rw [g]
      intro E1
      have hE:E1:=rfl
      clear_value E1
      exact brn_Fa hz ⟨hf,brn_Fa he (brn_Fa hx (brn_Fa hn ⟨w0,wT,hL,l5,⟨w0,wI,⟨hru,(mb _ _).1,(mb _ _).2,hX,x0,x1,l4,hE⟩,hru,(mb _ _).1,(mb _ _).2,hX,x0,x1,l4,hE⟩,brn_bif hK⟩))⟩⟩
end PF
set_option maxRecDepth 100000
namespace PF
open Go Go.AE Go.Proofs PE
noncomputable section
def ftV (n:Int) (T:List Int) (I:List UInt8) (X:List (List IV)) (C:List UInt8) (L:List (List IV)) (S U:List Bool) (T':List Int) (I':List UInt8) (X':List (List IV)) (C':List UInt8) (L':List (List IV)) (S' U':List Bool) (f:List UInt8):Int×Int:=Classical.epsilon fun v:Int×Int=>(v.1 = 0→ftP n f)∧∀ K:List AV→Prop,K [i64 v.1,i64 v.2]→evSpec N23 Tryz.f26 [.agg (fiC n T I X C L S U T' I' X' C' L' S' U' f)] K
def sFoot:List AV→Option (List Prop×List AV)
 | [.agg [.imm (.int .i64 n),.imm (.ints .i64 T),.imm (.bytes I),.imm (.sl 3 X),.imm (.bytes C),.imm (.sl 2 L),.imm (.bools S),.imm (.bools U),.imm (.ints .i64 T'),.imm (.bytes I'),.imm (.sl 3 X'),.imm (.bytes C'),.imm (.sl 2 L'),.imm (.bools S'),.imm (.bools U'),.imm (.str f)]]=>some ([okBp T' I' X' C' L' S' U',okBl T' I' (tys X') C' S' U',(f.length:Int)≤1000000],[i64 (ftV n T I X C L S U T' I' X' C' L' S' U' f).1,i64 (ftV n T I X C L S U T' I' X' C' L' S' U' f).2])
 | _=>none
noncomputable def F36:=addE F35 26 sFoot
def N24:Cx:=⟨Tryz.prog,F36,noCall,G16,4004⟩
def N25:Cx:=⟨Tryz.prog,F36,noCall,G16,4003⟩
end
attribute [local irreducible] loopK evCode evSpec loopB norm
theorem ok39e:∀ args pres res,sFoot args = some (pres,res)→SpecOK Tryz.prog G16 26 args pres res:=by
 intro args pres res h
 unfold sFoot at h
 split at h
 case h_2=>cases h
 cases h
 exact spec_ok (C:=N23) okF35 noCall_ok Tryz.func26 (by kernel_rfl) (by kernel_rfl) (fun hp=>(Classical.epsilon_spec (ft_ex _ _ _ _ _ _ _ _ _ _ _ _ _ _ _ _ (hp _ (by simp)) (hp _ (by simp)) (hp _ (by simp)))).2 _ rfl)
theorem okF36:EOK Tryz.prog F36 G16:=addE_ok okF35 ok39e
end PF
set_option maxRecDepth 100000
namespace PF
open Go Go.AE Go.Proofs PE
attribute [local irreducible] loopK evCode evSpec loopB norm
theorem g19_in (n:Int) (T:List Int) (I:List UInt8) (X:List (List IV)) (C:List UInt8) (L:List (List IV)) (S:List Bool) (U:List Bool) (T':List Int) (I':List UInt8) (X':List (List IV)) (C':List UInt8) (L':List (List IV)) (S':List Bool) (U':List Bool) (f:List UInt8) (K:List AV→Prop):evSpec N24 Tryz.f12 [.agg (fiC n T I X C L S U T' I' X' C' L' S' U' f)] K = (brn (decide (n < 1) || decide (n > 4)) (K [i64 4]) (okBp T I X C L S U∧sz48 (4:Int)∧brn (blV T I (tys X) C (lps L) S U n (4:Int) != 0) (K [i64 (blV T I (tys X) C (lps L) S U n (4:Int))]) (brn (n == 1) (((!decide (f = [])) = false→okB T' I' X' C' L' S' U')∧((!decide (f = [])) = false→okB [] [] [] [] [] [] [])∧brn (!decide (f = []) || !sameK T' I' X' C' L' S' U' [] [] [] [] [] [] []) (K [i64 18]) (K [i64 0])) (okBp T' I' X' C' L' S' U'∧sz48 (8:Int)∧brn (blV T' I' (tys X') C' (lps L') S' U' n (8:Int) != 0) (K [i64 (blV T' I' (tys X') C' (lps L') S' U' n (8:Int))]) (okBp T' I' X' C' L' S' U'∧okBl T' I' (tys X') C' S' U'∧(f.length:Int)≤1000000∧K [i64 ((ftV n T I X C L S U T' I' X' C' L' S' U' f).1)]))))):=by kernel_rfl
theorem g18_in (n:Int) (T:List Int) (I:List UInt8) (X:List (List IV)) (C:List UInt8) (L:List (List IV)) (S:List Bool) (U:List Bool) (T':List Int) (I':List UInt8) (X':List (List IV)) (C':List UInt8) (L':List (List IV)) (S':List Bool) (U':List Bool) (f:List UInt8) (K:List AV→Prop):evSpec N25 Tryz.f11 [.agg (fiC n T I X C L S U T' I' X' C' L' S' U' f)] K = (K [bo (fewB T I X C L S U && fewB T' I' X' C' L' S' U' && decide ((f.length:Int)≤600))]):=by kernel_rfl
end PF
set_option maxRecDepth 100000
namespace PF
open Go Go.AE Go.Proofs PE
noncomputable section
def fiV (n:Int) (T:List Int) (I:List UInt8) (X:List (List IV)) (C:List UInt8) (L:List (List IV)) (S U:List Bool) (T':List Int) (I':List UInt8) (X':List (List IV)) (C':List UInt8) (L':List (List IV)) (S' U':List Bool) (f:List UInt8):Int :=
 bif decide (n < 1) || decide (n > 4) then 4 else bif blV T I (tys X) C (lps L) S U n 4 != 0 then blV T I (tys X) C (lps L) S U n 4 else
 bif n == 1 then (bif !decide (f = []) || !sameK T' I' X' C' L' S' U' [] [] [] [] [] [] [] then 18 else 0) else
 bif blV T' I' (tys X') C' (lps L') S' U' n 8 != 0 then blV T' I' (tys X') C' (lps L') S' U' n 8 else (ftV n T I X C L S U T' I' X' C' L' S' U' f).1
def fewF (n:Int) (T:List Int) (I:List UInt8) (X:List (List IV)) (C:List UInt8) (L:List (List IV)) (S U:List Bool) (T':List Int) (I':List UInt8) (X':List (List IV)) (C':List UInt8) (L':List (List IV)) (S' U':List Bool) (f:List UInt8):Bool:=fewB T I X C L S U && fewB T' I' X' C' L' S' U' && decide ((f.length:Int)≤600)
def okFi (n:Int) (T:List Int) (I:List UInt8) (X:List (List IV)) (C:List UInt8) (L:List (List IV)) (S U:List Bool) (T':List Int) (I':List UInt8) (X':List (List IV)) (C':List UInt8) (L':List (List IV)) (S' U':List Bool) (f:List UInt8):Prop:=okBp T I X C L S U∧okBp T' I' X' C' L' S' U'∧(S'.length:Int)≤1000000∧(f.length:Int)≤1000000
def sFewF:List AV→Option (List Prop×List AV)
 | [.agg [.imm (.int .i64 n),.imm (.ints .i64 T),.imm (.bytes I),.imm (.sl 3 X),.imm (.bytes C),.imm (.sl 2 L),.imm (.bools S),.imm (.bools U),.imm (.ints .i64 T'),.imm (.bytes I'),.imm (.sl 3 X'),.imm (.bytes C'),.imm (.sl 2 L'),.imm (.bools S'),.imm (.bools U'),.imm (.str f)]]=>some ([],[bo (fewF n T I X C L S U T' I' X' C' L' S' U' f)])
 | _=>none
def sFile:List AV→Option (List Prop×List AV)
 | [.agg [.imm (.int .i64 n),.imm (.ints .i64 T),.imm (.bytes I),.imm (.sl 3 X),.imm (.bytes C),.imm (.sl 2 L),.imm (.bools S),.imm (.bools U),.imm (.ints .i64 T'),.imm (.bytes I'),.imm (.sl 3 X'),.imm (.bytes C'),.imm (.sl 2 L'),.imm (.bools S'),.imm (.bools U'),.imm (.str f)]]=>some ([okFi n T I X C L S U T' I' X' C' L' S' U' f],[i64 (fiV n T I X C L S U T' I' X' C' L' S' U' f)])
 | _=>none
noncomputable def F37:=addE (addE F36 11 sFewF) 12 sFile
end
attribute [local irreducible] loopK evCode evSpec loopB norm
theorem ok18e:∀ args pres res,sFewF args = some (pres,res)→SpecOK Tryz.prog G16 11 args pres res:=by
 intro args pres res h
 unfold sFewF at h
 split at h
 case h_2=>cases h
 cases h
 refine spec_ok (C:=N25) okF36 noCall_ok Tryz.func11 (by kernel_rfl) (by kernel_rfl) (fun hp=>?_)
 exact Eq.mpr (g18_in _ _ _ _ _ _ _ _ _ _ _ _ _ _ _ _ _) rfl
theorem okB_of {T:List Int} {I:List UInt8} {X:List (List IV)} {C:List UInt8} {L:List (List IV)} {S U:List Bool} (h:okBp T I X C L S U) (hS:(S.length:Int)≤1000000):okB T I X C L S U:=by
 obtain ⟨hX,hL,l1,l2,l3,l4,l5,l6⟩:=h
 have hb:(1000000:Int)≤big':=by unfold big'; decide
 exact ⟨hX,hL,by omega,by omega,by omega,by omega,by omega,by omega,by omega⟩
theorem tys0 {X:List (List IV)} (h:okT X) (h0:tys X = tys []):X.length = 0:=by
 have:=tys_len h
 rw [h0] at this
 exact this.symm
theorem lps0 {L:List (List IV)} (h:okL L) (h0:lps L = lps []):L.length = 0:=by
 have:=h.1
 rw [h0] at this
 rw [this]; first | done | rfl
def okFile (n:Int) (T:List Int) (I:List UInt8) (X:List (List IV)) (C:List UInt8) (S U:List Bool) (T':List Int) (I':List UInt8) (X':List (List IV)) (C':List UInt8) (L':List (List IV)) (S' U':List Bool) (f:List UInt8):Prop :=
 1≤n∧n≤4∧okBl T I (tys X) C S U∧(n = 1→f = []∧T' = []∧X'.length = 0∧C' = []∧L'.length = 0∧S' = []∧U' = [])∧(n≠1→okBl T' I' (tys X') C' S' U'∧ascP T'∧lvV (lps L') n = true∧ftP n f)
theorem fi_ev (n:Int) (T:List Int) (I:List UInt8) (X:List (List IV)) (C:List UInt8) (L:List (List IV)) (S U:List Bool) (T':List Int) (I':List UInt8) (X':List (List IV)) (C':List UInt8) (L':List (List IV)) (S' U':List Bool) (f:List UInt8)
  (hp:okFi n T I X C L S U T' I' X' C' L' S' U' f):(fiV n T I X C L S U T' I' X' C' L' S' U' f = 0→okFile n T I X C S U T' I' X' C' L' S' U' f) ∧
  ∀ K:List AV→Prop,K [i64 (fiV n T I X C L S U T' I' X' C' L' S' U' f)]→evSpec N24 Tryz.f12 [.agg (fiC n T I X C L S U T' I' X' C' L' S' U' f)] K:=by
 obtain ⟨p1,p2,p3,p4⟩:=hp
 have s4:sz48 4:=.inl rfl
 have s8:sz48 8:=.inr rfl
 unfold fiV
 cases c1:(decide (n < 1) || decide (n > 4)) with
 | true =>
  rw [cond_true]
  refine ⟨fun h=>absurd h (by decide),fun K hK=>?_⟩
  rw [g19_in]
  exact brn_T c1 hK
 | false =>
  have c1':=c1
  simp only [Bool.or_eq_false_iff,decide_eq_false_iff_not] at c1'
  have n1:1≤n:=by omega
  have n4:n≤4:=by omega
  rw [cond_false]
  cases c2:(blV T I (tys X) C (lps L) S U n 4 != 0) with
  | true =>
   rw [cond_true]
   refine ⟨fun h=>absurd h (bne_iff_ne.mp c2),fun K hK=>?_⟩
   rw [g19_in]
   exact brn_Fa c1 ⟨p1,s4,brn_T c2 hK⟩
  | false =>
   have hb1:=(bl_sp p1 s4 (bne_eq_false_iff_eq.mp c2)).1
   rw [cond_false]
   cases c3:(n == 1) with
   | true =>
    have hn:n = 1:=eq_of_beq c3
    rw [cond_true]
    cases c4:(!decide (f = []) || !sameK T' I' X' C' L' S' U' [] [] [] [] [] [] []) with
    | true =>
     rw [cond_true]
     refine ⟨fun h=>absurd h (by decide),fun K hK=>?_⟩
     rw [g19_in]
     exact brn_Fa c1 ⟨p1,s4,brn_Fa c2 (brn_T c3 ⟨fun _=>okB_of p2 p3,fun _=>okB_zero,brn_T c4 hK⟩)⟩
    | false =>
     rw [cond_false]
     refine ⟨fun _=>⟨n1,n4,hb1,fun _=>?_,fun h=>absurd hn h⟩,fun K hK=>?_⟩
     ·have c4':=c4
      unfold sameK at c4'
      simp only [Bool.or_eq_false_iff,Bool.not_eq_false',Bool.and_eq_true,decide_eq_true_eq] at c4'
      obtain ⟨f0,t0,i0,x0,ch0,q0,st0,ut0⟩:=c4'
      exact ⟨f0,t0,tys0 p2.1 x0,ch0,lps0 p2.2.1 q0,st0,ut0⟩
     ·rw [g19_in]
      exact brn_Fa c1 ⟨p1,s4,brn_Fa c2 (brn_T c3 ⟨fun _=>okB_of p2 p3,fun _=>okB_zero,brn_Fa c4 hK⟩)⟩
   | false =>
    have hn:n≠1:=fun h=>by rw [h] at c3; exact absurd c3 (by decide)
    rw [cond_false]
    cases c5:(blV T' I' (tys X') C' (lps L') S' U' n 8 != 0) with
    | true =>
     rw [cond_true]
     refine ⟨fun h=>absurd h (bne_iff_ne.mp c5),fun K hK=>?_⟩
     rw [g19_in]
     exact brn_Fa c1 ⟨p1,s4,brn_Fa c2 (brn_Fa c3 ⟨p2,s8,brn_T c5 hK⟩)⟩
    | false =>
     obtain ⟨hb2,hd2,hl2⟩:=bl_sp p2 s8 (bne_eq_false_iff_eq.mp c5)
     have hd2:=desV_sp p2.2.2.1 hd2
     have hft:=Classical.epsilon_spec (ft_ex n T I X C L S U T' I' X' C' L' S' U' f p2 hb2 p4)
     rw [cond_false]
     refine ⟨fun h=>⟨n1,n4,hb1,fun h=>absurd h hn,fun _=>⟨hb2,hd2,hl2,hft.1 h⟩⟩,fun K hK=>?_⟩
     rw [g19_in]
     exact brn_Fa c1 ⟨p1,s4,brn_Fa c2 (brn_Fa c3 ⟨p2,s8,brn_Fa c5 ⟨p2,hb2,p4,hK⟩⟩)⟩
theorem ok19e:∀ args pres res,sFile args = some (pres,res)→SpecOK Tryz.prog G16 12 args pres res:=by
 intro args pres res h
 unfold sFile at h
 split at h
 case h_2=>cases h
 cases h
 exact spec_ok (C:=N24) okF36 noCall_ok Tryz.func12 (by kernel_rfl) (by kernel_rfl) (fun hp=>(fi_ev _ _ _ _ _ _ _ _ _ _ _ _ _ _ _ _ (hp _ (by simp))).2 _ rfl)
theorem okF37:EOK Tryz.prog F37 G16:=addE_ok (addE_ok okF36 ok18e) ok19e
end PF
namespace Q6
open Go Go.AE Go.Proofs
noncomputable section
def B1:=PF.F37
structure okXL (X:List (List IV)) (L:List (List IV)):Prop where
 x:PE.okT X
 l:PF.okL L
def vaV (n:Int) (T:List Int) (I:List UInt8) (X:List (List IV)) (C:List UInt8) (L:List (List IV)) (S U:List Bool) (T':List Int) (I':List UInt8) (X':List (List IV)) (C':List UInt8) (L':List (List IV)) (S' U':List Bool) (f:List UInt8):Bool:=PF.fewF n T I X C L S U T' I' X' C' L' S' U' f && PF.fiV n T I X C L S U T' I' X' C' L' S' U' f == 0
def sVal:List AV→Option (List Prop×List AV)
 | [.agg [.imm (.int .i64 n),.imm (.ints .i64 T),.imm (.bytes I),.imm (.sl 3 X),.imm (.bytes C),.imm (.sl 2 L),.imm (.bools S),.imm (.bools U),.imm (.ints .i64 T'),.imm (.bytes I'),.imm (.sl 3 X'),.imm (.bytes C'),.imm (.sl 2 L'),.imm (.bools S'),.imm (.bools U'),.imm (.str f)]]=>some ([okXL X L,okXL X' L'],[bo6 (vaV n T I X C L S U T' I' X' C' L' S' U' f)])
 | _=>none
def saF (n:Int) (T:List Int) (I:List UInt8) (X:List (List IV)) (C:List UInt8) (L:List (List IV)) (S U:List Bool) (T':List Int) (I':List UInt8) (X':List (List IV)) (C':List UInt8) (L':List (List IV)) (S' U':List Bool) (f:List UInt8) (m:Int) (T1:List Int) (I1:List UInt8) (X1:List (List IV)) (C1:List UInt8) (L1:List (List IV)) (S1 U1:List Bool) (T2:List Int) (I2:List UInt8) (X2:List (List IV)) (C2:List UInt8) (L2:List (List IV)) (S2 U2:List Bool) (g:List UInt8):Bool:=n == m && PF.sameK T I X C L S U T1 I1 X1 C1 L1 S1 U1 && PF.sameK T' I' X' C' L' S' U' T2 I2 X2 C2 L2 S2 U2 && decide (f = g)
structure okSa (n:Int) (T:List Int) (I:List UInt8) (X:List (List IV)) (C:List UInt8) (L:List (List IV)) (S U:List Bool) (T':List Int) (I':List UInt8) (X':List (List IV)) (C':List UInt8) (L':List (List IV)) (S' U':List Bool) (f:List UInt8) (m:Int) (T1:List Int) (I1:List UInt8) (X1:List (List IV)) (C1:List UInt8) (L1:List (List IV)) (S1 U1:List Bool) (T2:List Int) (I2:List UInt8) (X2:List (List IV)) (C2:List UInt8) (L2:List (List IV)) (S2 U2:List Bool) (g:List UInt8):Prop where
 a:PF.okB T I X C L S U
 b:PF.okB T' I' X' C' L' S' U'
 c:PF.okB T1 I1 X1 C1 L1 S1 U1
 d:PF.okB T2 I2 X2 C2 L2 S2 U2
def sSaF:List AV→Option (List Prop×List AV)
 | [.agg [.imm (.int .i64 n),.imm (.ints .i64 T),.imm (.bytes I),.imm (.sl 3 X),.imm (.bytes C),.imm (.sl 2 L),.imm (.bools S),.imm (.bools U),.imm (.ints .i64 T'),.imm (.bytes I'),.imm (.sl 3 X'),.imm (.bytes C'),.imm (.sl 2 L'),.imm (.bools S'),.imm (.bools U'),.imm (.str f)],.agg [.imm (.int .i64 m),.imm (.ints .i64 T1),.imm (.bytes I1),.imm (.sl 3 X1),.imm (.bytes C1),.imm (.sl 2 L1),.imm (.bools S1),.imm (.bools U1),.imm (.ints .i64 T2),.imm (.bytes I2),.imm (.sl 3 X2),.imm (.bytes C2),.imm (.sl 2 L2),.imm (.bools S2),.imm (.bools U2),.imm (.str g)]]=>some ([okSa n T I X C L S U T' I' X' C' L' S' U' f m T1 I1 X1 C1 L1 S1 U1 T2 I2 X2 C2 L2 S2 U2 g],[bo6 (saF n T I X C L S U T' I' X' C' L' S' U' f m T1 I1 X1 C1 L1 S1 U1 T2 I2 X2 C2 L2 S2 U2 g)])
 | _=>none
def sAwk:List AV→Option (List Prop×List AV)
 | []=>some ([],[bo6 true])
 | _=>none
def H14:=addE (addE B1 5 sVal) 8 sSaF
def H15:=addE H14 4 sAwk
def V6:Cx:=⟨Tryz.prog,B1,noCall,G6,4003⟩
def V11:Cx:=⟨Tryz.prog,B1,noCall,G6,4005⟩
def V5:Cx:=⟨Tryz.prog,H14,noCall,G6,4016⟩
end
end Q6
set_option maxRecDepth 100000
namespace Q6
open Go Go.AE Go.Proofs PE PF
attribute [local irreducible] loopK evCode evSpec loopB norm
def w19:List UInt8:=[69,83,84,53,69,68,84,44,48,47,48,44,74,51,54,53,47,50,53]
def w4:List UInt8:=[69,83,84,53]
def tZ:List (List IV):=[[IV.int IntKind.i32 0,IV.bool false,IV.int IntKind.u8 0]]
def cZ:List UInt8:=(List.map u8 [0])
theorem g6_in (n:Int) (T:List Int) (I:List UInt8) (X:List (List IV)) (C:List UInt8) (L:List (List IV)) (S:List Bool) (U:List Bool) (T':List Int) (I':List UInt8) (X':List (List IV)) (C':List UInt8) (L':List (List IV)) (S':List Bool) (U':List Bool) (f:List UInt8) (K:List AV→Prop):evSpec V6 Tryz.f5 [.agg (fil n T I X C L S U T' I' X' C' L' S' U' f)] K = ((PF.fewF n T I X C L S U T' I' X' C' L' S' U' f = true→PF.okFi n T I X C L S U T' I' X' C' L' S' U' f)∧K [bo (PF.fewF n T I X C L S U T' I' X' C' L' S' U' f && PF.fiV n T I X C L S U T' I' X' C' L' S' U' f == 0)]):=by kernel_rfl
theorem g11_in (n:Int) (T:List Int) (I:List UInt8) (X:List (List IV)) (C:List UInt8) (L:List (List IV)) (S:List Bool) (U:List Bool) (T':List Int) (I':List UInt8) (X':List (List IV)) (C':List UInt8) (L':List (List IV)) (S':List Bool) (U':List Bool) (f:List UInt8) (m:Int) (T1:List Int) (I1:List UInt8) (X1:List (List IV)) (C1:List UInt8) (L1:List (List IV)) (S1:List Bool) (U1:List Bool) (T2:List Int) (I2:List UInt8) (X2:List (List IV)) (C2:List UInt8) (L2:List (List IV)) (S2:List Bool) (U2:List Bool) (g:List UInt8) (K:List AV→Prop):evSpec V11 Tryz.f8 [.agg (fil n T I X C L S U T' I' X' C' L' S' U' f),.agg (fil m T1 I1 X1 C1 L1 S1 U1 T2 I2 X2 C2 L2 S2 U2 g)] K = (((n == m) = true→PF.okB T I X C L S U)∧((n == m) = true→PF.okB T1 I1 X1 C1 L1 S1 U1)∧((n == m && PF.sameK T I X C L S U T1 I1 X1 C1 L1 S1 U1) = true→PF.okB T' I' X' C' L' S' U')∧((n == m && PF.sameK T I X C L S U T1 I1 X1 C1 L1 S1 U1) = true→PF.okB T2 I2 X2 C2 L2 S2 U2)∧K [bo (n == m && PF.sameK T I X C L S U T1 I1 X1 C1 L1 S1 U1 && PF.sameK T' I' X' C' L' S' U' T2 I2 X2 C2 L2 S2 U2 && decide (f = g))]):=by kernel_rfl
theorem g5_in (K:List AV→Prop):evSpec V5 Tryz.f4 [] K = ((0:Int)≤1∧(1:Int)≤1∧(↑8:Int) * 1≤140737488355328∧(1:Int)≤140737488355328∧okTo (3:Int) [] [] tZ cZ [] [] [] [] [] tZ cZ [] [] [] w19 (2:Int)∧okTo (3:Int) [] [] tZ cZ [] [] [] [] [] tZ cZ [] [] [] w19 (1:Int)∧okTo (3:Int) [] [] tZ cZ [] [] [] [] [] tZ cZ [] [] [] w19 (4:Int)∧okTo (3:Int) [] [] tZ cZ [] [] [] [] [] tZ cZ [] [] [] w4 (2:Int)∧okTo (3:Int) [] [] tZ cZ [] [] [] [] [] tZ cZ [] [] [] w4 (1:Int)∧okTo (3:Int) [] [] tZ cZ [] [] [] [] [] tZ cZ [] [] [] w4 (5:Int)∧((toE (toC (3:Int) (2:Int) [] [] w19) == 17 && toE (toC (3:Int) (1:Int) [] [] w19) == 17 && (0:Int) == 0 && (3:Int) == 3 && toE (toC (3:Int) (2:Int) [] [] w4) == 0 && p5 (toC (3:Int) (2:Int) [] [] w4) (0:Int) (3:Int) (2:Int) (2:Int) == 2 && decide (p5 (toC (3:Int) (2:Int) [] [] w4) [] w4 [] w4 = w4) && toE (toC (3:Int) (1:Int) [] [] w4) == 0 && p5 (toC (3:Int) (1:Int) [] [] w4) (0:Int) (3:Int) (1:Int) (1:Int) == 1 && decide (p5 (toC (3:Int) (1:Int) [] [] w4) [] w4 [] w4 = []) && (↑(p5 (toC (3:Int) (1:Int) [] [] w4) [] tZ [] (av (3:Int) tZ
 tZ)).length:Int) == 0 && (↑(p5 (toC (3:Int) (1:Int) [] [] w4) [] tZ (sw (av (3:Int) tZ tZ) [] (vK (av (3:Int) [] []) (av (3:Int) [] []))) tZ).length:Int) == 1 && (18:Int) == 18) = true→Q6.okE (3:Int) [] [] tZ cZ [] [] [] [] [] tZ cZ [] [] [] w19)∧((toE (toC (3:Int) (2:Int) [] [] w19) == 17 && toE (toC (3:Int) (1:Int) [] [] w19) == 17 && (0:Int) == 0 && (3:Int) == 3 && toE (toC (3:Int) (2:Int) [] [] w4) == 0 && p5 (toC (3:Int) (2:Int) [] [] w4) (0:Int) (3:Int) (2:Int) (2:Int) == 2 && decide (p5 (toC (3:Int) (2:Int) [] [] w4) [] w4 [] w4 = w4) && toE (toC (3:Int) (1:Int) [] [] w4) == 0 && p5 (toC (3:Int) (1:Int) [] [] w4) (0:Int) (3:Int) (1:Int) (1:Int) == 1 && decide (p5 (toC (3:Int) (1:Int) [] [] w4) [] w4 [] w4 = []) && (↑(p5 (toC (3:Int) (1:Int) [] [] w4) [] tZ [] (av (3:Int) tZ tZ)).length:Int) == 0 && (↑(p5 (toC (3:Int) (1:Int) [] [] w4) [] tZ (sw (av (3:Int) tZ tZ) [] (vK (av (3:Int) [] []) (av (3:Int) [] []))) tZ).length:Int) == 1 && (18:Int) == 18 && !exV (3:Int) (2:Int) [] [] w19) = true→Q6.okE (3:Int) [] [] tZ cZ [] [] [] [] [] tZ cZ [] [] [] w19)∧((toE (toC (3:Int)
 (2:Int) [] [] w19) == 17 && toE (toC (3:Int) (1:Int) [] [] w19) == 17 && (0:Int) == 0 && (3:Int) == 3 && toE (toC (3:Int) (2:Int) [] [] w4) == 0 && p5 (toC (3:Int) (2:Int) [] [] w4) (0:Int) (3:Int) (2:Int) (2:Int) == 2 && decide (p5 (toC (3:Int) (2:Int) [] [] w4) [] w4 [] w4 = w4) && toE (toC (3:Int) (1:Int) [] [] w4) == 0 && p5 (toC (3:Int) (1:Int) [] [] w4) (0:Int) (3:Int) (1:Int) (1:Int) == 1 && decide (p5 (toC (3:Int) (1:Int) [] [] w4) [] w4 [] w4 = []) && (↑(p5 (toC (3:Int) (1:Int) [] [] w4) [] tZ [] (av (3:Int) tZ tZ)).length:Int) == 0 && (↑(p5 (toC (3:Int) (1:Int) [] [] w4) [] tZ (sw (av (3:Int) tZ tZ) [] (vK (av (3:Int) [] []) (av (3:Int) [] []))) tZ).length:Int) == 1 && (18:Int) == 18 && !exV (3:Int) (2:Int) [] [] w19 && exV (3:Int) (3:Int) [] [] w19) = true→Q6.okE (3:Int) [] [] tZ cZ [] [] [] [] [] tZ cZ [] [] [] w4)∧K [bo (toE (toC (3:Int) (2:Int) [] [] w19) == 17 && toE (toC (3:Int) (1:Int) [] [] w19) == 17 && (0:Int) == 0 && (3:Int) == 3 && toE (toC (3:Int) (2:Int) [] [] w4) == 0 && p5 (toC (3:Int) (2:Int) [] [] w4) (0:Int) (3:Int) (2:Int) (2:Int) == 2 &&
 decide (p5 (toC (3:Int) (2:Int) [] [] w4) [] w4 [] w4 = w4) && toE (toC (3:Int) (1:Int) [] [] w4) == 0 && p5 (toC (3:Int) (1:Int) [] [] w4) (0:Int) (3:Int) (1:Int) (1:Int) == 1 && decide (p5 (toC (3:Int) (1:Int) [] [] w4) [] w4 [] w4 = []) && (↑(p5 (toC (3:Int) (1:Int) [] [] w4) [] tZ [] (av (3:Int) tZ tZ)).length:Int) == 0 && (↑(p5 (toC (3:Int) (1:Int) [] [] w4) [] tZ (sw (av (3:Int) tZ tZ) [] (vK (av (3:Int) [] []) (av (3:Int) [] []))) tZ).length:Int) == 1 && (18:Int) == 18 && !exV (3:Int) (2:Int) [] [] w19 && exV (3:Int) (3:Int) [] [] w19 && exV (3:Int) (1:Int) [] [] w4)]):=by kernel_rfl
theorem okXn:okX []:=⟨by decide,fun k h0 h=>by simp at h; omega⟩
theorem ascn:asc []:=⟨fun i j _ h=>by simp at h⟩
def slX:List (List IV):=[[.int .i32 0,.bool false,.int .u8 0]]
theorem okT6s:okT6 slX:=⟨by decide,fun k h0 h=>by
 have h:k < 1:=h
 obtain rfl:k = 0:=by omega
 rfl,rfl⟩
theorem okEc (v:Int) (f:List UInt8) (hf:(f.length:Int)≤1000000):Q6.okE 3 [] [] slX [0] [] [] [] [] [] slX [0] [] [] [] f:=⟨okXn,hf⟩
theorem okVc:okV [] [] slX [0] [] [] []:=⟨by decide,ascn,rfl,okT6s,by decide,okXn,by decide,by decide⟩
theorem okToc (v:Int) (f:List UInt8) (hf:(f.length:Int)≤1000000):okTo 3 [] [] slX [0] [] [] [] [] [] slX [0] [] [] [] f v:=⟨okEc v f hf,fun _ _=>okVc⟩
theorem okH13b:EOK Tryz.prog B1 G6:=okF37
theorem few_lens {T:List Int} {I:List UInt8} {X:List (List IV)} {C:List UInt8} {L:List (List IV)} {S U:List Bool} (h:fewB T I X C L S U = true):T.length≤200∧I.length≤200∧X.length≤200∧C.length≤600∧L.length≤200∧S.length≤200∧U.length≤200:=by
 unfold fewB at h
 simp only [Bool.and_eq_true,decide_eq_true_eq] at h
 obtain ⟨⟨⟨⟨⟨⟨a,b⟩,c⟩,d⟩,e⟩,f⟩,g⟩:=h
 exact ⟨a,b,c,d,e,f,g⟩
theorem okBp_few {T:List Int} {I:List UInt8} {X:List (List IV)} {C:List UInt8} {L:List (List IV)} {S U:List Bool} (h:fewB T I X C L S U = true) (hx:okXL X L):okBp T I X C L S U:=by
 obtain ⟨a,b,c,d,e,f,g⟩:=few_lens h
 exact ⟨hx.x,hx.l,by omega,by omega,by omega,by omega,by omega,by omega⟩
theorem okB_few {T:List Int} {I:List UInt8} {X:List (List IV)} {C:List UInt8} {L:List (List IV)} {S U:List Bool} (h:fewB T I X C L S U = true) (hx:okXL X L):okB T I X C L S U:=by
 obtain ⟨a,b,c,d,e,f,g⟩:=few_lens h
 have hb:big' = 1000000000000:=rfl
 exact ⟨hx.x,hx.l,by omega,by omega,by omega,by omega,by omega,by omega,by omega⟩
theorem ok6:∀ args pres res,sVal args = some (pres,res)→SpecOK Tryz.prog G6 5 args pres res:=by
 intro args pres res h
 unfold sVal at h
 split at h
 case h_2=>cases h
 cases h
 rename_i n T I X C L S U T' I' X' C' L' S' U' f
 refine spec_ok (C:=V6) okH13b noCall_ok Tryz.func5 (by kernel_rfl) (by kernel_rfl) (fun hp=>?_)
 have h1:okXL X L:=hp (okXL X L) (by simp)
 have h2:okXL X' L':=hp (okXL X' L') (by simp)
 refine Eq.mpr (g6_in n T I X C L S U T' I' X' C' L' S' U' f _) ⟨fun hf=>?_,rfl⟩
 unfold fewF at hf
 simp only [Bool.and_eq_true,decide_eq_true_eq] at hf
 obtain ⟨⟨f1,f2⟩,f3⟩:=hf
 obtain ⟨a,b,c,d,e,s,u⟩:=few_lens f2
 exact ⟨okBp_few f1 h1,okBp_few f2 h2,by omega,by omega⟩
theorem ok11:∀ args pres res,sSaF args = some (pres,res)→SpecOK Tryz.prog G6 8 args pres res:=by
 intro args pres res h
 unfold sSaF at h
 split at h
 case h_2=>cases h
 cases h
 rename_i n T I X C L S U T' I' X' C' L' S' U' f m T1 I1 X1 C1 L1 S1 U1 T2 I2 X2 C2 L2 S2 U2 g
 refine spec_ok (C:=V11) okH13b noCall_ok Tryz.func8 (by kernel_rfl) (by kernel_rfl) (fun hp=>?_)
 have hO:okSa n T I X C L S U T' I' X' C' L' S' U' f m T1 I1 X1 C1 L1 S1 U1 T2 I2 X2 C2 L2 S2 U2 g:=hp (okSa n T I X C L S U T' I' X' C' L' S' U' f m T1 I1 X1 C1 L1 S1 U1 T2 I2 X2 C2 L2 S2 U2 g) (by simp)
 exact Eq.mpr (g11_in n T I X C L S U T' I' X' C' L' S' U' f m T1 I1 X1 C1 L1 S1 U1 T2 I2 X2 C2 L2 S2 U2 g _) ⟨fun _=>hO.a,fun _=>hO.c,fun _=>hO.b,fun _=>hO.d,rfl⟩
theorem okH14:EOK Tryz.prog H14 G6:=addE_ok (addE_ok okH13b ok6) ok11
theorem ok5:∀ args pres res,sAwk args = some (pres,res)→SpecOK Tryz.prog G6 4 args pres res:=by
 intro args pres res h
 unfold sAwk at h
 split at h
 case h_2=>cases h
 cases h
 refine spec_ok (C:=V5) okH14 noCall_ok Tryz.func4 (by kernel_rfl) (by kernel_rfl) (fun hp=>?_)
 refine Eq.mpr (g5_in _) ?_
 repeat' apply And.intro
 all_goals first | exact okToc _ _ (by decide) | exact fun _=>okEc 0 _ (by decide) | decide | skip
 kernel_rfl
theorem okH15:EOK Tryz.prog H15 G6:=addE_ok okH14 ok5
theorem asc_of {T:List Int} (h:ascP T):asc T:=by
 refine ⟨fun i j hij hj=>?_⟩
 induction j with
 | zero=>omega
 | succ j ih =>
  have h1:=h j hj
  rcases Nat.lt_or_ge i j with hlt | hge
  ·have:=ih hlt (by omega)
   omega
  ·have:i = j:=by omega
   rw [this]; exact h1
theorem okX_of {L:List (List IV)} (h:okL L) (hl:L.length≤1000000):okX L:=by
 obtain ⟨M,rfl,_,_⟩:=okL_elim h
 refine ⟨by omega,fun k h0 h1=>?_⟩
 rw [List.length_map] at h1
 exact kcL h0 h1
theorem okT_isSl (M:List Ty):(IV.sl 3 (M.map cellsT)).isSl = true:=by
 show (M.map cellsT).all (fun x=>Nat.beq x.length 3) = true
 rw [List.all_map,List.all_eq_true]
 intro t _
 rfl
theorem okT6_of {X:List (List IV)} (h:okT X) (hl:X.length≤1000000):okT6 X:=by
 obtain ⟨e,h2⟩:=h
 have hlen:(tys X).length = X.length:=tys_len ⟨e,h2⟩
 refine ⟨by omega,fun k h0 h1=>?_,?_⟩
 ·rw [e]
  exact kcT h0 (by omega)
 ·rw [e]
  exact okT_isSl _
theorem okV_of {T:List Int} {I:List UInt8} {X:List (List IV)} {C:List UInt8} {L:List (List IV)} {S U:List Bool} (hf:fewB T I X C L S U = true) (hx:okXL X L) (ha:ascP T) (hi:I.length = T.length):okV T I X C L S U:=by
 obtain ⟨a,b,c,d,e,s,u⟩:=few_lens hf
 exact ⟨by omega,asc_of ha,hi,okT6_of hx.x (by omega),by omega,okX_of hx.l (by omega),by omega,by omega⟩
theorem sameK_refl (T:List Int) (I:List UInt8) (X:List (List IV)) (C:List UInt8) (L:List (List IV)) (S U:List Bool):sameK T I X C L S U T I X C L S U = true:=by
 unfold sameK; simp
theorem okBs:okB [] [] slX [0] [] [] []:=by
 refine ⟨⟨rfl,fun t ht=>?_⟩,⟨rfl,fun l hl=>by simp [lps] at hl⟩,by decide,by decide,by decide,by decide,by decide,by decide,by decide⟩
 have:t = ⟨0,false,0⟩:=by
  have ht:t ∈ [(⟨0,false,0⟩:Ty)]:=ht
  simpa using ht
 subst this
 exact ⟨by decide,by decide,by decide,by decide⟩
theorem sw_len {α:Type} (l:List α) (d:α) (k:Int):(sw l d k).length = l.length:=by
 unfold sw
 split
 ·rw [List.length_set,List.length_set]
 ·rfl
end Q6
namespace Go.AE
open Go.ChangeShapes Go.WideShapes Go.ChangeAt Go.RowKit
section
variable {H:Type} {enc:TypeId×Value→H} {P:Program}
theorem args_stay (hl:laidOutB P = true) {W W':World} {sp':Nat→Bool}:∀ {ts:List TypeId} {vs:List Value} {ds:List (DataW H)} {ps:List MemPlace},
  lall (fun t=>bif P.readableRec t then decide (t < P.types.size) else false) ts = true→DataW.TrodAll enc P W 0 (fun _=>true) true ts vs ds ps→(∀ p ∈ ps,W.sameAt W' p)→(∀ p ∈ ps,sp' p.block = true) →
  DataW.TrodAll enc P W' 0 sp' true ts vs ds ps
 | [],[],[],_,_,h,_,_=>h
 | [],_ :: _,_,_,_,h,_,_=>h.elim
 | [],[],_ :: _,_,_,h,_,_=>h.elim
 | _ :: _,[],_,_,_,h,_,_=>h.elim
 | _ :: _,_ :: _,[],_,_,h,_,_=>h.elim
 | t :: ts,v :: vs,d :: ds,ps,hc,h,hs,hp=>by
  obtain ⟨p,q,h1,h2,rfl⟩:=h
  rw [lall] at hc
  cases hb:(bif P.readableRec t then decide (t < P.types.size) else false) with
  | false=>rw [hb] at hc; cases hc
  | true =>
   rw [hb] at hc
   cases hr:P.readableRec t with
   | false=>rw [hr] at hb; cases hb
   | true =>
    rw [hr] at hb
    exact ⟨p,q,WideElems.Trod_stays hl hr (of_decide_eq_true hb) h1 (fun x hx=>hs x (by simp [hx])) (fun x hx=>hp x (by simp [hx])),
     args_stay hl hc h2 (fun x hx=>hs x (by simp [hx])) (fun x hx=>hp x (by simp [hx])),rfl⟩
end
inductive KRep:List CK→List IV→List Value→Prop
 | nil:KRep [] [] []
 | int {k:IntKind} {n:Int} {ks:List CK} {is:List IV} {vs:List Value}:InR k n→KRep ks is vs→KRep (.int k :: ks) (.int k n :: is) (.int k n :: vs)
 | bool {b:Bool} {ks:List CK} {is:List IV} {vs:List Value}:KRep ks is vs→KRep (.bool :: ks) (.bool b :: is) (.bool b :: vs)
 | str {s:ByteArray} {ks:List CK} {is:List IV} {vs:List Value}:(bytesOf s).length≤9223372036854775807→KRep ks is vs→KRep (.str :: ks) (.str (bytesOf s) :: is) (.string s :: vs)
theorem KRep.app {ks ks':List CK} {is is':List IV} {vs vs':List Value} (h:KRep ks is vs) (h':KRep ks' is' vs'):KRep (ks ++ ks') (is ++ is') (vs ++ vs'):=by
 induction h with
 | nil=>exact h'
 | int h1 _ ih=>exact .int h1 ih
 | bool _ ih=>exact .bool ih
 | str h1 _ ih=>exact .str h1 ih
theorem KRep.len {ks:List CK} {is:List IV} {vs:List Value} (h:KRep ks is vs):is.length = ks.length∧vs.length = ks.length:=by
 induction h with
 | nil=>exact ⟨rfl,rfl⟩
 | int _ _ ih=>simp [ih]
 | bool _ ih=>simp [ih]
 | str _ _ ih=>simp [ih]
theorem KRep.cons_int {k:IntKind} {ks:List CK} {is:List IV} {vs:List Value} (h:KRep (.int k :: ks) is vs):∃ n is' vs',is = .int k n :: is'∧vs = .int k n :: vs'∧InR k n∧KRep ks is' vs':=by
 cases h with
 | int h1 h2=>exact ⟨_,_,_,rfl,rfl,h1,h2⟩
theorem KRep.cons_bool {ks:List CK} {is:List IV} {vs:List Value} (h:KRep (.bool :: ks) is vs):∃ b is' vs',is = .bool b :: is'∧vs = .bool b :: vs'∧KRep ks is' vs':=by
 cases h with
 | bool h2=>exact ⟨_,_,_,rfl,rfl,h2⟩
theorem KRep.end {is:List IV} {vs:List Value} (h:KRep [] is vs):is = []∧vs = []:=by
 cases h; exact ⟨rfl,rfl⟩
theorem KRep.rep {w:World} {own:Nat→Prop} {ks:List CK} {is:List IV} {vs:List Value} (h:KRep ks is vs):∀ (j:Nat) c,is[j]? = some c→Rep w own c (vs.getD j undef)∧(vs.getD j undef).oneCell' = true:=by
 have one:∀ {c:IV} {V:Value} {is:List IV} {vs:List Value},Rep w own c V→(∀ (j:Nat) c,is[j]? = some c→Rep w own c (vs.getD j undef)∧(vs.getD j undef).oneCell' = true) →
   ∀ (j:Nat) c',(c :: is)[j]? = some c'→Rep w own c' ((V :: vs).getD j undef)∧((V :: vs).getD j undef).oneCell' = true:=by
  intro c V is vs h1 h2 j c' hc
  cases j with
  | zero=>simp only [List.getElem?_cons_zero,Option.some.injEq] at hc; subst hc; exact ⟨h1,h1.oneCell⟩
  | succ j=>exact h2 j c' (by simpa using hc)
 induction h with
 | nil=>intro j c hc; simp at hc
 | int h1 _ ih=>exact one (.int h1) ih
 | bool _ ih=>exact one .bool ih
 | str h1 _ ih=>exact one (.str rfl h1) ih
section
variable {H:Type} {enc:TypeId×Value→H} {P:Program} {w:World} {base:Nat} {sp:Nat→Bool} {held:Bool}
theorem inR_wf {k:IntKind} {n:Int} (h:(Lit.int k n).wf = true):InR k n:=by
 simp only [Lit.wf,Bool.and_eq_true,decide_eq_true_eq] at h
 exact ⟨by have:=h.1; omega,by have:=h.2; omega⟩
mutual
theorem flat_open:∀ (d:Nat) {t:TypeId} {ks:List CK} {n:Nat} {cs:List Value} {x:DataW H×List MemPlace},flatK P false d t = some ks→DataW.trod enc P w base sp held n t cs = some x→(∃ is,KRep ks is cs)∧x.2 = []
 | 0,t,ks,n,cs,x,h,_=>by simp [flatK] at h
 | d + 1,t,ks,n,cs,x,h,hx=>by
  unfold flatK at h
  split at h
  ·rename_i k hu
   cases h
   obtain ⟨m,rfl,rfl,hw⟩:=DataW.trod_int hu hx
   exact ⟨⟨[.int k m],.int (inR_wf hw) .nil⟩,rfl⟩
  ·rename_i hu
   cases h
   obtain ⟨b,rfl,rfl⟩:=DataW.trod_bool hu hx
   exact ⟨⟨[.bool b],.bool .nil⟩,rfl⟩
  ·rename_i hu
   cases h
   obtain ⟨s,rfl,rfl,hs⟩:=DataW.trod_string hu hx
   exact ⟨⟨[.str (bytesOf s)],.str (by rw [← size_bytes]; exact hs) .nil⟩,rfl⟩
  ·rename_i fs hu
   obtain ⟨xs,m,rfl,rfl,hlen,hsz,hf⟩:=DataW.trod_struct hu hx
   cases hF:flatF P false d 0 fs.toList with
   | none=>rw [hF] at h; cases h
   | some ks' =>
    rw [hF] at h
    cases hb:Nat.beq (llen ks') (P.cellsOf t) with
    | false=>simp only [hb,cond_false] at h; cases h
    | true =>
     simp only [hb,cond_true] at h
     cases h
     have hb':=nbeq hb
     obtain ⟨⟨is,his⟩,hp⟩:=flatF_open d (o:=0) (xs:=xs) (cs:=cs) (n:=m) hF (by simp [hsz]) (fun i f hi=>hf i f (by simpa using hi))
     refine ⟨⟨is,?_⟩,?_⟩
     ·rw [List.drop_zero,List.take_of_length_le (by rw [hlen,← hb',llen_eq]; exact Nat.le_refl _)] at his
      exact his
     ·simp only [List.flatMap_eq_nil_iff]
      exact hp
  ·cases h
  ·cases h
  ·cases h
theorem flatF_open:∀ (d:Nat) {o:Nat} {fs:List Field} {ks:List CK} {n:Nat} {cs:List Value} {xs:List (DataW H×List MemPlace)},flatF P false d o fs = some ks→xs.length = fs.length →
  (∀ (i:Nat) (f:Field),fs[i]? = some f→DataW.trod enc P w base sp held n f.type ((cs.drop f.offset).take (P.cellsOf f.type)) = xs[i]?)→(∃ is,KRep ks is ((cs.drop o).take ks.length))∧∀ x ∈ xs,x.2 = []
 | 0,o,fs,ks,n,cs,xs,h,_,_=>by simp [flatF] at h
 | d + 1,o,[],ks,n,cs,xs,h,hl,_=>by
  simp only [flatF] at h
  cases h
  have:xs = []:=by simpa using hl
  subst this
  exact ⟨⟨[],by simpa using KRep.nil⟩,fun x hx=>by cases hx⟩
 | d + 1,o,f :: r,ks,n,cs,xs,h,hl,hf=>by
  unfold flatF at h
  cases hK:flatK P false d f.type with
  | none=>rw [hK] at h; cases h
  | some k1 =>
   rw [hK] at h
   cases hb:Nat.beq f.offset o with
   | false=>simp only [hb,cond_false] at h; cases h
   | true =>
    simp only [hb,cond_true] at h
    cases hb2:Nat.beq (llen k1) (P.cellsOf f.type) with
    | false=>simp only [hb2,cond_false] at h; cases h
    | true =>
     simp only [hb2,cond_true] at h
     cases hF:flatF P false d (o + llen k1) r with
     | none=>rw [hF] at h; cases h
     | some k2 =>
      rw [hF] at h
      simp only [omap,Option.some.injEq] at h
      subst h
      match xs,hl with
      | x :: xs,hl =>
       have h0:=hf 0 f rfl
       have e1:=nbeq hb
       have e2:=nbeq hb2
       obtain ⟨⟨i1,hi1⟩,hp1⟩:=flat_open d hK (by simpa using h0)
       obtain ⟨⟨i2,hi2⟩,hp2⟩:=flatF_open d (n:=n) (cs:=cs) (xs:=xs) hF (by simpa using hl) (fun i f hi=>by simpa using hf (i + 1) f (by simpa using hi))
       refine ⟨⟨i1 ++ i2,?_⟩,?_⟩
       ·rw [lapp_eq,List.length_append]
        have:(cs.drop o).take (k1.length + k2.length) = ((cs.drop o).take k1.length) ++ ((cs.drop (o + k1.length)).take k2.length):=by
         rw [List.take_add,List.drop_drop]
        rw [this]
        have h3:KRep k1 i1 ((cs.drop o).take k1.length):=by
         rw [← llen_eq,e2,← e1]; exact hi1
        refine h3.app ?_
        rw [llen_eq] at hi2
        exact hi2
       ·intro y hy
        rcases List.mem_cons.1 hy with rfl | hy
        ·exact hp1
        ·exact hp2 y hy
end
end
theorem bool_calls {P:Program} {G:Nat→Option (List AV)} {f:FuncId} {args:List AV} {pres:List Prop} {b:Bool} (h:SpecOK P G f args pres [.imm (.bool b)]) (hp:∀ p,p ∈ pres→p) (w:World) (vals:Array Value) (hs:vals.size = args.length)
  (ha:∀ (j:Nat) c,args[j]? = some c→ARep (zeroGh w (fun _=>False)) c (vals.getD j undef)) (hG:GOK G w (fun _=>False)):Calls P f vals w fun e w'=>e = .returned (.bool b)∧RowKit.Below w.heap.size w w':=by
 refine (h.calls hp w (fun _=>False) vals (fun _ h=>h.elim) hs ha hG).mono ?_
 rintro e w' ⟨Vs,bs,rfl,hb,hr,_⟩
 refine ⟨?_,hb⟩
 cases hr with
 | one _ h1 _ h2 =>
  cases h2
  cases h1 with
  | imm h3 _ =>
   have:=rep_bool h3
   subst this
   rfl
theorem post_of_below {H:Type} {enc:TypeId×Value→H} {P:Program} {f:Func} {s:ChangeSpec} {apart fresh handsOn again:Bool} {W W':World} {args:Array Value} {v:Value} {ds gs:List (DataW H)} {before pa pv:List MemPlace}
  (hW:DataW.Whole enc P f.params.toList s.vars apart W args.toList ds gs before)
  (hres:∀ (b:Nat) (sp:Nat→Bool) (hd:Bool),DataW.TrodAll enc P W' b sp hd f.resultTypes.toList (v.resultList f.resultTypes.size) (s.fn H (ds ++ gs)).results [])
  (hargs:∀ sp:Nat→Bool,(∀ p ∈ before,sp p.block = true)→DataW.TrodAll enc P W' 0 sp true f.params.toList args.toList (s.fn H (ds ++ gs)).args pa)
  (hvars:∀ sp:Nat→Bool,(∀ p ∈ before,sp p.block = true)→DataW.TrodVars enc P W' sp s.vars (s.fn H (ds ++ gs)).vars pv)
  (hps:before = pa ++ pv) (hb:Below W.heap.size W W')
  (hok:∀ (j:Nat) (t:TypeId) (r:Value),f.resultTypes[j]? = some t→(v.resultList f.resultTypes.size)[j]? = some r→Value.okWide P W' .any 0 t r) :
  s.post enc P f apart fresh handsOn again W args v W':=by
 have hold:∀ p ∈ before,(fun b=>decide (b < W.heap.size)) p.block = true:=fun p hp=>by simpa using hW.lt p hp
 have hlt:∀ p ∈ before,p.block < W.heap.size:=fun p hp=>hW.lt p hp
 refine ⟨ds,gs,before,[],pa,pv,hW,hres _ _ _,hargs _ hold,hvars _ hold,World.keptBut_mono (fun p hp=>⟨hp,?_⟩) (hb.frame (· ∈ before)),fun _=>?_⟩
 ·rw [hps,List.mem_append] at hp
  exact Or.inr hp
 ·obtain ⟨_,_,_,_,_,hz,hn⟩:=hW
  refine ⟨hok,_,_,([] ++ pa) ++ pv,⟨[] ++ pa,pv,trodAll_append (hargs _ (fun _ _=>rfl)) (hres _ _ _),hvars _ (fun _ _=>rfl),rfl,?_,?_⟩,?_⟩
  ·intro b off hp
   have hp':MemPlace.cell b off ∈ before:=by rw [hps]; simpa using hp
   rw [World.frozen?_of_block (hb.block _ (hlt _ hp'))]
   exact hz b off hp'
  ·intro ha
   have:=hn ha
   rw [hps] at this
   simpa using this
  ·intro p hp _
   rw [hps]
   simpa using hp
section
variable {H:Type} {enc:TypeId×Value→H} {P:Program} {w:World}
theorem all_cons {base:Nat} {sp:Nat→Bool} {held:Bool} {t:TypeId} {ts:List TypeId} {vs:List Value} {ds:List (DataW H)} {ps:List MemPlace} (h:DataW.TrodAll enc P w base sp held (t :: ts) vs ds ps) :
  ∃ v vs' d ds' p q,vs = v :: vs'∧ds = d :: ds'∧DataW.Trod enc P w base sp held t v d p∧DataW.TrodAll enc P w base sp held ts vs' ds' q∧ps = p ++ q:=by
 match vs,ds,h with
 | v :: vs',d :: ds',h =>
  obtain ⟨p,q,h1,h2,h3⟩:=h
  exact ⟨v,vs',d,ds',p,q,rfl,rfl,h1,h2,h3⟩
theorem all_nil {base:Nat} {sp:Nat→Bool} {held:Bool} {vs:List Value} {ds:List (DataW H)} {ps:List MemPlace} (h:DataW.TrodAll enc P w base sp held [] vs ds ps):vs = []∧ds = []∧ps = []:=by
 match vs,ds,h with
 | [],[],h=>exact ⟨rfl,rfl,h⟩
theorem KRep.arep {g:Gh} {ks:List CK} {is:List IV} {vs:List Value} (h:KRep ks is vs):ARep g (.agg (lmap .imm is)) (.agg ⟨vs⟩):=by
 have hl:=h.len
 have e:∀ j,(⟨vs⟩:Array Value).getD j undef = vs.getD j undef:=fun j=>by simp [Array.getD_eq_getD_getElem?,List.getD_eq_getElem?_getD]
 refine .agg (by rw [lmap_eq]; simp [hl]) (fun j c hc=>?_) (fun j hj=>?_)
 ·rw [lmap_eq,List.getElem?_map] at hc
  cases hi:is[j]? with
  | none=>rw [hi] at hc; cases hc
  | some i =>
   rw [hi] at hc
   cases hc
   rw [e]
   exact .imm (h.rep (w:=g.w) (own:=g.own) j i hi).1
 ·have hj':j < is.length:=by simp at hj; omega
  rw [e]
  exact (h.rep (w:=g.w) (own:=g.own) j is[j] (List.getElem?_eq_getElem hj')).2
theorem row_post {f:Func} {s:ChangeSpec} {apart fresh handsOn again:Bool} {W W':World} {args:Array Value} {ds:List (DataW H)} {before:List MemPlace} {tb:TypeId}
  (hW:DataW.Whole enc P f.params.toList s.vars apart W args.toList ds [] before) (hv:s.vars = []) (hl:laidOutB P = true) (hc:lall (fun t=>bif P.readableRec t then decide (t < P.types.size) else false) f.params.toList = true)
  (hfn:s.fn H (ds ++ []) = { results:=[.lit (.bool true)],args:=ds }) (hr:f.resultTypes = #[tb]) (hu:P.underlying tb = some .bool) (hb:Below W.heap.size W W'):s.post enc P f apart fresh handsOn again W args (.bool true) W':=by
 have hW0:=hW
 obtain ⟨p,q,hA,hV,rfl,_,_⟩:=hW
 rw [hv] at hV
 obtain ⟨_,rfl⟩:=trodVars_none hV
 refine post_of_below (ds:=ds) (gs:=[]) (pa:=p) (pv:=[]) hW0 (fun b sp hd=>?_) (fun sp hsp=>?_) (fun sp hsp=>?_) rfl hb ?_
 ·rw [hfn,hr]
  exact trodAll_mk1 (shut_bool hu true)
 ·rw [hfn]
  exact args_stay hl hc hA (fun x hx=>hb.same (hW0.lt x (by simp [hx]))) (fun x hx=>hsp x (by simp [hx]))
 ·rw [hfn,hv]
  first | done | rfl
 ·intro j t r ht hr'
  rw [hr] at ht hr'
  cases j with
  | zero =>
   cases ht
   cases hr'
   exact okWide_bool_mk hu true
  | succ j=>simp at ht
end
end Go.AE
namespace Go.AE
open Go.ChangeShapes Go.WideShapes Go.ChangeAt Go.RowKit
section
variable {H:Type} {enc:TypeId×Value→H} {P:Program} {w:World}
theorem open_slice {t e:TypeId} {ks:List CK} {b0:Nat} {v:Value} {d:DataW H} {ps:List MemPlace} {r:Reach} {sp:Nat→Bool} {held:Bool} {base:Nat} (ht:P.underlying t = some (.slice e)) (hk:flatK P false 40 e = some ks) (hc:P.cellsOf e = ks.length) (hb:1≤P.bytesOf e)
  (hval:Value.okWide P w r b0 t v) (hd:DataW.Trod enc P w base sp held t v d ps) (hsz:∀ el rs,d = .slice el rs→(el.length + rs.length) * P.bytesOf e≤reachBytes) :
  ∃ xs:List (List IV),(∀ x ∈ xs,∃ vs,KRep ks x vs)∧xs.length≤281474976710656∧∀ iv:IV,iv.isSl = true→iv.len = some xs.length→iv.esize = ks.length→(∀ i j c,iv.cellAt i j = some c→(xs[i]?).bind (·[j]?) = some c)→Rep w (fun _=>False) iv v:=by
 obtain ⟨fuel,hf⟩:=hd
 rcases DataW.trod_slice ht hf with ⟨h0,_⟩ | ⟨a,len,cap,elems,rest,n,_,hcs,hx,_,hl,hm,hlen,hel,_⟩
 ·refine ⟨[],⟨(fun x hx=>absurd hx (by simp)),by simp,fun iv h1 h2 _ _=>?_⟩⟩
  obtain ⟨a',l',c',rfl⟩:=okWide_slice ht hval
  simp only [Value.cells,List.cons.injEq,and_true] at h0
  rw [h0]
  exact .nilSlice h1 h2
 ·obtain ⟨a',l',c',rfl⟩:=okWide_slice ht hval
  simp only [Value.cells,List.cons.injEq,and_true] at hcs
  simp only [Value.slice.injEq] at hcs
  obtain ⟨rfl,rfl,rfl⟩:=hcs
  have hv:l'≤c'∧(c':Int)≤IntKind.i64.max∧w.has P r b0 a e c':=by
   simpa [Value.okWide,Cell.okWide,Cell.ok,ht] using hval
  obtain ⟨_,hcap,_,_,row,cells,hsh,_⟩:=hv
  have hblk:a.block < w.heap.size:=by
   unfold World.shape? at hsh
   cases hq:w.heap[a.block]? with
   | none=>rw [hq] at hsh; cases hsh
   | some o=>exact (Array.getElem?_eq_some_iff.1 hq).1
  have each:∀ i (hi:i < elems.length),∃ cs is,w.cells? base (a.add (i * P.cellsOf e)) (P.cellsOf e) = some cs∧KRep ks is cs:=by
   intro i hi
   have h1:=hel i (by omega)
   rw [List.getElem?_eq_getElem hi,Option.bind_eq_some_iff] at h1
   obtain ⟨cs,hcs,hy⟩:=h1
   obtain ⟨⟨is,his⟩,_⟩:=flat_open 40 hk hy
   exact ⟨cs,is,hcs,his⟩
  have hcap':c'≤9223372036854775807:=by
   have h9:IntKind.i64.max = 9223372036854775807:=rfl
   rw [h9] at hcap; omega
  have hch:∃ F:Nat→List Value×List IV,∀ i,i < elems.length→w.cells? base (a.add (i * P.cellsOf e)) (P.cellsOf e) = some (F i).1∧KRep ks (F i).2 (F i).1:=by
   refine ⟨fun i=>if hi:i < elems.length then ((each i hi).choose,(each i hi).choose_spec.choose) else ([],[]),fun i hi=>?_⟩
   simp only [dif_pos hi]
   exact (each i hi).choose_spec.choose_spec
  obtain ⟨F,hF⟩:=hch
  have hlen2:l'≤281474976710656:=by
   have hxs:=hsz (elems.map (·.1)) (rest.map (·.1)) (congrArg Prod.fst hx)
   simp only [List.length_map] at hxs
   have:elems.length + rest.length≤(elems.length + rest.length) * P.bytesOf e:=Nat.le_mul_of_pos_right _ hb
   unfold reachBytes at hxs
   omega
  refine ⟨(List.range l').map fun i=>(F i).2,fun x hx=>?_,by simpa using hlen2,fun iv h1 h2 h3 h4=>?_⟩
  ·obtain ⟨i,hi,rfl⟩:=List.mem_map.1 hx
   have:=List.mem_range.1 hi
   exact ⟨_,(hF i (by omega)).2⟩
  ·have key:∀ i j c,iv.cellAt i j = some c→i < l'∧(F i).2[j]? = some c:=by
    intro i j c hcc
    have h5:=h4 i j c hcc
    rw [List.getElem?_map] at h5
    cases hi:(List.range l')[i]? with
    | none=>rw [hi] at h5; cases h5
    | some i' =>
     rw [hi] at h5
     obtain ⟨h6,h7⟩:=List.getElem?_eq_some_iff.1 hi
     simp only [List.length_range] at h6
     simp only [List.getElem_range] at h7
     subst h7
     exact ⟨h6,by simpa using h5⟩
   refine .slice (fun i j=>(F i).1.getD j undef) h1 (by simpa using h2) hl hcap' hlen2 (fun h=>h) hblk (fun i j c hcc=>?_) (fun i j c hcc=>?_)
   ·obtain ⟨hi,hj⟩:=key i j c hcc
    obtain ⟨hc1,hk1⟩:=hF i (by omega)
    obtain ⟨_,hn1,hcell⟩:=World.cells?_some hc1
    have hj':j < ks.length:=by rw [← hk1.len.1]; exact (List.getElem?_eq_some_iff.1 hj).1
    have:=hcell j (by rw [hc]; exact hj')
    rw [h3,← hc]
    have e1:(a.add (i * P.cellsOf e)).add j = a.add (i * P.cellsOf e + j):=by
     unfold Addr.add; split <;> split <;> simp_all <;> omega
    rw [e1] at this
    rw [this,List.getElem?_eq_getElem (by rw [hn1,hc]; exact hj')]
    simp [List.getD_eq_getElem?_getD,List.getElem?_eq_getElem (show j < (F i).1.length by rw [hn1,hc]; exact hj')]
   ·obtain ⟨hi,hj⟩:=key i j c hcc
    obtain ⟨hc1,hk1⟩:=hF i (by omega)
    exact (hk1.rep j c hj).1
end
end Go.AE
namespace Go.AE
open Go.ChangeShapes Go.WideShapes Go.ChangeAt Go.RowKit
inductive MK where
 | ck (c:CK)
 | sl (ks:List CK)
mutual
def mixK (P:Program):Nat→TypeId→Option (List (TypeId×MK))
 | 0,_=>none
 | d + 1,t=>match P.underlying t with
  | some (.int k)=>some [(t,.ck (.int k))]
  | some .bool=>some [(t,.ck .bool)]
  | some .string=>some [(t,.ck .str)]
  | some (.slice e)=>match flatK P false 40 e with
   | some ks=>bif Nat.beq (P.cellsOf e) (llen ks) then (bif Nat.ble 1 (P.bytesOf e) then some [(t,.sl ks)] else none) else none
   | none=>none
  | some (.struct fs)=>match mixF P d 0 fs.toList with
   | some ks=>bif Nat.beq (llen ks) (P.cellsOf t) then some ks else none
   | none=>none
  | _=>none
def mixF (P:Program):Nat→Nat→List Field→Option (List (TypeId×MK))
 | 0,_,_=>none
 | _ + 1,_,[]=>some []
 | d + 1,o,f :: r=>match mixK P d f.type with
  | some ks=>bif Nat.beq f.offset o then (bif Nat.beq (llen ks) (P.cellsOf f.type) then omap (lapp ks) (mixF P d (o + llen ks) r) else none) else none
  | none=>none
end
def MOk (w:World):MK→Value→Prop
 | .ck (.int k),v=>∃ n,v = .int k n∧InR k n
 | .ck .bool,v=>∃ b,v = .bool b
 | .ck .str,v=>∃ s,v = .string s∧(bytesOf s).length≤9223372036854775807
 | .ck .any,_=>False
 | .sl ks,v=>∃ xs:List (List IV),(∀ x ∈ xs,∃ vs,KRep ks x vs)∧xs.length≤281474976710656∧∀ iv:IV,iv.isSl = true→iv.len = some xs.length→iv.esize = ks.length→(∀ i j c,iv.cellAt i j = some c→(xs[i]?).bind (·[j]?) = some c)→Rep w (fun _=>False) iv v
def mall (w:World):List (TypeId×MK)→List Value→Prop
 | [],[]=>True
 | k :: ks,v :: vs=>MOk w k.2 v∧mall w ks vs
 | _,_=>False
theorem mall_cons {w:World} {k:TypeId×MK} {ks:List (TypeId×MK)} {vs:List Value} (h:mall w (k :: ks) vs):∃ v vs',vs = v :: vs'∧MOk w k.2 v∧mall w ks vs':=by
 match vs,h with
 | v :: vs',h=>exact ⟨v,vs',rfl,h.1,h.2⟩
theorem mall_nil {w:World} {vs:List Value} (h:mall w [] vs):vs = []:=by
 match vs,h with
 | [],_=>rfl
theorem mall_app {w:World}:∀ {ks ks':List (TypeId×MK)} {vs vs':List Value},mall w ks vs→mall w ks' vs'→mall w (ks ++ ks') (vs ++ vs')
 | [],_,[],_,_,h'=>h'
 | _ :: _,_,_ :: _,_,h,h'=>⟨h.1,mall_app h.2 h'⟩
 | [],_,_ :: _,_,h,_=>h.elim
 | _ :: _,_,[],_,h,_=>h.elim
section
variable {H:Type} {enc:TypeId×Value→H} {P:Program} {w:World} {base b0:Nat} {sp:Nat→Bool} {held:Bool} {r:Reach}
theorem all_weights_field {fs:List Field} {xs:List (DataW H×List MemPlace)} (h:(DataW.weightsEach P (fs.map (·.type)) (xs.map (·.1))).all (·≤reachBytes) = true) {i:Nat} {f:Field} {x:DataW H×List MemPlace} (hf:fs[i]? = some f) (hx:xs[i]? = some x) :
  (x.1.weights P f.type).all (·≤reachBytes) = true:=by
 rw [List.all_eq_true] at h ⊢
 exact fun n hn=>h n (DataW.weights_mem_each (j:=i) (t:=f.type) (d:=x.1) (by simp [List.getElem?_map,hf]) (by simp [List.getElem?_map,hx]) n hn)
mutual
theorem mix_open:∀ (d:Nat) {t:TypeId} {ks:List (TypeId×MK)} {n:Nat} {cs:List Value} {x:DataW H×List MemPlace},mixK P d t = some ks→DataW.trod enc P w base sp held n t cs = some x→(x.1.weights P t).all (·≤reachBytes) = true →
  (∀ (j:Nat) v,cs[j]? = some v→∃ u,(ks.map (·.1))[j]? = some u∧Cell.okWide P w r b0 u v)→mall w ks cs
 | 0,t,ks,n,cs,x,h,_,_,_=>by simp [mixK] at h
 | d + 1,t,ks,n,cs,x,h,hx,hz,hw=>by
  unfold mixK at h
  split at h
  ·rename_i k hu
   cases h
   obtain ⟨m,rfl,rfl,hm⟩:=DataW.trod_int hu hx
   exact ⟨⟨m,rfl,inR_wf hm⟩,trivial⟩
  ·rename_i hu
   cases h
   obtain ⟨b,rfl,rfl⟩:=DataW.trod_bool hu hx
   exact ⟨⟨b,rfl⟩,trivial⟩
  ·rename_i hu
   cases h
   obtain ⟨s,rfl,rfl,hs⟩:=DataW.trod_string hu hx
   exact ⟨⟨s,rfl,by rw [← size_bytes]; exact hs⟩,trivial⟩
  ·rename_i e hu
   cases hk:flatK P false 40 e with
   | none=>rw [hk] at h; cases h
   | some k1 =>
    rw [hk] at h
    cases hb:Nat.beq (P.cellsOf e) (llen k1) with
    | false=>simp only [hb,cond_false] at h; cases h
    | true =>
     simp only [hb,cond_true] at h
     cases hb2:Nat.ble 1 (P.bytesOf e) with
     | false=>simp only [hb2,cond_false] at h; cases h
     | true =>
      simp only [hb2,cond_true] at h
      cases h
      have e1:P.cellsOf e = k1.length:=by rw [nbeq hb,llen_eq]
      have e2:1≤P.bytesOf e:=Nat.le_of_ble_eq_true hb2
      have hone:∃ v,cs = [v]∧v.cells.toList = [v]:=by
       rcases DataW.trod_slice hu hx with ⟨h0,_⟩ | ⟨a,len,cap,_,_,_,_,h0,_⟩
       ·exact ⟨_,h0,rfl⟩
       ·exact ⟨_,h0,rfl⟩
      obtain ⟨v,rfl,hv⟩:=hone
      obtain ⟨u,hu1,hu2⟩:=hw 0 v rfl
      simp only [List.map_cons,List.map_nil,List.getElem?_cons_zero,Option.some.injEq] at hu1
      subst hu1
      have hval:Value.okWide P w r b0 t v:=by
       unfold Value.okWide
       rw [hu]
       exact hu2
      refine ⟨open_slice (ks:=k1) hu hk e1 e2 hval (d:=x.1) (ps:=x.2) ⟨n,by rw [hv]; exact hx⟩ (fun el rs hd=>?_),trivial⟩
      rw [hd,List.all_eq_true] at hz
      have:=hz ((el.length + rs.length) * P.bytesOf e) (by simp [DataW.weights,hu])
      simpa using this
  ·rename_i fs hu
   obtain ⟨xs,m,rfl,rfl,hlen,hsz,hf⟩:=DataW.trod_struct hu hx
   cases hF:mixF P d 0 fs.toList with
   | none=>rw [hF] at h; cases h
   | some ks' =>
    rw [hF] at h
    cases hb:Nat.beq (llen ks') (P.cellsOf t) with
    | false=>simp only [hb,cond_false] at h; cases h
    | true =>
     simp only [hb,cond_true] at h
     cases h
     have hb':=nbeq hb
     have hz':(DataW.weightsEach P (fs.toList.map (·.type)) (xs.map (·.1))).all (·≤reachBytes) = true:=by
      have:=hz
      simpa [DataW.weights,hu] using this
     have:=mixF_open d (o:=0) (xs:=xs) (cs:=cs) (n:=m) hF (by simp [hsz]) (fun i f hi=>hf i f (by simpa using hi)) hz' (by simpa using hw)
     rw [List.drop_zero,List.take_of_length_le (by rw [hlen,← hb',llen_eq]; exact Nat.le_refl _)] at this
     exact this
  ·cases h
theorem mixF_open:∀ (d:Nat) {o:Nat} {fs:List Field} {ks:List (TypeId×MK)} {n:Nat} {cs:List Value} {xs:List (DataW H×List MemPlace)},mixF P d o fs = some ks→xs.length = fs.length →
  (∀ (i:Nat) (f:Field),fs[i]? = some f→DataW.trod enc P w base sp held n f.type ((cs.drop f.offset).take (P.cellsOf f.type)) = xs[i]?)→(DataW.weightsEach P (fs.map (·.type)) (xs.map (·.1))).all (·≤reachBytes) = true →
  (∀ (j:Nat) v,(cs.drop o)[j]? = some v→∃ u,(ks.map (·.1))[j]? = some u∧Cell.okWide P w r b0 u v)→mall w ks ((cs.drop o).take ks.length)
 | 0,o,fs,ks,n,cs,xs,h,_,_,_,_=>by simp [mixF] at h
 | d + 1,o,[],ks,n,cs,xs,h,hl,_,_,_=>by
  simp only [mixF] at h
  cases h
  simp [mall]
 | d + 1,o,f :: q,ks,n,cs,xs,h,hl,hf,hz,hw=>by
  unfold mixF at h
  cases hK:mixK P d f.type with
  | none=>rw [hK] at h; cases h
  | some k1 =>
   rw [hK] at h
   cases hb:Nat.beq f.offset o with
   | false=>simp only [hb,cond_false] at h; cases h
   | true =>
    simp only [hb,cond_true] at h
    cases hb2:Nat.beq (llen k1) (P.cellsOf f.type) with
    | false=>simp only [hb2,cond_false] at h; cases h
    | true =>
     simp only [hb2,cond_true] at h
     cases hF:mixF P d (o + llen k1) q with
     | none=>rw [hF] at h; cases h
     | some k2 =>
      rw [hF] at h
      simp only [omap,Option.some.injEq] at h
      subst h
      match xs,hl with
      | x :: xs,hl =>
       have h0:=hf 0 f rfl
       have e1:=nbeq hb
       have e2:=nbeq hb2
       have e3:llen k1 = k1.length:=llen_eq k1
       rw [lapp_eq] at hw ⊢
       have w1:∀ (j:Nat) v,((cs.drop f.offset).take (P.cellsOf f.type))[j]? = some v→∃ u,(k1.map (·.1))[j]? = some u∧Cell.okWide P w r b0 u v:=by
        intro j v hv
        rw [List.getElem?_take] at hv
        split at hv
        ·rename_i hj
         obtain ⟨u,hu1,hu2⟩:=hw j v (by rw [← e1]; exact hv)
         refine ⟨u,?_,hu2⟩
         rw [List.map_append,List.getElem?_append_left (by simp; omega)] at hu1
         exact hu1
        ·cases hv
       have w2:∀ (j:Nat) v,(cs.drop (o + llen k1))[j]? = some v→∃ u,(k2.map (·.1))[j]? = some u∧Cell.okWide P w r b0 u v:=by
        intro j v hv
        obtain ⟨u,hu1,hu2⟩:=hw (k1.length + j) v (by rw [List.getElem?_drop] at hv ⊢; rw [← hv,e3]; congr 1; omega)
        refine ⟨u,?_,hu2⟩
        rw [List.map_append,List.getElem?_append_right (by simp)] at hu1
        simpa using hu1
       have i1:=mix_open d hK (x:=x) (by simpa using h0) (all_weights_field hz (i:=0) rfl rfl) w1
       have i2:=mixF_open d (n:=n) (cs:=cs) (xs:=xs) hF (by simpa using hl) (fun i f hi=>by simpa using hf (i + 1) f (by simpa using hi))
        (by
         rw [List.all_eq_true] at hz ⊢
         intro m hm
         exact hz m (by simp only [List.map_cons,DataW.weightsEach,List.mem_append]; exact Or.inr hm)) w2
       rw [List.length_append]
       have:(cs.drop o).take (k1.length + k2.length) = ((cs.drop o).take k1.length) ++ ((cs.drop (o + k1.length)).take k2.length):=by
        rw [List.take_add,List.drop_drop]
       rw [this]
       have h3:mall w k1 ((cs.drop o).take k1.length):=by
        rw [← llen_eq,e2,← e1]; exact i1
       refine mall_app h3 ?_
       rw [llen_eq] at i2
       exact i2
end
theorem open_mix {t:TypeId} {fs:Array Field} {ks:List (TypeId×MK)} {v:Value} {d:DataW H} {ps:List MemPlace} (hu:P.underlying t = some (.struct fs)) (hk:mixK P 40 t = some ks) (hc:P.cellTypes P.depth t = some (ks.map (·.1))) (hn:P.cellsOf t = ks.length)
  (hval:Value.okWide P w r b0 t v) (hd:DataW.Trod enc P w base sp held t v d ps) (hz:(d.weights P t).all (·≤reachBytes) = true):∃ l,v = .agg ⟨l⟩∧mall w ks l:=by
 have hv:=hval
 unfold Value.okWide at hv
 rw [hu] at hv
 obtain ⟨⟨l⟩,rfl,hs,ts,h1,h2,h3⟩:=hv
 obtain ⟨fuel,hf⟩:=hd
 rw [hc] at h1
 cases h1
 refine ⟨l,rfl,mix_open (r:=r) (b0:=b0) 40 hk hf hz (fun j v hj=>?_)⟩
 have hj':j < l.length:=(List.getElem?_eq_some_iff.1 hj).1
 have hl:l.length = ks.length:=by simpa [hn] using hs
 obtain ⟨u,hu1,hu2⟩:=h3 j v (by simpa using hj)
 refine ⟨u,?_,hu2⟩
 rw [Nat.mod_eq_of_lt (by simp; omega)] at hu1
 exact hu1
theorem weights_arg {ts:List TypeId} {ds:List (DataW H)} (h:(DataW.weightsEach P ts ds).all (·≤reachBytes) = true) {j:Nat} {t:TypeId} {d:DataW H} (ht:ts[j]? = some t) (hd:ds[j]? = some d):(d.weights P t).all (·≤reachBytes) = true:=by
 rw [List.all_eq_true] at h ⊢
 exact fun n hn=>h n (DataW.weights_mem_each ht hd n hn)
end
def MIs (w:World):List IV→List Value→Prop
 | [],[]=>True
 | i :: is,v :: vs=>Rep w (fun _=>False) i v∧MIs w is vs
 | _,_=>False
theorem MIs.get {w:World}:∀ {is:List IV} {vs:List Value},MIs w is vs→is.length = vs.length∧∀ (j:Nat) i,is[j]? = some i→Rep w (fun _=>False) i (vs.getD j undef)
 | [],[],_=>⟨rfl,fun j i h=>by simp at h⟩
 | i :: is,v :: vs,h=>⟨by simp [(MIs.get h.2).1],fun j c hj=>by
   cases j with
   | zero=>simp only [List.getElem?_cons_zero,Option.some.injEq] at hj; subst hj; exact h.1
   | succ j=>exact (MIs.get h.2).2 j c (by simpa using hj)⟩
 | [],_ :: _,h=>h.elim
 | _ :: _,[],h=>h.elim
theorem MIs.arep {w:World} {is:List IV} {vs:List Value} (h:MIs w is vs):ARep (zeroGh w (fun _=>False)) (.agg (lmap .imm is)) (.agg ⟨vs⟩):=by
 obtain ⟨hl,hr⟩:=h.get
 have e:∀ j,(⟨vs⟩:Array Value).getD j undef = vs.getD j undef:=fun j=>by simp [Array.getD_eq_getD_getElem?,List.getD_eq_getElem?_getD]
 refine .agg (by rw [lmap_eq]; simp [hl]) (fun j c hc=>?_) (fun j hj=>?_)
 ·rw [lmap_eq,List.getElem?_map] at hc
  cases hi:is[j]? with
  | none=>rw [hi] at hc; cases hc
  | some i =>
   rw [hi] at hc
   cases hc
   rw [e]
   exact .imm (Rep.mono (w:=w) (w':=w) (Nat.le_refl _) (fun b _ h=>zero_own.1 h) (fun _ _ _=>rfl) (hr j i hi))
 ·have hj':j < is.length:=by simp at hj; omega
  rw [e]
  exact (hr j is[j] (List.getElem?_eq_getElem hj')).oneCell
theorem MIs.cell {w:World} {is:List IV} {vs:List Value} (h:MIs w is vs) {v:Value} (hv:v = .agg ⟨vs⟩) {arr:Array Value} {j:Nat} (ha:arr.getD j undef = v):ARep (zeroGh w (fun _=>False)) (.agg (lmap .imm is)) (arr.getD j undef):=by
 rw [ha,hv]; exact h.arep
theorem MOk.bytes {w:World} {v:Value} (h:MOk w (.sl [.int .u8]) v):∃ l:List UInt8,l.length≤281474976710656∧Rep w (fun _=>False) (.bytes l) v:=by
 obtain ⟨xs,h1,h2,h3⟩:=h
 have key:∀ xs:List (List IV),(∀ x ∈ xs,∃ vs,KRep [.int .u8] x vs)→∃ l:List UInt8,xs = l.map fun b=>[.int .u8 (b.toNat:Int)]:=by
  intro xs
  induction xs with
  | nil=>exact fun _=>⟨[],rfl⟩
  | cons x xs ih =>
   intro h
   obtain ⟨l,hl⟩:=ih fun y hy=>h y (by simp [hy])
   obtain ⟨vs,hx⟩:=h x (by simp)
   obtain ⟨n,is,vs',rfl,rfl,hr,hx⟩:=hx.cons_int
   obtain ⟨rfl,rfl⟩:=hx.end
   have hr':(0:Int)≤n∧n≤255:=hr
   refine ⟨UInt8.ofNat n.toNat :: l,?_⟩
   rw [hl,List.map_cons]
   have:((UInt8.ofNat n.toNat).toNat:Int) = n:=by
    have:(UInt8.ofNat n.toNat).toNat = n.toNat % 256:=by simp
    omega
   rw [this]
 obtain ⟨l,rfl⟩:=key xs h1
 refine ⟨l,by simpa using h2,h3 _ rfl (by simp [IV.len]) rfl (fun i j c hcc=>?_)⟩
 cases j with
 | zero =>
  simp only [IV.cellAt] at hcc
  rw [List.getElem?_map]
  cases hi:l[i]? with
  | none=>rw [hi] at hcc; cases hcc
  | some b=>rw [hi] at hcc; simpa using hcc
 | succ j=>simp [IV.cellAt] at hcc
theorem MOk.ints {w:World} {v:Value} {k:IntKind} (h:MOk w (.sl [.int k]) v):∃ l:List Int,(∀ n ∈ l,InR k n)∧l.length≤281474976710656∧Rep w (fun _=>False) (.ints k l) v:=by
 obtain ⟨xs,h1,h2,h3⟩:=h
 have key:∀ xs:List (List IV),(∀ x ∈ xs,∃ vs,KRep [.int k] x vs)→∃ l:List Int,(∀ n ∈ l,InR k n)∧xs = l.map fun b=>[.int k b]:=by
  intro xs
  induction xs with
  | nil=>exact fun _=>⟨[],fun n h=>by simp at h,rfl⟩
  | cons x xs ih =>
   intro h
   obtain ⟨l,hl1,hl⟩:=ih fun y hy=>h y (by simp [hy])
   obtain ⟨vs,hx⟩:=h x (by simp)
   obtain ⟨n,is,vs',rfl,rfl,hr,hx⟩:=hx.cons_int
   obtain ⟨rfl,rfl⟩:=hx.end
   refine ⟨n :: l,fun m hm=>?_,by rw [hl,List.map_cons]⟩
   rcases List.mem_cons.1 hm with rfl | hm
   ·exact hr
   ·exact hl1 m hm
 obtain ⟨l,hl,rfl⟩:=key xs h1
 refine ⟨l,hl,by simpa using h2,h3 _ rfl (by simp [IV.len]) rfl (fun i j c hcc=>?_)⟩
 cases j with
 | zero =>
  simp only [IV.cellAt] at hcc
  rw [List.getElem?_map]
  cases hi:l[i]? with
  | none=>rw [hi] at hcc; cases hcc
  | some b=>rw [hi] at hcc; simpa using hcc
 | succ j=>simp [IV.cellAt] at hcc
theorem MOk.bools {w:World} {v:Value} (h:MOk w (.sl [.bool]) v):∃ l:List Bool,l.length≤281474976710656∧Rep w (fun _=>False) (.bools l) v:=by
 obtain ⟨xs,h1,h2,h3⟩:=h
 have key:∀ xs:List (List IV),(∀ x ∈ xs,∃ vs,KRep [.bool] x vs)→∃ l:List Bool,xs = l.map fun b=>[.bool b]:=by
  intro xs
  induction xs with
  | nil=>exact fun _=>⟨[],rfl⟩
  | cons x xs ih =>
   intro h
   obtain ⟨l,hl⟩:=ih fun y hy=>h y (by simp [hy])
   obtain ⟨vs,hx⟩:=h x (by simp)
   obtain ⟨n,is,vs',rfl,rfl,hx2⟩:=hx.cons_bool
   obtain ⟨rfl,rfl⟩:=hx2.end
   exact ⟨n :: l,by rw [hl,List.map_cons]⟩
 obtain ⟨l,rfl⟩:=key xs h1
 refine ⟨l,by simpa using h2,h3 _ rfl (by simp [IV.len]) rfl (fun i j c hcc=>?_)⟩
 cases j with
 | zero =>
  simp only [IV.cellAt] at hcc
  rw [List.getElem?_map]
  cases hi:l[i]? with
  | none=>rw [hi] at hcc; cases hcc
  | some b=>rw [hi] at hcc; simpa using hcc
 | succ j=>simp [IV.cellAt] at hcc
theorem MOk.structs {w:World} {v:Value} {ks:List CK} (hn:Nat.ble 1 ks.length = true) (h:MOk w (.sl ks) v):∃ xs:List (List IV),(∀ x ∈ xs,∃ vs,KRep ks x vs)∧xs.length≤281474976710656∧Rep w (fun _=>False) (.sl ks.length xs) v:=by
 obtain ⟨xs,h1,h2,h3⟩:=h
 refine ⟨xs,h1,h2,h3 _ ?_ rfl rfl (fun i j c hcc=>hcc)⟩
 show (bif Nat.ble 1 ks.length then xs.all (fun x=>Nat.beq x.length ks.length) else false) = true
 rw [hn,cond_true,List.all_eq_true]
 intro x hx
 obtain ⟨vs,hv⟩:=h1 x hx
 rw [hv.len.1]
 exact Nat.beq_refl _
theorem MOk.int {w:World} {v:Value} {k:IntKind} (h:MOk w (.ck (.int k)) v):∃ n,InR k n∧Rep w (fun _=>False) (.int k n) v:=by
 obtain ⟨n,rfl,hr⟩:=h
 exact ⟨n,hr,.int hr⟩
theorem MOk.bool {w:World} {v:Value} (h:MOk w (.ck .bool) v):∃ b,Rep w (fun _=>False) (.bool b) v:=by
 obtain ⟨b,rfl⟩:=h
 exact ⟨b,.bool⟩
theorem MOk.str {w:World} {v:Value} (h:MOk w (.ck .str) v):∃ l:List UInt8,l.length≤9223372036854775807∧Rep w (fun _=>False) (.str l) v:=by
 obtain ⟨s,rfl,hr⟩:=h
 exact ⟨_,hr,.str rfl hr⟩
end Go.AE
set_option maxRecDepth 100000
namespace Q6
open Go Go.AE Go.Proofs
theorem gW:Tryz.prog.globalNamed "zoneinfo/downgrade.ways" = some 0:=by kernel_rfl
theorem gR:Tryz.prog.globalNamed "zoneinfo/leaps.rules" = some 1:=by kernel_rfl
def nm119:List UInt8:=[122,111,110,101,105,110,102,111,47,100,111,119,110,103,114,97,100,101,46,119,97,121,115,36,49]
def nm121:List UInt8:=[122,111,110,101,105,110,102,111,47,100,111,119,110,103,114,97,100,101,46,119,105,100,101]
def nm137:List UInt8:=[122,111,110,101,105,110,102,111,47,108,101,97,112,115,46,114,117,108,101,115,36,49]
def nm138:List UInt8:=[122,111,110,101,105,110,102,111,47,108,101,97,112,115,46,114,117,108,101,115,36,50]
def nm139:List UInt8:=[122,111,110,101,105,110,102,111,47,108,101,97,112,115,46,114,117,108,101,115,36,51]
theorem find_ints {n:Int}:∀ (l:List MapEntry) (i:Nat),(∀ x ∈ l,∃ m,x.key = .int .i64 m) →
  ∃ r,Instr.findNow (.int .i64) (.int .i64 n) l i = some r∧(r = none→∀ x ∈ l,x.key≠.int .i64 n)∧(∀ p,r = some p→∃ x ∈ l,x.key = .int .i64 n∧x.val = p.2)
 | [],i,_=>⟨none,rfl,fun _ x hx=>(by cases hx),fun p h=>(by cases h)⟩
 | e :: l,i,h=>by
  obtain ⟨m,hm⟩:=h e (List.mem_cons_self ..)
  unfold Instr.findNow
  rw [hm]
  by_cases he:n = m
  ·refine ⟨some (i,e.val),by simp [Instr.sameNow,he],fun h=>(by cases h),fun p hp=>?_⟩
   cases hp
   exact ⟨e,List.mem_cons_self ..,by rw [hm,he],rfl⟩
  ·obtain ⟨r,k1,k2,k3⟩:=find_ints (n:=n) l (i + 1) (fun x hx=>h x (List.mem_cons_of_mem _ hx))
   have hne:(n == m) = false:=by simp [he]
   refine ⟨r,by simp [Instr.sameNow,hne,k1],fun hr x hx=>?_,fun p hp=>?_⟩
   ·rcases List.mem_cons.1 hx with rfl | hx
    ·rw [hm]; intro e; cases e; exact he rfl
    ·exact k2 hr x hx
   ·obtain ⟨x,hx,q⟩:=k3 p hp
    exact ⟨x,List.mem_cons_of_mem _ hx,q⟩
def waysD:DataW Unit:=.map [(.int .i64 1,.iface "func" (.lit (.string nm119))),(.int .i64 2,.iface "func" (.lit (.string nm121))),(.int .i64 3,.iface "func" (.lit (.string nm121))),(.int .i64 4,.iface "func" (.lit (.string nm121)))]
def rulesD:DataW Unit:=.slice [.agg [.lit (.string [116,105,109,101]),.iface "func" (.lit (.string nm137))],.agg [.lit (.string [102,105,114,115,116,32,99,111,114,114,101,99,116,105,111,110]),.iface "func" (.lit (.string nm138))],.agg [.lit (.string [115,116,101,112]),.iface "func" (.lit (.string nm139))]] []
def esW:List (Int×FuncId):=[(1,124),(2,126),(3,126),(4,126)]
theorem var_heap {W:World} {n:String} {g:Nat} {cs:Array Value} (hg:Tryz.prog.globalNamed n = some g) (h:W.var? Tryz.prog n = some cs):∃ T fr,W.heap[g]? = some (.cells cs T fr):=by
 unfold World.var? at h
 rw [hg] at h
 simp only [Option.bind_some] at h
 split at h
 case h_2=>cases h
 rename_i c T fr hc
 cases h
 exact ⟨T,fr,hc⟩
theorem ways_of_laid {W:World} (h:laidMetH Tryz.prog YtdpejelemcjkdaaGreatDoor.Rows.downgradeMatchesReferenceRow.laid W):∃ V,W.var? Tryz.prog "zoneinfo/downgrade.ways" = some #[V]∧Rep W (fun _=>False) (.mp esW) V:=by
 obtain ⟨g,t,cs,fuel,p,hg,ht,hv,hd⟩:=h.funcs (n := "zoneinfo/downgrade.ways") (d:=waysD) (List.mem_cons_of_mem _ (List.mem_singleton.2 rfl))
 obtain rfl:=Option.some.inj (gW.symm.trans hg)
 have ht':(Tryz.prog.globals[0]?).map (·.type) = some 43:=by kernel_rfl
 obtain rfl:=Option.some.inj (ht'.symm.trans ht)
 have hd':DataW.trod (funcToken Tryz.prog) Tryz.prog W 0 (fun _=>true) true fuel 43 cs.toList = some (.map [(.int .i64 1,.held nm119),(.int .i64 2,.held nm121),(.int .i64 3,.held nm121),(.int .i64 4,.held nm121)],p):=hd
 rcases WideElems.open_map (k:=3) (e:=41) Tryz.underlying43 hd' with ⟨_,hx⟩ | ⟨b,es,clock,n,_,hcs,hb,_,hF,hx⟩
 ·exact absurd (congrArg Prod.fst hx) (by simp)
 have hL:=congrArg Prod.fst hx
 simp only [DataW.map.injEq] at hL
 have hperm:=WideShapes.sorted_perm (es.toList.map (WideElems.rg Tryz.prog 3 (WideElems.elemAt (funcToken Tryz.prog) Tryz.prog W 0 (fun _=>true) true n 41)))
 rw [← hL] at hperm
 have hu49:∃ ps rs va,Tryz.prog.underlying 41 = some (.func ps rs va):=⟨_,_,_,Tryz.underlying41⟩
 obtain ⟨ps,rs,va,hu49⟩:=hu49
 have each:∀ x ∈ es.toList,∃ m f,x.key = .int .i64 m∧x.val = .func (.func f) #[] #[]∧(m,f) ∈ esW:=by
  intro x hx
  obtain ⟨y,hy⟩:=hF.reads x hx
  have hm:y ∈ es.toList.map (WideElems.rg Tryz.prog 3 (WideElems.elemAt (funcToken Tryz.prog) Tryz.prog W 0 (fun _=>true) true n 41)):=List.mem_map.2 ⟨x,hx,WideElems.rg_of hy⟩
  have hm:=(hperm.mem_iff).2 hm
  unfold WideElems.rd at hy
  simp only [Option.bind_eq_some_iff,Option.map_eq_some_iff] at hy
  obtain ⟨key,h1,z,h2,rfl⟩:=hy
  have hkey:∀ m:Int,key = .int .i64 m→x.key = .int .i64 m:=by
   intro m e
   subst e
   unfold keyOf at h1
   rw [Tryz.underlying3] at h1
   unfold mapKey at h1
   rw [Tryz.underlying3] at h1
   simp only at h1
   split at h1
   all_goals first | (cases h1; done) | skip
   all_goals simp_all
  have hval:∀ (b0:UInt8) (r0:List UInt8) (f0:FuncId),z.1 = .held (b0 :: r0)→((List.range Tryz.prog.funcs.size).filter fun f=>(Tryz.prog.funcs[f]?).any (·.name.toUTF8.data.toList == b0 :: r0)) = [f0]→x.val = .func (.func f0) #[] #[]:=by
   intro b0 r0 f0 e h3
   unfold WideElems.elemAt at h2
   split at h2
   case isFalse=>cases h2
   rename_i hform
   have hc:x.val.cells.toList = [x.val]:=by
    cases hxv:x.val <;> rw [hxv] at hform <;> first | rfl | (simp [Value.formed,hu49] at hform)
   rw [hc] at h2
   obtain ⟨zd,zp⟩:=z
   have e:zd = .held (b0 :: r0):=e
   subst e
   exact func_of_trod (f0:=f0) hu49 h3 h2
  simp only [List.mem_cons,Prod.mk.injEq,List.not_mem_nil,or_false] at hm
  rcases hm with ⟨k,v⟩ | ⟨k,v⟩ | ⟨k,v⟩ | ⟨k,v⟩
  ·exact ⟨1,124,hkey _ k,hval _ _ 124 v (by kernel_rfl),by simp [esW]⟩
  ·exact ⟨2,126,hkey _ k,hval _ _ 126 v (by kernel_rfl),by simp [esW]⟩
  ·exact ⟨3,126,hkey _ k,hval _ _ 126 v (by kernel_rfl),by simp [esW]⟩
  ·exact ⟨4,126,hkey _ k,hval _ _ 126 v (by kernel_rfl),by simp [esW]⟩
 have all:∀ m f,(m,f) ∈ esW→∃ x ∈ es.toList,x.key = .int .i64 m:=by
  intro m f hmf
  have:∃ d,((.int .i64 m:Lit),d) ∈ ([(.int .i64 1,.held nm119),(.int .i64 2,.held nm121),(.int .i64 3,.held nm121),(.int .i64 4,.held nm121)]:List (Lit×DataW (List UInt8))):=by
   simp only [esW,List.mem_cons,Prod.mk.injEq,List.not_mem_nil,or_false] at hmf
   rcases hmf with ⟨rfl,_⟩ | ⟨rfl,_⟩ | ⟨rfl,_⟩ | ⟨rfl,_⟩
   ·exact ⟨.held nm119,by simp⟩
   ·exact ⟨.held nm121,by simp⟩
   ·exact ⟨.held nm121,by simp⟩
   ·exact ⟨.held nm121,by simp⟩
  obtain ⟨d,hd⟩:=this
  obtain ⟨x,hx,hxe⟩:=List.mem_map.1 ((hperm.mem_iff).1 hd)
  obtain ⟨m',f',hk,_,_⟩:=each x hx
  obtain ⟨y,hy⟩:=hF.reads x hx
  have:=WideElems.rd_key hy
  rw [← WideElems.rg_of hy,hxe,hk] at this
  refine ⟨x,hx,?_⟩
  rw [hk]
  unfold keyOf at this
  rw [Tryz.underlying3] at this
  unfold mapKey at this
  rw [Tryz.underlying3] at this
  simp at this
  rw [this.2]
 have hone:cs = #[.map (some b)]:=by
  obtain ⟨cs⟩:=cs
  have:cs = [.map (some b)]:=hcs
  rw [this]
 refine ⟨_,by rw [hv,hone],?_⟩
 refine .mp (fun h=>h) (Array.getElem?_eq_some_iff.1 hb).1 hb (fun n hn=>?_)
 obtain ⟨r,k1,k2,k3⟩:=find_ints (n:=n) es.toList 0 (fun x hx=>by obtain ⟨m,f,hk,_⟩:=each x hx; exact ⟨m,hk⟩)
 refine ⟨r,k1,?_⟩
 have uniq:∀ m f,(m,f) ∈ esW→lookF esW m = some (.func (.func f) #[] #[]):=by
  intro m f hmf
  simp only [esW,List.mem_cons,Prod.mk.injEq,List.not_mem_nil,or_false] at hmf
  rcases hmf with ⟨rfl,rfl⟩ | ⟨rfl,rfl⟩ | ⟨rfl,rfl⟩ | ⟨rfl,rfl⟩ <;> rfl
 cases r with
 | none =>
  have hno:=k2 rfl
  have:∀ f,(n,f) ∉ esW:=fun f hf=>by
   obtain ⟨x,hx,hk⟩:=all n f hf
   exact hno x hx hk
  simp only [esW,List.mem_cons,Prod.mk.injEq,List.not_mem_nil,or_false] at this
  have n1:n≠1:=fun e=>this 124 (.inl ⟨e,rfl⟩)
  have n2:n≠2:=fun e=>this 126 (.inr (.inl ⟨e,rfl⟩))
  have n3:n≠3:=fun e=>this 126 (.inr (.inr (.inl ⟨e,rfl⟩)))
  have n4:n≠4:=fun e=>this 126 (.inr (.inr (.inr ⟨e,rfl⟩)))
  simp [esW,lookF,n1,n2,n3,n4]
 | some p =>
  obtain ⟨x,hx,hk,hv⟩:=k3 p rfl
  obtain ⟨m,f,hk',hv',hmf⟩:=each x hx
  rw [hk] at hk'
  cases hk'
  rw [uniq n f hmf]
  simp only [Option.map_some]
  rw [← hv,hv']
def esR:List (List IV):=[[.str [116,105,109,101],.val (.func (.func 142) #[] #[])],[.str [102,105,114,115,116,32,99,111,114,114,101,99,116,105,111,110],.val (.func (.func 143) #[] #[])],[.str [115,116,101,112],.val (.func (.func 144) #[] #[])]]
theorem rules_of_laid {W:World} (h:laidMetH Tryz.prog YtdpejelemcjkdaaGreatDoor.Rows.downgradeMatchesReferenceRow.laid W):∃ V,W.var? Tryz.prog "zoneinfo/leaps.rules" = some #[V]∧Rep W (fun _=>False) (.sl 2 esR) V:=by
 obtain ⟨g,t,cs,fuel,p,hg,ht,hv,hd⟩:=h.funcs (n := "zoneinfo/leaps.rules") (d:=rulesD) (List.mem_cons_self ..)
 obtain rfl:=Option.some.inj (gR.symm.trans hg)
 have ht':(Tryz.prog.globals[1]?).map (·.type) = some 107:=by kernel_rfl
 obtain rfl:=Option.some.inj (ht'.symm.trans ht)
 have hd':DataW.trod (funcToken Tryz.prog) Tryz.prog W 0 (fun _=>true) true fuel 107 cs.toList = some (.slice [.agg [.lit (.string [116,105,109,101]),.held nm137],.agg [.lit (.string [102,105,114,115,116,32,99,111,114,114,101,99,116,105,111,110]),.held nm138],.agg [.lit (.string [115,116,101,112]),.held nm139]] [],p):=hd
 rcases DataW.trod_slice (e:=110) Tryz.underlying107 hd' with ⟨_,hx⟩ | ⟨a,len,cap,elems,rest,n,_,hcs,hx,_,hl,hm,hlen,hel,_⟩
 ·exact absurd (congrArg Prod.fst hx) (by simp)
 have hE:=congrArg Prod.fst hx
 simp only [DataW.slice.injEq] at hE
 obtain ⟨hE,_⟩:=hE
 have h3:elems.length = 3:=by have:=congrArg List.length hE; simpa using this.symm
 have hc99:Tryz.prog.cellsOf 110 = 2:=by kernel_rfl
 have hc9:Tryz.prog.cellsOf 9 = 1:=by kernel_rfl
 have hc97:Tryz.prog.cellsOf 108 = 1:=by kernel_rfl
 have hu97:∃ ps rs va,Tryz.prog.underlying 108 = some (.func ps rs va):=⟨_,_,_,Tryz.underlying108⟩
 obtain ⟨ps,rs,va,hu97⟩:=hu97
 have each:∀ (i:Nat) (l:List UInt8) (b0:UInt8) (r0:List UInt8) (f0:FuncId),(elems.map (·.1))[i]? = some (.agg [.lit (.string l),.held (b0 :: r0)])→((List.range Tryz.prog.funcs.size).filter fun f=>(Tryz.prog.funcs[f]?).any (·.name.toUTF8.data.toList == b0 :: r0)) = [f0] →
   ∃ s:ByteArray,bytesOf s = l∧W.cell? (a.add (i * 2)) = some (.string s)∧W.cell? (a.add (i * 2 + 1)) = some (.func (.func f0) #[] #[]):=by
  intro i l b0 r0 f0 he hone
  rw [List.getElem?_map] at he
  obtain ⟨y,hy,hy1⟩:=Option.map_eq_some_iff.1 he
  have hi:i < len:=by rw [← hlen]; exact (List.getElem?_eq_some_iff.1 hy).1
  have h1:=hel i hi
  rw [hy,hc99,Option.bind_eq_some_iff] at h1
  obtain ⟨cc,hcc,htr⟩:=h1
  obtain ⟨_,hlen2,hcell⟩:=World.cells?_some hcc
  obtain ⟨y0,y1,n2,hag,_,t0,t1⟩:=_root_.Go.ChangeShapes.trod_struct2 Tryz.underlying110 htr
  have hag1:=congrArg Prod.fst hag
  rw [hy1] at hag1
  simp only [DataW.agg.injEq,List.cons.injEq,and_true] at hag1
  obtain ⟨q0,q1⟩:=hag1
  match cc,hlen2 with
  | [c0,c1],_ =>
  have t0':DataW.trod (funcToken Tryz.prog) Tryz.prog W 0 (fun _=>true) true n2 9 [c0] = some y0:=t0
  have t1':DataW.trod (funcToken Tryz.prog) Tryz.prog W 0 (fun _=>true) true n2 108 [c1] = some y1:=t1
  obtain ⟨s,e0,e1,_⟩:=DataW.trod_string Tryz.underlying9 t0'
  simp only [List.cons.injEq,and_true] at e0
  subst e0
  rw [e1] at q0
  simp only [DataW.lit.injEq,Lit.string.injEq] at q0
  obtain ⟨yd,yp⟩:=y1
  have q1:DataW.held (b0 :: r0) = yd:=q1
  subst q1
  have hf:=func_of_trod (f0:=f0) hu97 hone t1'
  subst hf
  refine ⟨s,q0.symm,?_,?_⟩
  ·have:=hcell 0 (by omega)
   rw [add_add,Nat.add_zero] at this
   simpa using this
  ·have:=hcell 1 (by omega)
   rw [add_add] at this
   simpa using this
 rw [← hE] at each
 obtain ⟨s0,b0,c00,c01⟩:=each 0 _ _ _ 142 rfl (by kernel_rfl)
 obtain ⟨s1,b1,c10,c11⟩:=each 1 _ _ _ 143 rfl (by kernel_rfl)
 obtain ⟨s2,b2,c20,c21⟩:=each 2 _ _ _ 144 rfl (by kernel_rfl)
 have hone:cs = #[.slice (some a) len cap]:=by
  obtain ⟨cs⟩:=cs
  have:cs = [.slice (some a) len cap]:=hcs
  rw [this]
 have hblk:a.block < W.heap.size:=by
  unfold World.cell? at c00
  rw [show (a.add (0 * 2)).block = a.block from add_block _ _] at c00
  cases hq:W.heap[a.block]? with
  | none=>rw [hq] at c00; cases c00
  | some o=>exact (Array.getElem?_eq_some_iff.1 hq).1
 have hcap:cap≤9223372036854775807:=hm
 have hlen3:len = 3:=by omega
 refine ⟨_,by rw [hv,hone],?_⟩
 refine .slice (fun i j=>match i,j with
  | 0,0=>.string s0 | 0,_=>.func (.func 142) #[] #[] | 1,0=>.string s1 | 1,_=>.func (.func 143) #[] #[] | _,0=>.string s2 | _,_=>.func (.func 144) #[] #[]) rfl (by rw [hlen3]; rfl) hl hcap (by omega) (fun h=>h) hblk (fun i j c hc=>?_) (fun i j c hc=>?_)
 all_goals
  have hsplit:(i = 0∧j = 0∧c = .str [116,105,109,101])∨(i = 0∧j = 1∧c = .val (.func (.func 142) #[] #[]))∨(i = 1∧j = 0∧c = .str [102,105,114,115,116,32,99,111,114,114,101,99,116,105,111,110])∨(i = 1∧j = 1∧c = .val (.func (.func 143) #[] #[]))∨(i = 2∧j = 0∧c = .str [115,116,101,112])∨(i = 2∧j = 1∧c = .val (.func (.func 144) #[] #[])):=by
   simp only [IV.cellAt,esR] at hc
   match i with
   | 0=>match j with
    | 0=>simp at hc; simp [hc]
    | 1=>simp at hc; simp [hc]
    | j + 2=>simp at hc
   | 1=>match j with
    | 0=>simp at hc; simp [hc]
    | 1=>simp at hc; simp [hc]
    | j + 2=>simp at hc
   | 2=>match j with
    | 0=>simp at hc; simp [hc]
    | 1=>simp at hc; simp [hc]
    | j + 2=>simp at hc
   | i + 3=>simp at hc
 ·rcases hsplit with ⟨rfl,rfl,_⟩ | ⟨rfl,rfl,_⟩ | ⟨rfl,rfl,_⟩ | ⟨rfl,rfl,_⟩ | ⟨rfl,rfl,_⟩ | ⟨rfl,rfl,_⟩
  ·exact c00
  ·exact c01
  ·exact c10
  ·exact c11
  ·exact c20
  ·exact c21
 ·rcases hsplit with ⟨rfl,rfl,rfl⟩ | ⟨rfl,rfl,rfl⟩ | ⟨rfl,rfl,rfl⟩ | ⟨rfl,rfl,rfl⟩ | ⟨rfl,rfl,rfl⟩ | ⟨rfl,rfl,rfl⟩
  ·exact .str b0 (by decide)
  ·exact .val rfl
  ·exact .str b1 (by decide)
  ·exact .val rfl
  ·exact .str b2 (by decide)
  ·exact .val rfl
theorem gok_of_laid {W:World} (h:laidMetH Tryz.prog YtdpejelemcjkdaaGreatDoor.Rows.downgradeMatchesReferenceRow.laid W):GOK G6 W (fun _=>False):=by
 obtain ⟨Vw,hw,rw_⟩:=ways_of_laid h
 obtain ⟨Vr,hr,rr⟩:=rules_of_laid h
 obtain ⟨Tw,fw,hW⟩:=var_heap gW hw
 obtain ⟨Tr,fr,hR⟩:=var_heap gR hr
 intro n l hl
 unfold G6 P8.G8 at hl
 cases hn:Nat.beq n 0 with
 | true =>
  rw [hn,cond_true] at hl
  cases hl
  have:=nbeq hn
  subst this
  refine ⟨fun h=>h,_,_,_,hW,rfl,fun j v hv=>?_,fun j hj=>?_⟩
  ·match j with
   | 0=>simp only [List.getElem?_cons_zero,Option.some.injEq] at hv; subst hv; exact rw_
   | j + 1=>simp at hv
  ·match j,hj with
   | 0,_=>exact rw_.oneCell
   | j + 1,hj=>simp at hj
 | false =>
  rw [hn,cond_false] at hl
  cases hn1:Nat.beq n 1 with
  | true =>
   rw [hn1,cond_true] at hl
   cases hl
   have:=nbeq hn1
   subst this
   refine ⟨fun h=>h,_,_,_,hR,rfl,fun j v hv=>?_,fun j hj=>?_⟩
   ·match j with
    | 0=>simp only [List.getElem?_cons_zero,Option.some.injEq] at hv; subst hv; exact rr
    | j + 1=>simp at hv
   ·match j,hj with
    | 0,_=>exact rr.oneCell
    | j + 1,hj=>simp at hj
  | false=>rw [hn1,cond_false] at hl; cases hl
section
open PE PF
theorem types_of {xs:List (List IV)} (h:∀ x ∈ xs,∃ vs,KRep [.int .i32,.bool,.int .u8] x vs):okT xs:=by
 have:∃ L:List Ty,xs = L.map cellsT∧∀ t ∈ L,okTy t:=by
  induction xs with
  | nil=>exact ⟨[],rfl,fun t h=>by cases h⟩
  | cons x xs ih =>
   obtain ⟨L,rfl,hL⟩:=ih fun y hy=>h y (by simp [hy])
   obtain ⟨vs,hx⟩:=h x (by simp)
   obtain ⟨o,is1,vs1,e1,e2,ho,hx1⟩:=hx.cons_int
   obtain ⟨d,is2,vs2,e3,e4,hx2⟩:=hx1.cons_bool
   obtain ⟨g,is3,vs3,e5,e6,hg,hx3⟩:=hx2.cons_int
   obtain ⟨e7,e8⟩:=hx3.end
   subst e7 e8 e5 e6 e3 e4 e1 e2
   have ho':(-2147483648:Int)≤o∧o≤2147483647:=ho
   have hg':(0:Int)≤g∧g≤255:=hg
   exact ⟨⟨o,d,g⟩ :: L,rfl,fun t ht=>by
    rcases List.mem_cons.1 ht with rfl | ht
    ·exact ⟨ho'.1,ho'.2,hg'.1,hg'.2⟩
    ·exact hL t ht⟩
 obtain ⟨L,rfl,hL⟩:=this
 have e:tys (L.map cellsT) = L:=by
  simp only [tys,List.map_map]
  conv=>rhs; rw [← List.map_id L]
  exact List.map_congr_left fun t _=>rfl
 exact ⟨by rw [e],by rw [e]; exact hL⟩
theorem leaps_of {xs:List (List IV)} (h:∀ x ∈ xs,∃ vs,KRep [.int .i64,.int .i32] x vs):okL xs:=by
 have:∃ L:List Lp,xs = L.map cellsL∧∀ t ∈ L,okLp t:=by
  induction xs with
  | nil=>exact ⟨[],rfl,fun t h=>by cases h⟩
  | cons x xs ih =>
   obtain ⟨L,rfl,hL⟩:=ih fun y hy=>h y (by simp [hy])
   obtain ⟨vs,hx⟩:=h x (by simp)
   obtain ⟨o,is1,vs1,e1,e2,ho,hx1⟩:=hx.cons_int
   obtain ⟨g,is3,vs3,e5,e6,hg,hx3⟩:=hx1.cons_int
   obtain ⟨e7,e8⟩:=hx3.end
   subst e7 e8 e5 e6 e1 e2
   have ho':(-9223372036854775808:Int)≤o∧o≤9223372036854775807:=ho
   have hg':(-2147483648:Int)≤g∧g≤2147483647:=hg
   exact ⟨⟨o,g⟩ :: L,rfl,fun t ht=>by
    rcases List.mem_cons.1 ht with rfl | ht
    ·exact ⟨ho'.1,ho'.2,hg'.1,hg'.2⟩
    ·exact hL t ht⟩
 obtain ⟨L,rfl,hL⟩:=this
 have e:lps (L.map cellsL) = L:=by
  simp only [lps,List.map_map]
  conv=>rhs; rw [← List.map_id L]
  exact List.map_congr_left fun t _=>rfl
 exact ⟨by rw [e],by rw [e]; exact hL⟩
end
theorem door_met (os:Os) (args:Array Value):laidMetH Tryz.prog YtdpejelemcjkdaaGreatDoor.Rows.downgradeMatchesReferenceRow.laid ((World.doorLaid Tryz.prog 600 os).forCall (fun _ _=>0) ⟨#[],args,[]⟩).memory :=
 laidMetH_of_parts3 (fuel:=8) (laidMet_of_run' 8 (by kernel_rfl) (by kernel_rfl)) (by kernel_rfl) (by kernel_rfl)
end Q6
namespace Q6
open Go Go.AE Go.Proofs
noncomputable section
def av1 {α:Type} (n:Int) (x y:α):α:=bif n == 1 then x else y
def sAct8:List AV→Option (List Prop×List AV)
 | [.agg [.imm (.int .i64 n),.imm (.ints .i64 T),.imm (.bytes I),.imm (.sl 3 X),.imm (.bytes C),.imm (.sl 2 L),.imm (.bools S),.imm (.bools U),.imm (.ints .i64 T'),.imm (.bytes I'),.imm (.sl 3 X'),.imm (.bytes C'),.imm (.sl 2 L'),.imm (.bools S'),.imm (.bools U'),.imm (.str f)]]=>some ([],[.agg [.imm (.ints .i64 (av1 n T T')),.imm (.bytes (av1 n I I')),.imm (.sl 3 (av1 n X X')),.imm (.bytes (av1 n C C')),.imm (.sl 2 (av1 n L L')),.imm (.bools (av1 n S S')),.imm (.bools (av1 n U U'))]])
 | _=>none
def sNe7:List AV→Option (List Prop×List AV)
 | [.imm (.sl 2 xs)]=>some ([PF.okL xs,(xs.length:Int)≤1000000],[bo6 (!PF.lvV (PF.lps xs) 3 && PF.lvV (PF.lps xs) 4)])
 | _=>none
def H16:=addE (addE H15 21 sNe7) 14 sAct8
def V7:Cx:=⟨Tryz.prog,B1,noCall,G6,4003⟩
end
noncomputable section
def otF (i k:Int):Int:=bif i == 0 then k else bif i == k then 0 else i
def sOth:List AV→Option (List Prop×List AV)
 | [.imm (.int .i64 i),.imm (.int .i64 k)]=>some ([],[i6 (otF i k)])
 | _=>none
def J1:=addE (addE H16 28 sOth) 27 sInE
def V28:Cx:=⟨Tryz.prog,H16,noCall,G6,4005⟩
def V27:Cx:=⟨Tryz.prog,H16,noCall,G6,4007⟩
def V15:Cx:=⟨Tryz.prog,J1,noCall,G6,4001⟩
def V13:Cx:=⟨Tryz.prog,J1,noCall,G6,6008⟩
end
def k27 (b:List AV) (t kk i:Int):St:=⟨spr [(1,i6 t),(2,.ptr 0 0),(5,i6 kk),(6,i6 i)] 0 28,[(0,clO b)],1,[]⟩
def q27:Plan:=⟨[],msk [1,2,5,6] 0 28,[0]⟩
def k13a (b:List AV) (kk:Int) (Tv:List Int) (Iv:List UInt8) (i:Int):St :=
 ⟨spr [(1,.ptr 0 0),(2,.ptr 1 0),(3,i6 kk),(4,.ptr 2 0),(5,i6 i)] 0 137,[(0,clO b),(1,clO zB7),(2,clO [.row 3 0,.row 4 0,zS,zS,zS,zS,zS]),(3,rowO (.ints .i64 Tv)),(4,rowO (.bytes Iv))],5,[]⟩
def q13i:Plan:=⟨[.obj 2 0 (.ints .i64 []),.obj 2 1 (.bytes [])],msk [1,2,3,4,5] 0 137,[0,1,2,3,4]⟩
def x13a (b:List AV) (kk:Int) (T Tv:List Int) (Iv:List UInt8) (i:Int):St :=
 ⟨spr [(1,.ptr 0 0),(2,.ptr 1 0),(3,i6 kk),(4,.ptr 2 0),(5,i6 i),(10,i6 i),(11,.ptr 0 0),(12,.imm (.ints .i64 T)),(13,i6 (T.length:Int)),(14,.imm (.bool (decide (i < (T.length:Int)))))] 0 137,[(0,clO b),(1,clO zB7),(2,clO [.row 3 0,.row 4 0,zS,zS,zS,zS,zS]),(3,rowO (.ints .i64 Tv)),(4,rowO (.bytes Iv))],5,[]⟩
def k13b (b:List AV) (kk:Int) (Tv:List Int) (Iv:List UInt8) (Xv:List (List IV)) (Sv Uv:List Bool) (i:Int):St :=
 ⟨spr [(1,.ptr 0 0),(2,.ptr 1 0),(3,i6 kk),(4,.ptr 2 0),(6,i6 i)] 0 137,[(0,clO b),(1,clO zB7),(2,clO [.row 3 0,.row 4 0,.row 5 0,zS,zS,.row 6 0,.row 7 0]),(3,rowO (.ints .i64 Tv)),(4,rowO (.bytes Iv)),(5,rowO (.sl 3 Xv)),(6,rowO (.bools Sv)),(7,rowO (.bools Uv))],8,[]⟩
def q13j:Plan:=⟨[.obj 2 2 (.sl 3 []),.obj 2 5 (.bools []),.obj 2 6 (.bools [])],msk [1,2,3,4,6] 0 137,[0,1,2,3,4,5,6,7]⟩
def x13b (b:List AV) (kk:Int) (X:List (List IV)) (Tv:List Int) (Iv:List UInt8) (Xv:List (List IV)) (Sv Uv:List Bool) (i:Int):St :=
 ⟨spr [(1,.ptr 0 0),(2,.ptr 1 0),(3,i6 kk),(4,.ptr 2 0),(6,i6 i),(55,i6 i),(56,.ptr 0 2),(57,.imm (.sl 3 X)),(58,i6 (X.length:Int)),(59,.imm (.bool (decide (i < (X.length:Int)))))] 0 137,[(0,clO b),(1,clO zB7),(2,clO [.row 3 0,.row 4 0,.row 5 0,zS,zS,.row 6 0,.row 7 0]),(3,rowO (.ints .i64 Tv)),(4,rowO (.bytes Iv)),(5,rowO (.sl 3 Xv)),(6,rowO (.bools Sv)),(7,rowO (.bools Uv))],8,[]⟩
def k13c (b:List AV) (Tv:List Int) (Iv:List UInt8) (Xv:List (List IV)) (Cv:List UInt8) (acc:List (List IV)) (Sv Uv:List Bool) (i:Int):St :=
 ⟨spr [(1,.ptr 0 0),(2,.ptr 1 0),(4,.ptr 2 0),(7,i6 i)] 0 137,[(0,clO b),(1,clO zB7),(2,clO [.row 3 0,.row 4 0,.row 5 0,.row 6 0,.row 7 0,.row 8 0,.row 9 0]),(3,rowO (.ints .i64 Tv)),(4,rowO (.bytes Iv)),(5,rowO (.sl 3 Xv)),(6,rowO (.bytes Cv)),(7,rowO (.sl 2 acc)),(8,rowO (.bools Sv)),(9,rowO (.bools Uv))],10,[]⟩
def q13k:Plan:=⟨[.obj 2 4 (.sl 2 [])],msk [1,2,4,7] 0 137,[0,1,2,3,4,5,6,9,7,8]⟩
def x13c (b:List AV) (L:List (List IV)) (Tv:List Int) (Iv:List UInt8) (Xv:List (List IV)) (Cv:List UInt8) (acc:List (List IV)) (Sv Uv:List Bool) (i:Int):St :=
 ⟨spr [(1,.ptr 0 0),(2,.ptr 1 0),(4,.ptr 2 0),(7,i6 i),(112,i6 i),(113,.ptr 0 4),(114,sl2 L),(115,i6 (L.length:Int)),(116,.imm (.bool (decide (i < (L.length:Int)))))] 0 137,[(0,clO b),(1,clO zB7),(2,clO [.row 3 0,.row 4 0,.row 5 0,.row 6 0,.row 7 0,.row 8 0,.row 9 0]),(3,rowO (.ints .i64 Tv)),(4,rowO (.bytes Iv)),(5,rowO (.sl 3 Xv)),(6,rowO (.bytes Cv)),(7,rowO (.sl 2 acc)),(8,rowO (.bools Sv)),(9,rowO (.bools Uv))],10,[]⟩
def ty3 (X:List (List IV)) (j:Int):List IV:=[IV.int IntKind.i32 (ivInt (ivNth (List.getD X (Int.toNat j) []) 0)),IV.bool (ivBool (ivNth (List.getD X (Int.toNat j) []) (0 + 1))),IV.int IntKind.u8 (ivInt (ivNth (List.getD X (Int.toNat j) []) (0 + 1 + 1)))]
def lp2 (L:List (List IV)) (j:Int):List IV:=[IV.int IntKind.i64 (ivInt (ivNth (List.getD L (Int.toNat j) []) 0)),IV.int IntKind.i32 (ivInt (ivNth (List.getD L (Int.toNat j) []) (0 + 1)))]
def ub8 (I:List UInt8) (i kk:Int):List UInt8:=List.map u8 [IntKind.wrap IntKind.u8 (otF (IntKind.wrap IntKind.i64 (↑(UInt8.toNat (List.getD I (Int.toNat i) 0)):Int)) kk)]
end Q6
