/- The walk's evaluator and its laws (over whatever program), and contracts of the program's functions. -/
import Derived.Test.YtdpejelemcjkdaaGreatDoorAe2
import Derived.Test.YtdpejelemcjkdaaGreatDoorProg
import Derived.KernelRfl
import Derived.Laws.BitsLemmas
import Derived.Lib.Bytealg
import Derived.Shelf.Strings.Search1
import Derived.Shelf.LaysM
import Derived.Shelf.Small.Strs
import Derived.Lib.RuneCount
import Derived.Recover
set_option linter.all false
namespace Go.AE
inductive Dir where
 | l | r | b
def codeAt:List Dir→Code→Code
 | [],c=>c
 | .l :: p,.seq a _=>codeAt p a
 | .r :: p,.seq _ b=>codeAt p b
 | .l :: p,.cond _ a _=>codeAt p a
 | .r :: p,.cond _ _ b=>codeAt p b
 | .b :: p,.block _ c=>codeAt p c
 | _,c=>c
def kAt (C:Cx):List Dir→Code→(AX→St→Prop)→(AX→St→Prop)
 | [],_,k=>k
 | .l :: p,.seq a b,k=>kAt C p a fun x st=>match x with
  | .normal=>evCode C b st k
  | x=>k x st
 | .r :: p,.seq _ b,k=>kAt C p b k
 | .l :: p,.cond _ a _,k=>kAt C p a k
 | .r :: p,.cond _ _ b,k=>kAt C p b k
 | .b :: p,.block id c,k=>kAt C p c fun x st=>match x with
  | .exit i=>bif Nat.beq i id then k .normal st else k (.exit i) st
  | x=>k x st
 | _,_,k=>k
def loopsIn:Code→List (List Dir)
 | .seq a b=>lapp (lmap (.l :: ·) (loopsIn a)) (lmap (.r :: ·) (loopsIn b))
 | .cond _ a b=>lapp (lmap (.l :: ·) (loopsIn a)) (lmap (.r :: ·) (loopsIn b))
 | .block _ c=>lmap (.b :: ·) (loopsIn c)
 | .loop _=>[[]]
 | _=>[]
def pathN:List (List Dir)→Nat→List Dir
 | [],_=>[]
 | p :: _,0=>p
 | _ :: r,i + 1=>pathN r i
def loopN (c:Code) (i:Nat):Code:=codeAt (pathN (loopsIn c) i) c
def unloop:Code→Code
 | .loop c=>c
 | c=>c
def loopB (c:Code) (i:Nat):Code:=unloop (loopN c i)
def loopK (C:Cx) (c:Code) (i:Nat) (k:AX→St→Prop):AX→St→Prop:=kAt C (pathN (loopsIn c) i) c k
def LoopI (C:Cx) (c:Code) (i:Nat) (st:St) (k:AX→St→Prop):Prop:=evCode C (.loop (loopB c i)) st (loopK C c i k)
def bodyOf (fn:Func):Code:=match fn.body with
 | some c=>c
 | none=>.skip
def finK (C:Cx) (fn:Func) (K:List AV→Prop):AX→St→Prop:=fun x st1=>match x with
 | .normal=>match resOf C.P st1 fn.results.toList with
  | some vs=>match outRes st1.objs vs [] with
   | some r=>K r
   | none=>False
  | none=>False
 | .ret=>match resOf C.P st1 fn.results.toList with
  | some vs=>match outRes st1.objs vs [] with
   | some r=>K r
   | none=>False
  | none=>False
 | _=>False
def sget:List (Nat×AV)→Nat→AV
 | [],_=>.dead
 | (i,v) :: r,j=>bif Nat.beq i j then v else sget r j
def spr (l:List (Nat×AV)):Nat→Nat→List AV
 | _,0=>[]
 | i,n + 1=>sget l i :: spr l (i + 1) n
def msk (l:List Nat):Nat→Nat→List Bool
 | _,0=>[]
 | i,n + 1=>natIn l i :: msk l (i + 1) n
def dN (n:Nat):List AV:=lrepl n .dead
theorem brn_intro {b:Bool} {x y:Prop} (h1:b = true→x) (h2:b = false→y):brn b x y:=by
 cases b
 ·exact h2 rfl
 ·exact h1 rfl
theorem loop_rule {C:Cx} {σ:Type} {c:Code} (I:σ→St) (P:σ→Prop) (μ:σ→Nat) {k:AX→St→Prop}
  (hbody:∀ s,P s→∀ K:AX→St→Prop,(∀ s' p st1,P s'→μ s' < μ s→norm p st1 = some (I s')→K .normal st1)→(∀ x st1,x≠.normal→k x st1→K x st1)→evCode C c (I s) K)
  (hu:C.rounds = 0) (s:σ) (p:Plan) (st:St) (hP:P s) (hn:norm p st = some (I s)):evCode C (.loop c) st k:=by
 simp only [evCode,hu]
 have key:∀ n s p st,P s→norm p st = some (I s)→μ s < n→LoopN (evCode C c) k n st:=by
  intro n
  induction n with
  | zero=>intro s p st _ _ h; omega
  | succ n ih =>
   intro s p st hP hn hμ
   refine ⟨p,I s,hn,hbody s hP _ (fun s' p' st1 hP' hμ' hn'=>?_) (fun x st1 hx hk=>?_)⟩
   ·exact ih s' p' st1 hP' hn' (by omega)
   ·cases x with
    | normal=>exact absurd rfl hx
    | _=>exact hk
 exact ⟨μ s + 1,key _ s p st hP hn (by omega)⟩
end Go.AE
namespace P8
open Go Go.AE Go.Proofs
def isD (b:UInt8):Bool:=decide (48≤b.toNat) && decide (b.toNat≤57)
def dv (b:UInt8):Nat:=b.toNat - 48
def digit (s:List UInt8) (i:Nat):Nat×Bool:=match s[i]? with
 | some b=>if isD b then (dv b,true) else (0,false)
 | none=>(0,false)
def num (ds:List UInt8):Nat:=ds.foldl (fun v b=>v * 10 + dv b) 0
def runD (l:List UInt8):List UInt8:=l.takeWhile isD
def hoursP (s:List UInt8) (at':Nat):Int×Int×Bool :=
 if (runD (s.drop at')).length≤3 then ((num (runD (s.drop at')):Int),((at' + (runD (s.drop at')).length:Nat):Int),decide (0 < (runD (s.drop at')).length) && decide (num (runD (s.drop at'))≤167)) else (0,0,false)
def field (l:List UInt8):Option Nat:=match l with
 | c :: a :: b :: _=>if c = 58∧isD a = true∧isD b = true∧dv a * 10 + dv b < 60 then some (dv a * 10 + dv b) else none
 | _=>none
def fieldsP (s:List UInt8) (at':Nat):Int×Int:=match field (s.drop at') with
 | none=>(0,(at':Int))
 | some m=>match field (s.drop (at' + 3)) with
  | none=>(60 * (m:Int),((at' + 3:Nat):Int))
  | some c=>(60 * (m:Int) + c,((at' + 6:Nat):Int))
def fieldR (s:List UInt8) (i:Nat):Int:=match field (s.drop i) with
 | none=>-1
 | some m=>m
def sgn:List UInt8→Int
 | b :: _=>if b = 45 then -1 else 1
 | []=>1
def off:List UInt8→Nat
 | b :: _=>if b = 45∨b = 43 then 1 else 0
 | []=>0
def parse (s:List UInt8):Int×Int×Bool :=
 if (hoursP s (off s)).2.2 then (sgn s * ((hoursP s (off s)).1 * 3600 + (fieldsP s (hoursP s (off s)).2.1.toNat).1),(fieldsP s (hoursP s (off s)).2.1.toNat).2,true) else (0,0,false)
def dg (n:Nat):UInt8:=UInt8.ofNat (48 + n)
def dd (n:Nat):List UInt8:=if n < 10 then [dg n] else if n < 100 then [dg (n / 10),dg (n % 10)] else [dg (n / 100),dg (n / 10 % 10),dg (n % 10)]
def pfx (s t:List UInt8):Bool:=t.isPrefixOf s
def bo (b:Bool):AV:=.imm (.bool b)
def i64 (n:Int):AV:=.imm (.int .i64 n)
def st (s:List UInt8):AV:=.imm (.str s)
def big:Int:=9223372036854775000
def sDigit:List AV→Option (List Prop×List AV)
 | [.imm (.str s),.imm (.int .i64 i)]=>some ([0≤i],[i64 (digit s i.toNat).1,bo (digit s i.toNat).2])
 | _=>none
def sIsDigit:List AV→Option (List Prop×List AV)
 | [.imm (.str s),.imm (.int .i64 i)]=>some ([0≤i],[bo (digit s i.toNat).2])
 | _=>none
def sPfx:List AV→Option (List Prop×List AV)
 | [.imm (.str s),.imm (.str t)]=>some ([],[bo (pfx s t)])
 | _=>none
def sHours:List AV→Option (List Prop×List AV)
 | [.imm (.str s),.imm (.int .i64 i)]=>some ([0≤i,i≤1,(s.length:Int)≤big],[i64 (hoursP s i.toNat).1,i64 (hoursP s i.toNat).2.1,bo (hoursP s i.toNat).2.2])
 | _=>none
def sFields:List AV→Option (List Prop×List AV)
 | [.imm (.str s),.imm (.int .i64 i),.imm (.ints .i64 [60,1])]=>some ([0≤i,i≤(s.length:Int),(s.length:Int)≤big],[i64 (fieldsP s i.toNat).1,i64 (fieldsP s i.toNat).2])
 | _=>none
def sField:List AV→Option (List Prop×List AV)
 | [.imm (.str s),.imm (.int .i64 i)]=>some ([0≤i,i≤(s.length:Int),(s.length:Int)≤big],[i64 (fieldR s i.toNat)])
 | _=>none
def sParse:List AV→Option (List Prop×List AV)
 | [.imm (.str s)]=>some ([(s.length:Int)≤big],[i64 (parse s).1,i64 (parse s).2.1,bo (parse s).2.2])
 | _=>none
def G8:Nat→Option (List AV):=fun n=>bif Nat.beq n 0 then some [.imm (.mp [(1,124),(2,126),(3,126),(4,126)])] else bif Nat.beq n 1 then some [.imm (.sl 2 [[.str [116,105,109,101],.val (.func (.func 142) #[] #[])],[.str [102,105,114,115,116,32,99,111,114,114,101,99,116,105,111,110],.val (.func (.func 143) #[] #[])],[.str [115,116,101,112],.val (.func (.func 144) #[] #[])]])] else none
noncomputable def cx (E:FuncId→List AV→Option (List Prop×List AV)):Cx:=⟨Tryz.prog,E,noCall,G8,0⟩
noncomputable def cxu (E:FuncId→List AV→Option (List Prop×List AV)):Cx:=⟨Tryz.prog,E,noCall,G8,3⟩
def E1:=addE (addE (addE noE 96 sDigit) 68 sIsDigit) 95 sPfx
def E2:=addE E1 81 sPfx
def E3:=addE (addE (addE E2 82 sHours) 83 sFields) 69 sField
def E4:=addE (addE E3 60 sParse) 44 sParse
def E5:=E4
noncomputable def C0:Cx:=cx noE
noncomputable def C1:Cx:=cx E1
noncomputable def C2:Cx:=cx E2
noncomputable def D2:Cx:=cxu E2
noncomputable def C3:Cx:=cx E3
noncomputable def C4:Cx:=cx E4
noncomputable def C5:Cx:=cx E5
def h17 (s:List UInt8) (i h n d:Int) (ok:Bool):St:=⟨lapp [st s,i64 i,.dead,.dead,i64 0,i64 0,bo false,i64 h,i64 n,i64 d,bo ok] (lrepl 33 .dead),[],0,[]⟩
def h10 (s:List UInt8) (i n h:Int):St:=⟨lapp [st s,.dead,i64 0,i64 0,bo false,i64 i,i64 n,i64 h] (lrepl 79 .dead),[],0,[]⟩
end P8
set_option maxRecDepth 100000
namespace P8
open Go Go.AE Go.Proofs
attribute [local irreducible] loopK evCode evSpec loopB norm
theorem f17_lp (s:List UInt8) (i:Int) (h:Int) (n:Int) (d:Int) (ok:Bool) (k:AX→St→Prop):evCode C2 (loopB (bodyOf Tryz.f82) (0:Nat)) (h17 s i h n d ok) k = (brn ok (brn (decide (IntKind.wrap .i64 (IntKind.wrap .i64 (n + 1) - i) > 3)) (k AX.ret (St.mk (lapp [st s,i64 i,.dead,.dead,i64 0,i64 0,bo false,i64 h,i64 (IntKind.wrap .i64 (n + 1)),i64 d,bo ok] (lapp (dN 7) (lapp [bo ok] (lapp (dN 6) (lapp [i64 n,i64 (IntKind.wrap .i64 (n + 1)),i64 (IntKind.wrap .i64 (n + 1)),i64 i,i64 (IntKind.wrap .i64 (IntKind.wrap .i64 (n + 1) - i)),bo (decide (IntKind.wrap .i64 (IntKind.wrap .i64 (n + 1) - i) > 3))] (dN 13)))))) [] (0:Nat) [])) ((0:Int)≤IntKind.wrap .i64 (n + 1)∧k AX.normal (St.mk (lapp [st s,i64 i,.dead,.dead,i64 0,i64 0,bo false,i64 (IntKind.wrap .i64 (IntKind.wrap .i64 (h * 10) + d)),i64 (IntKind.wrap .i64 (n + 1)),i64 (↑(digit s (IntKind.wrap .i64 (n + 1)).toNat).1:Int),bo (digit s (IntKind.wrap .i64 (n + 1)).toNat).2] (lapp (dN 7) (lapp [bo ok,.tup [i64 (↑(digit s (IntKind.wrap .i64 (n + 1)).toNat).1:Int),bo (digit s (IntKind.wrap .i64 (n + 1)).toNat).2],st s,i64 (IntKind.wrap .i64 (n + 1)),.tup [i64 (↑(digit s
 (IntKind.wrap .i64 (n + 1)).toNat).1:Int),bo (digit s (IntKind.wrap .i64 (n + 1)).toNat).2],i64 (↑(digit s (IntKind.wrap .i64 (n + 1)).toNat).1:Int),bo (digit s (IntKind.wrap .i64 (n + 1)).toNat).2,i64 n,i64 (IntKind.wrap .i64 (n + 1)),i64 (IntKind.wrap .i64 (n + 1)),i64 i,i64 (IntKind.wrap .i64 (IntKind.wrap .i64 (n + 1) - i)),bo (decide (IntKind.wrap .i64 (IntKind.wrap .i64 (n + 1) - i) > 3)),i64 h,i64 (IntKind.wrap .i64 (h * 10)),i64 d,i64 (IntKind.wrap .i64 (IntKind.wrap .i64 (h * 10) + d))] (dN 9)))) [] (0:Nat) []))) (k (AX.exit (0:Nat)) (St.mk (lapp [st s,i64 i,.dead,.dead,i64 0,i64 0,bo false,i64 h,i64 n,i64 d,bo ok] (lapp (dN 7) (lapp [bo ok] (dN 25)))) [] (0:Nat) []))):=by kernel_rfl
theorem f10_lp (s:List UInt8) (i:Int) (n:Int) (h:Int) (k:AX→St→Prop):evCode C3 (loopB (bodyOf Tryz.f44) (0:Nat)) (h10 s i n h) k = ((0:Int)≤IntKind.wrap .i64 (i + n)∧brn (digit s (IntKind.wrap .i64 (i + n)).toNat).2 (brn (decide (n < 4)) ((0:Int)≤IntKind.wrap .i64 (i + n)∧IntKind.wrap .i64 (i + n) < (s.length:Int)∧k AX.normal (St.mk (lapp [st s,.dead,i64 0,i64 0,bo false,i64 i,i64 (IntKind.wrap .i64 (n + 1)),i64 (IntKind.wrap .i64 (IntKind.wrap .i64 (IntKind.wrap .i64 ((10:Int) * h) + IntKind.wrap .i64 (↑(UInt8.toNat (List.getD s (IntKind.wrap .i64 (i + n)).toNat (0:UInt8))):Int)) - 48))] (lapp (dN 17) (lapp [st s,i64 i,i64 n,i64 (IntKind.wrap .i64 (i + n)),bo (digit s (IntKind.wrap .i64 (i + n)).toNat).2,i64 n,bo (decide (n < 4)),i64 h,i64 (IntKind.wrap .i64 ((10:Int) * h)),st s,i64 i,i64 n,i64 (IntKind.wrap .i64 (i + n)),.imm (.int .u8 (↑(UInt8.toNat (List.getD s (IntKind.wrap .i64 (i + n)).toNat (0:UInt8))):Int)),i64 (IntKind.wrap .i64 (↑(UInt8.toNat (List.getD s (IntKind.wrap .i64 (i + n)).toNat (0:UInt8))):Int)),i64 (IntKind.wrap .i64 (IntKind.wrap .i64 ((10:Int) * h) + IntKind.wrap .i64 (↑(UInt8.toNat
 (List.getD s (IntKind.wrap .i64 (i + n)).toNat (0:UInt8))):Int))),i64 (IntKind.wrap .i64 (IntKind.wrap .i64 (IntKind.wrap .i64 ((10:Int) * h) + IntKind.wrap .i64 (↑(UInt8.toNat (List.getD s (IntKind.wrap .i64 (i + n)).toNat (0:UInt8))):Int)) - 48)),i64 n,i64 (IntKind.wrap .i64 (n + 1))] (dN 43)))) [] (0:Nat) [])) (k AX.normal (St.mk (lapp [st s,.dead,i64 0,i64 0,bo false,i64 i,i64 (IntKind.wrap .i64 (n + 1)),i64 h] (lapp (dN 17) (lapp [st s,i64 i,i64 n,i64 (IntKind.wrap .i64 (i + n)),bo (digit s (IntKind.wrap .i64 (i + n)).toNat).2,i64 n,bo (decide (n < 4))] (lapp (dN 10) (lapp [i64 n,i64 (IntKind.wrap .i64 (n + 1))] (dN 43)))))) [] (0:Nat) []))) (k (AX.exit (0:Nat)) (St.mk (lapp [st s,.dead,i64 0,i64 0,bo false,i64 i,i64 n,i64 h] (lapp (dN 17) (lapp [st s,i64 i,i64 n,i64 (IntKind.wrap .i64 (i + n)),bo (digit s (IntKind.wrap .i64 (i + n)).toNat).2] (dN 57)))) [] (0:Nat) []))):=by kernel_rfl
theorem f25_in (s:List
 UInt8) (n:Int) (K:List AV→Prop):evSpec C0 Tryz.f96 [AV.imm (IV.str s),AV.imm (IV.int IntKind.i64 n)] K = ((decide (n≥(↑(List.length s):Int)) = false→(0:Int)≤n)∧(decide (n≥(↑(List.length s):Int)) = false→n < (↑(List.length s):Int))∧((decide (n≥(↑(List.length s):Int)) || decide ((↑(UInt8.toNat (List.getD s (Int.toNat n) (0:UInt8))):Int) < (48:Int))) = false→(0:Int)≤n)∧((decide (n≥(↑(List.length s):Int)) || decide ((↑(UInt8.toNat (List.getD s (Int.toNat n) (0:UInt8))):Int) < (48:Int))) = false→n < (↑(List.length s):Int))∧brn (decide (n≥(↑(List.length s):Int)) || decide ((↑(UInt8.toNat (List.getD s (Int.toNat n) (0:UInt8))):Int) < (48:Int)) || decide ((↑(UInt8.toNat (List.getD s (Int.toNat n) (0:UInt8))):Int) > (57:Int))) (K [i64 0,bo false]) ((0:Int)≤n∧n < (↑(List.length s):Int)∧K [i64 (IntKind.wrap IntKind.i64 (IntKind.wrap IntKind.u8 ((↑(UInt8.toNat (List.getD s (Int.toNat n) (0:UInt8))):Int) - (48:Int)))),bo true])):=by kernel_rfl
theorem f19_in (s:List
 UInt8) (n:Int) (K:List AV→Prop):evSpec C0 Tryz.f68 [AV.imm (IV.str s),AV.imm (IV.int IntKind.i64 n)] K = ((decide (n < (↑(List.length s):Int)) = true→(0:Int)≤n)∧(decide (n < (↑(List.length s):Int)) = true→n < (↑(List.length s):Int))∧((decide (n < (↑(List.length s):Int)) && decide ((↑(UInt8.toNat (List.getD s (Int.toNat n) (0:UInt8))):Int)≥(48:Int))) = true→(0:Int)≤n)∧((decide (n < (↑(List.length s):Int)) && decide ((↑(UInt8.toNat (List.getD s (Int.toNat n) (0:UInt8))):Int)≥(48:Int))) = true→n < (↑(List.length s):Int))∧K [bo (decide (n < (↑(List.length s):Int)) && decide ((↑(UInt8.toNat (List.getD s (Int.toNat n) (0:UInt8))):Int)≥(48:Int)) && decide ((↑(UInt8.toNat (List.getD s (Int.toNat n) (0:UInt8))):Int)≤(57:Int)))]):=by kernel_rfl
theorem f24_in (s:List
 UInt8) (t:List UInt8) (K:List AV→Prop):evSpec C0 Tryz.f95 [AV.imm (IV.str s),AV.imm (IV.str t)] K = ((decide ((↑(List.length s):Int)≥(↑(List.length t):Int)) = true→(0:Int)≤(↑(List.length t):Int))∧(decide ((↑(List.length s):Int)≥(↑(List.length t):Int)) = true→(↑(List.length t):Int)≤(↑(List.length s):Int))∧K [bo (decide ((↑(List.length s):Int)≥(↑(List.length t):Int)) && decide (List.take (Int.toNat (↑(List.length t):Int) - (0:Nat)) (List.drop (0:Nat) s) = t))]):=by kernel_rfl
theorem f16_in (s:List UInt8) (t:List UInt8) (K:List AV→Prop):evSpec C1 Tryz.f81 [.imm (.str s),.imm (.str t)] K = (K [.imm (.bool (pfx s t))]):=by kernel_rfl
theorem f17_in (s:List
 UInt8) (n:Int) (K:List AV→Prop):evSpec C2 Tryz.f82 [AV.imm (IV.str s),AV.imm (IV.int IntKind.i64 n)] K = ((0:Int)≤n∧LoopI C2 (bodyOf Tryz.f82) (0:Nat) (St.mk (lapp [st s,i64 n,AV.dead,AV.dead,i64 0,i64 0,bo false,i64 0,i64 n,i64 (↑(Prod.fst (digit s (Int.toNat n))):Int),bo (Prod.snd (digit s (Int.toNat n))),i64 n,AV.tup [i64 (↑(Prod.fst (digit s (Int.toNat n))):Int),bo (Prod.snd (digit s (Int.toNat n)))],st s,i64 n,AV.tup [i64 (↑(Prod.fst (digit s (Int.toNat n))):Int),bo (Prod.snd (digit s (Int.toNat n)))],i64 (↑(Prod.fst (digit s (Int.toNat n))):Int),bo (Prod.snd (digit s (Int.toNat n)))] (dN 26)) [] (0:Nat) []) (finK C2 Tryz.f82 K)):=by kernel_rfl
theorem f18_in (s:List UInt8) (n:Int) (K:List AV→Prop):evSpec D2 Tryz.f83 [.imm (.str s),.imm (.int .i64 n),.imm (.ints IntKind.i64 [(60:Int),(1:Int)])] K = ((0:Int)≤0∧(0:Int) < (↑(List.length [(60:Int),(1:Int)]):Int)∧(0:Int)≤IntKind.wrap .i64 (n + 1)∧(0:Int)≤IntKind.wrap .i64 (n + 2)∧((0:Int)≤if (s.length:Int) < n then (s.length:Int) else n)∧(if (s.length:Int) < n then (s.length:Int) else n)≤(s.length:Int)∧brn (!pfx (List.take (s.length - (if (s.length:Int) < n then (s.length:Int) else n).toNat) (List.drop (if (s.length:Int) < n then (s.length:Int) else n).toNat s)) [(58:UInt8)] || !(digit s (IntKind.wrap .i64 (n + 1)).toNat).2 || !(digit s (IntKind.wrap .i64 (n + 2)).toNat).2 || decide (IntKind.wrap .i64 (IntKind.wrap .i64 ((↑(digit s (IntKind.wrap .i64 (n + 1)).toNat).1:Int) * 10) + (↑(digit s (IntKind.wrap .i64 (n + 2)).toNat).1:Int))≥60)) (K [i64 0,i64 n]) ((0:Int)≤IntKind.wrap .i64 ((0:Int) + 1)∧IntKind.wrap .i64 ((0:Int) + 1) < (↑(List.length [(60:Int),(1:Int)]):Int)∧(0:Int)≤IntKind.wrap .i64 (IntKind.wrap .i64 (n + 3) + 1)∧(0:Int)≤IntKind.wrap .i64 (IntKind.wrap
 .i64 (n + 3) + 2)∧((0:Int)≤if (s.length:Int) < IntKind.wrap .i64 (n + 3) then (s.length:Int) else IntKind.wrap .i64 (n + 3))∧(if (s.length:Int) < IntKind.wrap .i64 (n + 3) then (s.length:Int) else IntKind.wrap .i64 (n + 3))≤(s.length:Int)∧brn (!pfx (List.take (s.length - (if (s.length:Int) < IntKind.wrap .i64 (n + 3) then (s.length:Int) else IntKind.wrap .i64 (n + 3)).toNat) (List.drop (if (s.length:Int) < IntKind.wrap .i64 (n + 3) then (s.length:Int) else IntKind.wrap .i64 (n + 3)).toNat s)) [(58:UInt8)] || !(digit s (IntKind.wrap .i64 (IntKind.wrap .i64 (n + 3) + 1)).toNat).2 || !(digit s (IntKind.wrap .i64 (IntKind.wrap .i64 (n + 3) + 2)).toNat).2 || decide (IntKind.wrap .i64 (IntKind.wrap .i64 ((↑(digit s (IntKind.wrap .i64 (IntKind.wrap .i64 (n + 3) + 1)).toNat).1:Int) * 10) + (↑(digit s (IntKind.wrap .i64 (IntKind.wrap .i64 (n + 3) + 2)).toNat).1:Int))≥60)) (K [i64 (IntKind.wrap .i64 ((0:Int) + IntKind.wrap .i64 (List.getD [(60:Int),(1:Int)] (0:Int).toNat (0:Int) * IntKind.wrap .i64 (IntKind.wrap .i64 ((↑(digit s (IntKind.wrap .i64 (n + 1)).toNat).1:Int) * 10) + (↑(digit s (IntKind.wrap .i64 (n + 2)).toNat).1:Int))))),i64
 (IntKind.wrap .i64 (n + 3))]) (K [i64 (IntKind.wrap .i64 (IntKind.wrap .i64 ((0:Int) + IntKind.wrap .i64 (List.getD [(60:Int),(1:Int)] (0:Int).toNat (0:Int) * IntKind.wrap .i64 (IntKind.wrap .i64 ((↑(digit s (IntKind.wrap .i64 (n + 1)).toNat).1:Int) * 10) + (↑(digit s (IntKind.wrap .i64 (n + 2)).toNat).1:Int)))) + IntKind.wrap .i64 (List.getD [(60:Int),(1:Int)] (IntKind.wrap .i64 ((0:Int) + 1)).toNat (0:Int) * IntKind.wrap .i64 (IntKind.wrap .i64 ((↑(digit s (IntKind.wrap .i64 (IntKind.wrap .i64 (n + 3) + 1)).toNat).1:Int) * 10) + (↑(digit s (IntKind.wrap .i64 (IntKind.wrap .i64 (n + 3) + 2)).toNat).1:Int))))),i64 (IntKind.wrap .i64 (IntKind.wrap .i64 (n + 3) + 3))]))):=by kernel_rfl
theorem f20_in (s:List UInt8) (n:Int) (K:List AV→Prop):evSpec C2 Tryz.f69 [.imm (.str s),.imm (.int .i64 n)] K = ((decide (n≥(s.length:Int)) = false→(0:Int)≤n)∧(decide (n≥(s.length:Int)) = false→n < (s.length:Int))∧((decide (n≥(s.length:Int)) || (↑(UInt8.toNat (List.getD s n.toNat (0:UInt8))):Int) != 58) = false→(0:Int)≤IntKind.wrap .i64 (n + 1))∧((decide (n≥(s.length:Int)) || (↑(UInt8.toNat (List.getD s n.toNat (0:UInt8))):Int) != 58 || !(digit s (IntKind.wrap .i64 (n + 1)).toNat).2) = false→(0:Int)≤IntKind.wrap .i64 (n + 2))∧brn (decide (n≥(s.length:Int)) || (↑(UInt8.toNat (List.getD s n.toNat (0:UInt8))):Int) != 58 || !(digit s (IntKind.wrap .i64 (n + 1)).toNat).2 || !(digit s (IntKind.wrap .i64 (n + 2)).toNat).2) (K [i64 (-1:Int)]) ((0:Int)≤IntKind.wrap .i64 (n + 1)∧IntKind.wrap .i64 (n + 1) < (s.length:Int)∧(0:Int)≤IntKind.wrap .i64 (n + 2)∧IntKind.wrap .i64 (n + 2) < (s.length:Int)∧brn (decide (IntKind.wrap .i64 (IntKind.wrap .i64 (IntKind.wrap .i64 ((10:Int) * IntKind.wrap .i64 (IntKind.wrap .i64 (↑(UInt8.toNat (List.getD s (IntKind.wrap .i64 (n + 1)).toNat (0:UInt8))):Int) -
 48)) + IntKind.wrap .i64 (↑(UInt8.toNat (List.getD s (IntKind.wrap .i64 (n + 2)).toNat (0:UInt8))):Int)) - 48) > 59)) (K [i64 (-1:Int)]) (K [i64 (IntKind.wrap .i64 (IntKind.wrap .i64 (IntKind.wrap .i64 ((10:Int) * IntKind.wrap .i64 (IntKind.wrap .i64 (↑(UInt8.toNat (List.getD s (IntKind.wrap .i64 (n + 1)).toNat (0:UInt8))):Int) - 48)) + IntKind.wrap .i64 (↑(UInt8.toNat (List.getD s (IntKind.wrap .i64 (n + 2)).toNat (0:UInt8))):Int)) - 48))]))):=by kernel_rfl
theorem f9_in (s:List UInt8) (K:List AV→Prop):evSpec C3 Tryz.f60 [.imm (.str s)] K = (brn (pfx s [(45:UInt8)] || pfx s [(43:UInt8)]) ((0:Int)≤0∧(0:Int) < (s.length:Int)∧brn ((↑(UInt8.toNat (List.getD s (0:Int).toNat (0:UInt8))):Int) == 45) ((0:Int)≤1∧(1:Int)≤1∧(s.length:Int)≤big∧brn (!(hoursP s (1:Int).toNat).2.2) (K [i64 0,i64 0,bo false]) ((0:Int)≤(hoursP s (1:Int).toNat).2.1∧(hoursP s (1:Int).toNat).2.1≤(s.length:Int)∧(s.length:Int)≤big∧K [i64 (IntKind.wrap .i64 ((-1:Int) * IntKind.wrap .i64 (IntKind.wrap .i64 ((hoursP s (1:Int).toNat).1 * 3600) + (fieldsP s (hoursP s (1:Int).toNat).2.1.toNat).1))),i64 (fieldsP s (hoursP s (1:Int).toNat).2.1.toNat).2,bo true])) ((0:Int)≤1∧(1:Int)≤1∧(s.length:Int)≤big∧brn (!(hoursP s (1:Int).toNat).2.2) (K [i64 0,i64 0,bo false]) ((0:Int)≤(hoursP s (1:Int).toNat).2.1∧(hoursP s (1:Int).toNat).2.1≤(s.length:Int)∧(s.length:Int)≤big∧K [i64 (IntKind.wrap .i64 ((1:Int) * IntKind.wrap .i64 (IntKind.wrap .i64 ((hoursP s (1:Int).toNat).1 * 3600) + (fieldsP s (hoursP s (1:Int).toNat).2.1.toNat).1))),i64 (fieldsP s (hoursP s
 (1:Int).toNat).2.1.toNat).2,bo true]))) ((0:Int)≤0∧(0:Int)≤1∧(s.length:Int)≤big∧brn (!(hoursP s (0:Int).toNat).2.2) (K [i64 0,i64 0,bo false]) ((0:Int)≤(hoursP s (0:Int).toNat).2.1∧(hoursP s (0:Int).toNat).2.1≤(s.length:Int)∧(s.length:Int)≤big∧K [i64 (IntKind.wrap .i64 ((1:Int) * IntKind.wrap .i64 (IntKind.wrap .i64 ((hoursP s (0:Int).toNat).1 * 3600) + (fieldsP s (hoursP s (0:Int).toNat).2.1.toNat).1))),i64 (fieldsP s (hoursP s (0:Int).toNat).2.1.toNat).2,bo true]))):=by kernel_rfl
theorem f10_in (s:List UInt8) (K:List AV→Prop) (c:Int) (hc:c = (↑(UInt8.toNat (List.getD s (0:Int).toNat (0:UInt8))):Int)):evSpec C3 Tryz.f44 [.imm (.str s)] K = ((decide ((s.length:Int) > 0) = true→(0:Int)≤0)∧(decide ((s.length:Int) > 0) = true→(0:Int) < (s.length:Int))∧(decide ((s.length:Int) > 0) = true→(c == 43) = false→(0:Int)≤0)∧(decide ((s.length:Int) > 0) = true→(c == 43) = false→(0:Int) < (s.length:Int))∧brn (decide ((s.length:Int) > 0) && (c == 43 || c == 45)) (LoopI C3 (bodyOf Tryz.f44) (0:Nat) (St.mk (lapp [st s,.dead,i64 0,i64 0,bo false,i64 1,i64 0,i64 0] (lapp (dN 4) (lapp [st s,i64 (s.length:Int),bo (decide ((s.length:Int) > 0)),bo (decide ((s.length:Int) > 0)),.opt [((15:Nat),true)] (st s),.opt [((15:Nat),true)] (.imm (.int .u8 c)),.opt [((15:Nat),true)] (bo (c == 43)),.opt [((15:Nat),true)] (bo (c == 43)),.opt [((19:Nat),false),((15:Nat),true)] (st s),.opt [((19:Nat),false),((15:Nat),true)] (.imm (.int .u8 c)),.opt [((19:Nat),false),((15:Nat),true)] (bo (c == 45)),.opt [((15:Nat),true)] (bo (c == 43 || c == 45)),bo (decide ((s.length:Int)
 > 0) && (c == 43 || c == 45))] (dN 62)))) [] (0:Nat) []) (finK C3 Tryz.f44 K)) (LoopI C3 (bodyOf Tryz.f44) (0:Nat) (St.mk (lapp [st s,.dead,i64 0,i64 0,bo false,i64 0,i64 0,i64 0] (lapp (dN 4) (lapp [st s,i64 (s.length:Int),bo (decide ((s.length:Int) > 0)),bo (decide ((s.length:Int) > 0)),.opt [((15:Nat),true)] (st s),.opt [((15:Nat),true)] (.imm (.int .u8 c)),.opt [((15:Nat),true)] (bo (c == 43)),.opt [((15:Nat),true)] (bo (c == 43)),.opt [((19:Nat),false),((15:Nat),true)] (st s),.opt [((19:Nat),false),((15:Nat),true)] (.imm (.int .u8 c)),.opt [((19:Nat),false),((15:Nat),true)] (bo (c == 45)),.opt [((15:Nat),true)] (bo (c == 43 || c == 45)),bo (decide ((s.length:Int) > 0) && (c == 43 || c == 45))] (dN 62)))) [] (0:Nat) []) (finK C3 Tryz.f44 K))):=by subst hc; kernel_rfl
theorem at9:Tryz.prog.funcs[60]? = some Tryz.f60:=by kernel_rfl
theorem at10:Tryz.prog.funcs[44]? = some Tryz.f44:=by kernel_rfl
theorem at16:Tryz.prog.funcs[81]? = some Tryz.f81:=by kernel_rfl
theorem at17:Tryz.prog.funcs[82]? = some Tryz.f82:=by kernel_rfl
theorem at18:Tryz.prog.funcs[83]? = some Tryz.f83:=by kernel_rfl
theorem at19:Tryz.prog.funcs[68]? = some Tryz.f68:=by kernel_rfl
theorem at20:Tryz.prog.funcs[69]? = some Tryz.f69:=by kernel_rfl
theorem at24:Tryz.prog.funcs[95]? = some Tryz.f95:=by kernel_rfl
theorem at25:Tryz.prog.funcs[96]? = some Tryz.f96:=by kernel_rfl
theorem mk {E:FuncId→List AV→Option (List Prop×List AV)} (hE:EOK Tryz.prog E G8) {f:FuncId} {fn:Func} {args res:List AV} {pres:List Prop} (hf:Tryz.prog.funcs[f]? = some fn) (hn:(fn.name == "runtime.NumGoroutine") = false) (hb:fn.body.isNone = false)
  (h:(∀ p,p ∈ pres→p)→∀ K:List AV→Prop,K res→evSpec (cx E) fn args K):SpecOK Tryz.prog G8 f args pres res :=
 spec_ok (C:=cx E) hE noCall_ok hf hn hb (fun hp=>h hp _ rfl)
theorem mku {E:FuncId→List AV→Option (List Prop×List AV)} (hE:EOK Tryz.prog E G8) {f:FuncId} {fn:Func} {args res:List AV} {pres:List Prop} (hf:Tryz.prog.funcs[f]? = some fn) (hn:(fn.name == "runtime.NumGoroutine") = false) (hb:fn.body.isNone = false)
  (h:(∀ p,p ∈ pres→p)→∀ K:List AV→Prop,K res→evSpec (cxu E) fn args K):SpecOK Tryz.prog G8 f args pres res :=
 spec_ok (C:=cxu E) hE noCall_ok hf hn hb (fun hp=>h hp _ rfl)
theorem ok0:EOK Tryz.prog noE G8:=noE_ok
theorem wrap64 {n:Int} (h1:-9223372036854775808≤n) (h2:n≤9223372036854775807):IntKind.wrap .i64 n = n:=by
 have:=IntKind.wrap_i64 n
 rw [show IntKind.wrap .i64 n = IntKind.i64.wrap n from rfl,this]; omega
theorem wrap8 {n:Int} (h1:0≤n) (h2:n≤255):IntKind.wrap .u8 n = n:=by
 have:=IntKind.wrap_u8 n
 rw [show IntKind.wrap .u8 n = IntKind.u8.wrap n from rfl,this]; omega
theorem getD_drop {s:List UInt8} {n:Nat} (h:n < s.length):s.drop n = s.getD n 0 :: s.drop (n + 1):=by
 rw [List.drop_eq_getElem_cons h]
 simp [List.getD_eq_getElem?_getD,List.getElem?_eq_getElem h]
theorem digit_eq (s:List UInt8) (i:Nat):digit s i = if i < s.length then (if isD (s.getD i 0) = true then (dv (s.getD i 0),true) else (0,false)) else (0,false):=by
 unfold digit
 by_cases h:i < s.length
 ·rw [List.getElem?_eq_getElem h,if_pos h]
  simp [List.getD_eq_getElem?_getD,List.getElem?_eq_getElem h]
 ·rw [List.getElem?_eq_none (by omega),if_neg h]
theorem isD_iff (b:UInt8):isD b = true↔48≤b.toNat∧b.toNat≤57:=by
 unfold isD
 simp
theorem nat_of {n:Int} (h:0≤n):∃ i:Nat,n = (i:Int):=⟨n.toNat,by omega⟩
theorem f25_ev (s:List UInt8) (i:Nat) (K:List AV→Prop) (hK:K [i64 (digit s i).1,bo (digit s i).2]):evSpec C0 Tryz.f96 [.imm (.str s),.imm (.int .i64 i)] K:=by
 rw [f25_in]
 simp only [Int.toNat_natCast]
 rw [digit_eq] at hK
 have hb:=isD_iff (s.getD i 0)
 refine ⟨fun h=>by omega,fun h=>by simpa using h,fun h=>by omega,fun h=>by simp at h; omega,brn_intro (fun h=>?_) (fun h=>?_)⟩
 ·have:¬ (i < s.length∧isD (s.getD i 0) = true):=by
   rw [hb]
   simp only [Bool.or_eq_true,decide_eq_true_eq] at h
   omega
  by_cases h1:i < s.length
  ·rw [if_pos h1,if_neg (fun h2=>this ⟨h1,h2⟩)] at hK; exact hK
  ·rw [if_neg h1] at hK; exact hK
 ·simp only [Bool.or_eq_false_iff,decide_eq_false_iff_not] at h
  have h1:i < s.length:=by omega
  have h2:isD (s.getD i 0) = true:=hb.2 (by omega)
  rw [if_pos h1,if_pos h2] at hK
  have e:IntKind.wrap .i64 (IntKind.wrap .u8 (((s.getD i 0).toNat:Int) - 48)) = ((dv (s.getD i 0):Nat):Int):=by
   have:=hb.1 h2
   rw [wrap8 (by omega) (by omega),wrap64 (by omega) (by omega)]
   unfold dv
   omega
  rw [e]
  exact ⟨by omega,by omega,hK⟩
theorem ok25:∀ args pres res,sDigit args = some (pres,res)→SpecOK Tryz.prog G8 96 args pres res:=by
 intro args pres res h
 unfold sDigit at h
 split at h
 case h_2=>cases h
 cases h
 rename_i s n
 refine mk ok0 at25 (by decide) rfl (fun hp K hK=>?_)
 have h0:=hp _ (List.mem_singleton.2 rfl)
 obtain ⟨i,rfl⟩:=nat_of h0
 exact f25_ev s i K (by simpa only [Int.toNat_natCast] using hK)
theorem f19_ev (s:List UInt8) (i:Nat) (K:List AV→Prop) (hK:K [bo (digit s i).2]):evSpec C0 Tryz.f68 [.imm (.str s),.imm (.int .i64 i)] K:=by
 rw [f19_in]
 simp only [Int.toNat_natCast]
 have e:(digit s i).2 = (decide ((i:Int) < (s.length:Int)) && decide (((s.getD i 0).toNat:Int)≥48) && decide (((s.getD i 0).toNat:Int)≤57)):=by
  rw [digit_eq,Bool.eq_iff_iff]
  have hb:=isD_iff (s.getD i 0)
  simp only [Bool.and_eq_true,decide_eq_true_eq]
  by_cases h1:i < s.length
  ·rw [if_pos h1]
   by_cases h2:isD (s.getD i 0) = true
   ·rw [if_pos h2]; simp only [true_iff]; have:=hb.1 h2; omega
   ·rw [if_neg h2]; simp only [Bool.false_eq_true,false_iff]; rw [hb] at h2; omega
  ·rw [if_neg h1]; simp only [Bool.false_eq_true,false_iff]; omega
 rw [e] at hK
 exact ⟨fun h=>by omega,fun h=>by simpa using h,fun h=>by omega,fun h=>by simp at h; omega,hK⟩
theorem ok19:∀ args pres res,sIsDigit args = some (pres,res)→SpecOK Tryz.prog G8 68 args pres res:=by
 intro args pres res h
 unfold sIsDigit at h
 split at h
 case h_2=>cases h
 cases h
 rename_i s n
 refine mk ok0 at19 (by decide) rfl (fun hp K hK=>?_)
 have h0:=hp _ (List.mem_singleton.2 rfl)
 obtain ⟨i,rfl⟩:=nat_of h0
 exact f19_ev s i K (by simpa only [Int.toNat_natCast] using hK)
theorem pfx_eq (s t:List UInt8):pfx s t = (decide (t.length≤s.length) && decide (s.take t.length = t)):=by
 unfold pfx
 rw [Bool.eq_iff_iff]
 simp only [List.isPrefixOf_iff_prefix,Bool.and_eq_true,decide_eq_true_eq]
 constructor
 ·intro h
  exact ⟨h.length_le,(List.prefix_iff_eq_take.1 h).symm⟩
 ·rintro ⟨_,h⟩
  rw [← h]
  exact List.take_prefix _ _
theorem ok24:∀ args pres res,sPfx args = some (pres,res)→SpecOK Tryz.prog G8 95 args pres res:=by
 intro args pres res h
 unfold sPfx at h
 split at h
 case h_2=>cases h
 cases h
 rename_i s t
 refine mk ok0 at24 (by decide) rfl (fun _ K hK=>?_)
 rw [show cx noE = C0 from rfl,f24_in]
 refine ⟨fun _=>by omega,fun h=>by simpa using h,?_⟩
 simp only [Int.toNat_natCast,Nat.sub_zero,List.drop_zero]
 rw [pfx_eq] at hK
 have e:decide ((s.length:Int)≥(t.length:Int)) = decide (t.length≤s.length):=by
  rw [Bool.eq_iff_iff]; simp only [decide_eq_true_eq]; omega
 rw [e]
 exact hK
theorem tdivN (n m:Nat):Int.tdiv (n:Int) (m:Int) = ((n / m:Nat):Int):=by simp [Int.tdiv]
theorem tmodN (n m:Nat):Int.tmod (n:Int) (m:Int) = ((n % m:Nat):Int):=by simp [Int.tmod]
theorem digit_le (s:List UInt8) (i:Nat):(digit s i).1≤9:=by
 rw [digit_eq]
 have hb:=isD_iff (s.getD i 0)
 split
 ·split
  ·rename_i h
   have:=hb.1 h
   show dv _≤9
   unfold dv
   omega
  ·exact Nat.zero_le _
 ·exact Nat.zero_le _
theorem digit_drop (s:List UInt8) (i j:Nat):digit s (i + j) = digit (s.drop i) j:=by
 unfold digit
 rw [List.getElem?_drop]
theorem field_spec (s:List UInt8) (i:Nat) :
  (field (s.drop i) = none∧(!pfx (s.drop i) [58] || !(digit s (i + 1)).2 || !(digit s (i + 2)).2 || decide (((digit s (i + 1)).1:Int) * 10 + ((digit s (i + 2)).1:Int)≥60)) = true) ∨
  (∃ m:Nat,field (s.drop i) = some m∧(!pfx (s.drop i) [58] || !(digit s (i + 1)).2 || !(digit s (i + 2)).2 || decide (((digit s (i + 1)).1:Int) * 10 + ((digit s (i + 2)).1:Int)≥60)) = false ∧
   ((digit s (i + 1)).1:Int) * 10 + ((digit s (i + 2)).1:Int) = (m:Int)∧m < 60∧i + 3≤s.length):=by
 rw [digit_drop,digit_drop]
 have hl:(s.drop i).length = s.length - i:=List.length_drop
 generalize s.drop i = l at hl
 match l,hl with
 | [],_=>left; simp [field,pfx]
 | [c],_=>left; simp [field,digit]
 | [c,a],_=>left; simp [field,digit]
 | c :: a :: b :: r,hl =>
  simp only [List.length_cons] at hl
  have ha:=isD_iff a
  have hb:=isD_iff b
  unfold field digit pfx
  simp only [List.getElem?_cons_succ,List.getElem?_cons_zero]
  by_cases h1:c = 58
  ·subst h1
   by_cases h2:isD a = true
   ·by_cases h3:isD b = true
    ·by_cases h4:dv a * 10 + dv b < 60
     ·right
      refine ⟨dv a * 10 + dv b,by simp [h2,h3,h4],?_,by simp [h2,h3],h4,by omega⟩
      simp [h2,h3]
      omega
     ·left
      simp [h2,h3]
      omega
    ·left; simp [h3]
   ·left; simp [h2]
  ·left
   have:¬ (58 = c):=fun h=>h1 h.symm
   have h2:[58].isPrefixOf (c :: a :: b :: r) = false:=by simp [List.isPrefixOf,this]
   rw [h2]
   simp [h1]
theorem okE1:EOK Tryz.prog E1 G8:=addE_ok (addE_ok (addE_ok ok0 ok25) ok19) ok24
theorem ok16:∀ args pres res,sPfx args = some (pres,res)→SpecOK Tryz.prog G8 81 args pres res:=by
 intro args pres res h
 unfold sPfx at h
 split at h
 case h_2=>cases h
 cases h
 exact mk okE1 at16 (by decide) rfl (fun _ K hK=>by rw [show cx E1 = C1 from rfl,f16_in]; exact hK)
theorem okE2:EOK Tryz.prog E2 G8:=addE_ok okE1 ok16
theorem take_rest (s:List UInt8) (i:Nat):(s.drop i).take (s.length - i) = s.drop i:=by
 rw [List.take_of_length_le]; simp
theorem f18_ev (s:List UInt8) (i:Nat) (hi:i≤s.length) (hs:(s.length:Int)≤big) (K:List AV→Prop) (hK:K [i64 (fieldsP s i).1,i64 (fieldsP s i).2]) :
  evSpec D2 Tryz.f83 [.imm (.str s),.imm (.int .i64 i),.imm (.ints .i64 [60,1])] K:=by
 unfold big at hs
 have hs':s.length≤9223372036854775000:=by omega
 rw [f18_in]
 have e1:IntKind.wrap .i64 ((i:Int) + 1) = ((i + 1:Nat):Int):=by rw [wrap64 (by omega) (by omega)]; first | done | rfl
 have e2:IntKind.wrap .i64 ((i:Int) + 2) = ((i + 2:Nat):Int):=by rw [wrap64 (by omega) (by omega)]; first | done | rfl
 have e3:IntKind.wrap .i64 ((i:Int) + 3) = ((i + 3:Nat):Int):=by rw [wrap64 (by omega) (by omega)]; first | done | rfl
 have e4:IntKind.wrap .i64 (((i + 3:Nat):Int) + 1) = ((i + 3 + 1:Nat):Int):=by rw [wrap64 (by omega) (by omega)]; first | done | rfl
 have e5:IntKind.wrap .i64 (((i + 3:Nat):Int) + 2) = ((i + 3 + 2:Nat):Int):=by rw [wrap64 (by omega) (by omega)]; first | done | rfl
 have e6:IntKind.wrap .i64 (((i + 3:Nat):Int) + 3) = ((i + 6:Nat):Int):=by rw [wrap64 (by omega) (by omega)]; first | done | rfl
 have e7:IntKind.wrap .i64 ((0:Int) + 1) = 1:=by decide
 have m1:(if (s.length:Int) < (i:Int) then (s.length:Int) else (i:Int)) = (i:Int):=by rw [if_neg (by omega)]
 have dd1:∀ j k,IntKind.wrap .i64 (IntKind.wrap .i64 (((digit s j).1:Int) * 10) + ((digit s k).1:Int)) = ((digit s j).1:Int) * 10 + ((digit s k).1:Int):=by
  intro j k
  have:=digit_le s j
  have:=digit_le s k
  rw [wrap64 (n:=((digit s j).1:Int) * 10) (by omega) (by omega),wrap64 (by omega) (by omega)]
 rw [e1,e2,e3,e4,e5,e6,e7,m1]
 simp only [dd1,Int.toNat_natCast,take_rest]
 refine ⟨by decide,by decide,by omega,by omega,by omega,by omega,?_⟩
 unfold fieldsP at hK
 rcases field_spec s i with ⟨hf,hc⟩ | ⟨m,hf,hc,hm,hm60,hl⟩
 ·rw [hf] at hK
  rw [hc]
  exact hK
 ·rw [hf] at hK
  rw [hc]
  have m2:(if (s.length:Int) < ((i + 3:Nat):Int) then (s.length:Int) else ((i + 3:Nat):Int)) = ((i + 3:Nat):Int):=by rw [if_neg (by omega)]
  rw [m2,hm]
  simp only [Int.toNat_natCast,take_rest]
  refine ⟨by decide,by decide,by omega,by omega,by omega,by omega,?_⟩
  have w1:IntKind.wrap .i64 (0 + IntKind.wrap .i64 (List.getD [(60:Int),1] (Int.toNat 0) 0 * (m:Int))) = 60 * (m:Int):=by
   rw [show List.getD [(60:Int),1] (Int.toNat 0) 0 = 60 from rfl,wrap64 (n:=60 * (m:Int)) (by omega) (by omega),wrap64 (by omega) (by omega)]
   omega
  rw [w1]
  rcases field_spec s (i + 3) with ⟨hf2,hc2⟩ | ⟨c,hf2,hc2,hc3,hc60,hl2⟩
  ·rw [hf2] at hK
   rw [hc2]
   exact hK
  ·rw [hf2] at hK
   rw [hc2,hc3]
   have w2:IntKind.wrap .i64 (60 * (m:Int) + IntKind.wrap .i64 (List.getD [(60:Int),1] (Int.toNat 1) 0 * (c:Int))) = 60 * (m:Int) + c:=by
    rw [show List.getD [(60:Int),1] (Int.toNat 1) 0 = 1 from rfl,wrap64 (n:=1 * (c:Int)) (by omega) (by omega),wrap64 (by omega) (by omega)]
    omega
   rw [w2]
   exact hK
theorem ok18:∀ args pres res,sFields args = some (pres,res)→SpecOK Tryz.prog G8 83 args pres res:=by
 intro args pres res h
 unfold sFields at h
 split at h
 case h_2=>cases h
 cases h
 rename_i s n
 refine mku okE2 at18 (by decide) rfl (fun hp K hK=>?_)
 have h0:=hp _ (List.mem_cons_self ..)
 have h1:=hp _ (List.mem_cons_of_mem _ (List.mem_cons_self ..))
 have h2:=hp _ (List.mem_cons_of_mem _ (List.mem_cons_of_mem _ (List.mem_cons_self ..)))
 obtain ⟨i,rfl⟩:=nat_of h0
 simp only [Int.toNat_natCast] at hK
 exact f18_ev s i (by omega) h2 K hK
theorem w10 {x y:Int} (h1:48≤x) (h2:x≤57) (h3:48≤y) (h4:y≤57):IntKind.wrap .i64 (IntKind.wrap .i64 (IntKind.wrap .i64 (10 * IntKind.wrap .i64 (IntKind.wrap .i64 x - 48)) + IntKind.wrap .i64 y) - 48) = 10 * (x - 48) + (y - 48):=by
 rw [wrap64 (n:=x) (by omega) (by omega),wrap64 (n:=y) (by omega) (by omega),wrap64 (n:=x - 48) (by omega) (by omega),wrap64 (n:=10 * (x - 48)) (by omega) (by omega),wrap64 (n:=10 * (x - 48) + y) (by omega) (by omega),wrap64 (by omega) (by omega)]
 omega
theorem f20_ev (s:List UInt8) (i:Nat) (hi:i≤s.length) (hs:(s.length:Int)≤big) (K:List AV→Prop) (hK:K [i64 (fieldR s i)]):evSpec C2 Tryz.f69 [.imm (.str s),.imm (.int .i64 i)] K:=by
 unfold big at hs
 have hs':s.length≤9223372036854775000:=by omega
 rw [f20_in]
 have e1:IntKind.wrap .i64 ((i:Int) + 1) = ((i + 1:Nat):Int):=by rw [wrap64 (by omega) (by omega)]; first | done | rfl
 have e2:IntKind.wrap .i64 ((i:Int) + 2) = ((i + 2:Nat):Int):=by rw [wrap64 (by omega) (by omega)]; first | done | rfl
 rw [e1,e2]
 simp only [Int.toNat_natCast]
 refine ⟨fun h=>by omega,fun h=>by simpa using h,fun h=>by omega,fun h=>by omega,?_⟩
 have hp:pfx (s.drop i) [58] = !(decide ((i:Int)≥(s.length:Int)) || ((s.getD i 0).toNat:Int) != 58):=by
  by_cases hlt:i < s.length
  ·rw [getD_drop hlt]
   unfold pfx
   have:¬ ((i:Int)≥(s.length:Int)):=by omega
   simp only [List.isPrefixOf,List.isPrefixOf,Bool.and_true,decide_eq_false this,Bool.false_or]
   rw [Bool.eq_iff_iff]
   simp only [beq_iff_eq,Bool.not_eq_true',bne_eq_false_iff_eq]
   constructor
   ·rintro h; rw [← h]; first | done | rfl
   ·intro h
    have:(s.getD i 0).toNat = 58:=by omega
    exact (UInt8.toNat_inj.1 (by rw [this]; rfl))
  ·rw [List.drop_eq_nil_of_le (by omega)]
   have:((i:Int)≥(s.length:Int)):=by omega
   simp [pfx,this]
 have val:∀ j,(digit s j).2 = true→j < s.length∧((s.getD j 0).toNat:Int) = ((digit s j).1:Int) + 48:=by
  intro j hj
  rw [digit_eq] at hj ⊢
  have hb:=isD_iff (s.getD j 0)
  by_cases h1:j < s.length
  ·rw [if_pos h1] at hj ⊢
   by_cases h2:isD (s.getD j 0) = true
   ·rw [if_pos h2]
    have:=hb.1 h2
    refine ⟨h1,?_⟩
    show _ = ((dv _:Nat):Int) + 48
    unfold dv
    omega
   ·rw [if_neg h2] at hj; cases hj
  ·rw [if_neg h1] at hj; cases hj
 unfold fieldR at hK
 rcases field_spec s i with ⟨hf,hc⟩ | ⟨m,hf,hc,hm,hm60,hl⟩
 ·rw [hf] at hK
  rw [hp] at hc
  refine brn_intro (fun _=>hK) (fun h=>?_)
  have hh:=h
  rw [Bool.or_eq_false_iff,Bool.or_eq_false_iff] at h
  obtain ⟨⟨ha,hb⟩,hd⟩:=h
  have hb':(digit s (i + 1)).2 = true:=by simpa using hb
  have hd':(digit s (i + 2)).2 = true:=by simpa using hd
  obtain ⟨l1,v1⟩:=val _ hb'
  obtain ⟨l2,v2⟩:=val _ hd'
  have g1:=digit_le s (i + 1)
  have g2:=digit_le s (i + 2)
  refine ⟨by omega,by omega,by omega,by omega,brn_intro (fun _=>hK) (fun h3=>?_)⟩
  exfalso
  simp only [w10 (show (48:Int)≤((s.getD (i + 1) 0).toNat:Int) by omega) (by omega) (show (48:Int)≤((s.getD (i + 2) 0).toNat:Int) by omega) (by omega)] at h3
  rw [ha,hb',hd'] at hc
  simp only [Bool.not_false,Bool.not_true,Bool.false_or,decide_eq_true_eq] at hc
  simp only [decide_eq_false_iff_not] at h3
  omega
 ·rw [hf] at hK
  rw [hp] at hc
  simp only [Bool.or_eq_false_iff,Bool.not_eq_false',Bool.not_not] at hc
  obtain ⟨⟨⟨ha,hb⟩,hd⟩,_⟩:=hc
  obtain ⟨l1,v1⟩:=val _ hb
  obtain ⟨l2,v2⟩:=val _ hd
  have g1:=digit_le s (i + 1)
  have g2:=digit_le s (i + 2)
  have hcond:(decide ((i:Int)≥(s.length:Int)) || ((s.getD i 0).toNat:Int) != 58 || !(digit s (i + 1)).2 || !(digit s (i + 2)).2) = false:=by
   rw [hb,hd]
   simp only [Bool.or_eq_false_iff]
   refine ⟨⟨?_,rfl⟩,rfl⟩
   simpa using ha
  rw [hcond]
  refine ⟨by omega,by omega,by omega,by omega,?_⟩
  have e:10 * (((s.getD (i + 1) 0).toNat:Int) - 48) + (((s.getD (i + 2) 0).toNat:Int) - 48) = (m:Int):=by omega
  simp only [w10 (show (48:Int)≤((s.getD (i + 1) 0).toNat:Int) by omega) (by omega) (show (48:Int)≤((s.getD (i + 2) 0).toNat:Int) by omega) (by omega),e]
  refine brn_intro (fun h=>?_) (fun _=>hK)
  simp only [decide_eq_true_eq] at h
  omega
theorem ok20:∀ args pres res,sField args = some (pres,res)→SpecOK Tryz.prog G8 69 args pres res:=by
 intro args pres res h
 unfold sField at h
 split at h
 case h_2=>cases h
 cases h
 rename_i s n
 refine mk okE2 at20 (by decide) rfl (fun hp K hK=>?_)
 have h0:=hp _ (List.mem_cons_self ..)
 have h1:=hp _ (List.mem_cons_of_mem _ (List.mem_cons_self ..))
 have h2:=hp _ (List.mem_cons_of_mem _ (List.mem_cons_of_mem _ (List.mem_cons_self ..)))
 obtain ⟨i,rfl⟩:=nat_of h0
 simp only [Int.toNat_natCast] at hK
 exact f20_ev s i (by omega) h2 K hK
theorem run_digit:∀ (l:List UInt8) (j:Nat),j≤(runD l).length→digit l j = if j < (runD l).length then (dv ((runD l).getD j 0),true) else (0,false)
 | [],j,_=>by simp [runD,digit]
 | b :: l,j,h=>by
  unfold runD at h ⊢
  rw [List.takeWhile_cons] at h ⊢
  by_cases hb:isD b = true
  ·rw [if_pos hb] at h ⊢
   cases j with
   | zero=>simp [digit,hb]
   | succ j =>
    have ih:=run_digit l j (by simpa [runD] using h)
    have e:digit (b :: l) (j + 1) = digit l j:=by unfold digit; simp
    rw [e,ih]
    simp [runD]
  ·rw [if_neg hb] at h ⊢
   have:j = 0:=by simpa using h
   subst this
   simp [digit,hb]
theorem run_le (l:List UInt8):(runD l).length≤l.length:=(List.takeWhile_sublist _).length_le
theorem num_succ (ds:List UInt8) (j:Nat) (h:j < ds.length):num (ds.take (j + 1)) = num (ds.take j) * 10 + dv (ds.getD j 0):=by
 unfold num
 rw [List.take_succ,List.foldl_append]
 simp [List.getD_eq_getElem?_getD,List.getElem?_eq_getElem h]
theorem dv_run {l:List UInt8} {j:Nat} (h:j < (runD l).length):dv ((runD l).getD j 0)≤9:=by
 have:=digit_le l j
 rw [run_digit l j (by omega),if_pos h] at this
 exact this
theorem num_le (l:List UInt8):∀ j,j≤(runD l).length→num ((runD l).take j) < 10 ^ j
 | 0,_=>by simp [num]
 | j + 1,h=>by
  have ih:=num_le l j (by omega)
  have:=dv_run (l:=l) (j:=j) (by omega)
  rw [num_succ _ _ (by omega),Nat.pow_succ]
  omega
def p17:Plan:=⟨[],[true,true,false,false,true,true,true,true,true,true,true],[]⟩
theorem f17_ev (s:List UInt8) (i:Nat) (hi:i≤1) (hs:(s.length:Int)≤big) (K:List AV→Prop) (hK:K [i64 (hoursP s i).1,i64 (hoursP s i).2.1,bo (hoursP s i).2.2]) :
  evSpec C2 Tryz.f82 [.imm (.str s),.imm (.int .i64 i)] K:=by
 unfold big at hs
 rw [f17_in]
 refine ⟨by omega,?_⟩
 unfold LoopI
 have hrl:=run_le (s.drop i)
 have hdl:(s.drop i).length = s.length - i:=List.length_drop
 refine loop_rule (fun j:Nat=>h17 s i (num ((runD (s.drop i)).take j)) ((i + j:Nat):Int) (digit s (i + j)).1 (digit s (i + j)).2) (fun j=>j≤3∧j≤(runD (s.drop i)).length) (fun j=>(runD (s.drop i)).length - j)
  (fun j hP K' hnorm hexit=>?_) rfl 0 p17 _ ⟨by omega,by omega⟩ (by kernel_rfl)
 obtain ⟨h3,hle⟩:=hP
 have en:IntKind.wrap .i64 (((i + j:Nat):Int) + 1) = ((i + (j + 1):Nat):Int):=by rw [wrap64 (by omega) (by omega)]; omega
 have ei:IntKind.wrap .i64 (((i + (j + 1):Nat):Int) - i) = ((j + 1:Nat):Int):=by rw [wrap64 (by omega) (by omega)]; omega
 have hd:=run_digit (s.drop i) j hle
 rw [← digit_drop] at hd
 have hnl:=num_le (s.drop i) j hle
 have hn9:num ((runD (s.drop i)).take j) < 1000:=by
  have:10 ^ j≤10 ^ 3:=Nat.pow_le_pow_right (by decide) h3
  omega
 have hdle:=digit_le s (i + j)
 have eh:IntKind.wrap .i64 (IntKind.wrap .i64 ((num ((runD (s.drop i)).take j):Int) * 10) + ((digit s (i + j)).1:Int)) = ((num ((runD (s.drop i)).take j) * 10 + (digit s (i + j)).1:Nat):Int):=by
  rw [wrap64 (n:=(num ((runD (s.drop i)).take j):Int) * 10) (by omega) (by omega),wrap64 (by omega) (by omega)]
  omega
 rw [f17_lp]
 simp only [en,ei,eh,Int.toNat_natCast]
 unfold hoursP at hK
 by_cases hlt:j < (runD (s.drop i)).length
 ·rw [if_pos hlt] at hd
  refine brn_intro (fun _=>?_) (fun h=>by rw [hd] at h; cases h)
  refine brn_intro (fun h=>?_) (fun h=>?_)
  ·have h':¬ (runD (s.drop i)).length≤3:=by simp at h; omega
   rw [if_neg h'] at hK
   refine hexit _ _ (by simp) ?_
   exact Eq.mp (by kernel_rfl) hK
  ·refine ⟨by omega,hnorm (j + 1) p17 _ ⟨by simp at h; omega,by omega⟩ (by omega) ?_⟩
   have e2:num ((runD (s.drop i)).take (j + 1)) = num ((runD (s.drop i)).take j) * 10 + (digit s (i + j)).1:=by
    rw [num_succ _ _ hlt,hd]
   rw [e2]
   show _ = _
   kernel_rfl
 ·rw [if_neg hlt] at hd
  have hj:j = (runD (s.drop i)).length:=by omega
  refine brn_intro (fun h=>by rw [hd] at h; cases h) (fun _=>?_)
  refine hexit _ _ (by simp) ?_
  rw [if_pos (by omega),← hj] at hK
  have e1:num (runD (s.drop i)) = num ((runD (s.drop i)).take j):=by rw [hj,List.take_length]
  rw [e1] at hK
  have e2:(decide (0 < j) && decide (num ((runD (s.drop i)).take j)≤167)) = (decide (((i + j:Nat):Int) > (i:Int)) && decide (((num ((runD (s.drop i)).take j):Nat):Int)≤167)):=by
   rw [Bool.eq_iff_iff]
   simp only [Bool.and_eq_true,decide_eq_true_eq]
   omega
  rw [e2] at hK
  exact Eq.mp (by kernel_rfl) hK
theorem ok17:∀ args pres res,sHours args = some (pres,res)→SpecOK Tryz.prog G8 82 args pres res:=by
 intro args pres res h
 unfold sHours at h
 split at h
 case h_2=>cases h
 cases h
 rename_i s n
 refine mk okE2 at17 (by decide) rfl (fun hp K hK=>?_)
 have h0:=hp _ (List.mem_cons_self ..)
 have h1:=hp _ (List.mem_cons_of_mem _ (List.mem_cons_self ..))
 have h2:=hp _ (List.mem_cons_of_mem _ (List.mem_cons_of_mem _ (List.mem_cons_self ..)))
 obtain ⟨i,rfl⟩:=nat_of h0
 simp only [Int.toNat_natCast] at hK
 exact f17_ev s i (by omega) h2 K hK
theorem okE3:EOK Tryz.prog E3 G8:=addE_ok (addE_ok (addE_ok okE2 ok17) ok18) ok20
theorem f10_out (s:List UInt8) (i:Int) (n:Int) (h:Int) (K:List AV→Prop):loopK C3 (bodyOf Tryz.f44) (0:Nat) (finK C3 Tryz.f44 K) (AX.exit (0:Nat)) (St.mk (let y:=let y:=let y:=let y:=[.dead,.dead,.dead,.dead,.dead,.dead]; AV.dead :: AV.dead :: AV.dead :: AV.dead :: AV.dead :: y; let y:=AV.dead :: AV.dead :: AV.dead :: AV.dead :: AV.dead :: AV.dead :: y; AV.dead :: AV.dead :: AV.dead :: AV.dead :: AV.dead :: y; let y:=let y:=AV.dead :: AV.dead :: AV.dead :: AV.dead :: AV.dead :: AV.dead :: y; AV.dead :: AV.dead :: AV.dead :: AV.dead :: AV.dead :: y; let y:=AV.dead :: AV.dead :: AV.dead :: AV.dead :: AV.dead :: AV.dead :: y; AV.dead :: AV.dead :: AV.dead :: AV.dead :: AV.dead :: y; let y:=let y:=let y:=AV.dead :: AV.dead :: AV.dead :: AV.dead :: AV.dead :: AV.dead :: y; AV.dead :: AV.dead :: AV.dead :: AV.dead :: AV.dead :: y; let y:=AV.imm (.int .i64 i) :: AV.imm (.int .i64 n) :: AV.imm (.int .i64 (IntKind.wrap .i64 (i + n))) :: AV.imm (.bool (digit s (IntKind.wrap .i64 (i + n)).toNat).2) :: AV.dead :: AV.dead :: y; AV.dead :: AV.dead :: AV.dead :: AV.dead :: AV.imm (.str s) :: y; let y:=let y:=AV.dead :: AV.dead :: AV.dead :: AV.dead :: AV.dead :: AV.dead :: y; AV.dead :: AV.dead :: AV.dead :: AV.dead :: AV.dead :: y; let y:=AV.imm (.int .i64 i) :: AV.imm (.int .i64 n) :: AV.imm (.int .i64 h) :: AV.dead :: AV.dead :: y; AV.imm (.str s) :: AV.dead :: AV.imm (.int .i64 0) :: AV.imm (.int .i64 0) :: AV.imm (.bool false) :: y) [] (0:Nat) []) = (brn (decide (n < 1) || decide (n > 3) || decide (h > 167)) (K [.imm (.int .i64 0),.imm (.int .i64 0),.imm (.bool false)]) ((0:Int)≤IntKind.wrap .i64 (i + n)∧IntKind.wrap .i64 (i + n)≤(s.length:Int)∧(s.length:Int)≤big∧brn (decide (fieldR s (IntKind.wrap .i64 (i + n)).toNat≥0)) ((0:Int)≤IntKind.wrap .i64 (IntKind.wrap .i64 (i + n) + 3)∧IntKind.wrap .i64 (IntKind.wrap .i64 (i + n) + 3)≤(s.length:Int)∧(s.length:Int)≤big∧brn (decide (fieldR s (IntKind.wrap .i64 (IntKind.wrap .i64 (i + n) + 3)).toNat≥0)) ((0:Int)≤0∧(0:Int) < (s.length:Int)∧brn ((↑(UInt8.toNat (List.getD s (0:Int).toNat (0:UInt8))):Int) == 45) (K [.imm (.int .i64 (IntKind.wrap .i64 ((0:Int) - IntKind.wrap .i64 (IntKind.wrap .i64 (IntKind.wrap .i64 (h * 3600) + IntKind.wrap .i64 ((60:Int) * fieldR s (IntKind.wrap .i64 (i + n)).toNat)) + fieldR s (IntKind.wrap .i64 (IntKind.wrap .i64 (i + n) + 3)).toNat)))),.imm (.int .i64 (IntKind.wrap .i64 (IntKind.wrap .i64 (IntKind.wrap .i64 (i + n) + 3) + 3))),.imm (.bool true)]) (K [.imm (.int .i64 (IntKind.wrap .i64 (IntKind.wrap .i64 (IntKind.wrap .i64 (h * 3600) + IntKind.wrap .i64 ((60:Int) * fieldR s (IntKind.wrap .i64 (i + n)).toNat)) + fieldR s (IntKind.wrap .i64 (IntKind.wrap .i64 (i + n) + 3)).toNat))),.imm (.int .i64 (IntKind.wrap .i64 (IntKind.wrap .i64 (IntKind.wrap .i64 (i + n) + 3) + 3))),.imm (.bool true)])) ((0:Int)≤0∧(0:Int) < (s.length:Int)∧brn ((↑(UInt8.toNat (List.getD s (0:Int).toNat (0:UInt8))):Int) == 45) (K [.imm (.int .i64 (IntKind.wrap .i64 ((0:Int) - IntKind.wrap .i64 (IntKind.wrap .i64 (h * 3600) + IntKind.wrap .i64 ((60:Int) * fieldR s (IntKind.wrap .i64 (i + n)).toNat))))),.imm (.int .i64 (IntKind.wrap .i64 (IntKind.wrap .i64 (i + n) + 3))),.imm (.bool true)]) (K [.imm (.int .i64 (IntKind.wrap .i64 (IntKind.wrap .i64 (h * 3600) + IntKind.wrap .i64 ((60:Int) * fieldR s (IntKind.wrap .i64 (i + n)).toNat)))),.imm (.int .i64 (IntKind.wrap .i64 (IntKind.wrap .i64 (i + n) + 3))),.imm (.bool true)]))) ((0:Int)≤0∧(0:Int) < (s.length:Int)∧brn ((↑(UInt8.toNat (List.getD s (0:Int).toNat (0:UInt8))):Int) == 45) (K [.imm (.int .i64 (IntKind.wrap .i64 ((0:Int) - IntKind.wrap .i64 (h * 3600)))),.imm (.int .i64 (IntKind.wrap .i64 (i + n))),.imm (.bool true)]) (K [.imm (.int .i64 (IntKind.wrap .i64 (h * 3600))),.imm (.int .i64 (IntKind.wrap .i64 (i + n))),.imm (.bool true)])))):=by kernel_rfl
theorem off_le (s:List UInt8):off s≤1:=by
 unfold off
 split
 ·split <;> omega
 ·omega
theorem off_le_len (s:List UInt8):off s≤s.length:=by
 unfold off
 split
 ·simp only [List.length_cons]; split <;> omega
 ·omega
theorem sgn_eq {s:List UInt8} (h:0 < s.length):sgn s = if ((s.getD 0 0).toNat:Int) = 45 then -1 else 1:=by
 cases s with
 | nil=>simp at h
 | cons b r =>
  simp only [sgn,List.getD_cons_zero]
  by_cases hb:b = 45
  ·subst hb; rfl
  ·rw [if_neg hb,if_neg]
   intro h2
   exact hb (UInt8.toNat_inj.1 (by show b.toNat = 45; omega))
theorem fieldsP_of (s:List UInt8) (i:Nat) (hi:i≤s.length):(fieldR s i = -1∧fieldsP s i = (0,(i:Int))) ∨
  (∃ m:Nat,m < 60∧fieldR s i = m∧i + 3≤s.length∧((fieldR s (i + 3) = -1∧fieldsP s i = (60 * (m:Int),((i + 3:Nat):Int))) ∨
   ∃ c:Nat,c < 60∧fieldR s (i + 3) = c∧i + 6≤s.length∧fieldsP s i = (60 * (m:Int) + c,((i + 6:Nat):Int)))):=by
 unfold fieldR fieldsP
 rcases field_spec s i with ⟨hf,_⟩ | ⟨m,hf,_,_,hm,hl⟩
 ·left; rw [hf]; exact ⟨rfl,rfl⟩
 ·right
  rw [hf]
  refine ⟨m,hm,rfl,hl,?_⟩
  rcases field_spec s (i + 3) with ⟨hf2,_⟩ | ⟨c,hf2,_,_,hc,hl2⟩
  ·left; rw [hf2]; exact ⟨rfl,rfl⟩
  ·right; rw [hf2]; exact ⟨c,hc,rfl,by omega,rfl⟩
theorem hours_of (s:List UInt8) (i:Nat):(hoursP s i = (0,0,false)∧¬ (runD (s.drop i)).length≤3) ∨
  ((runD (s.drop i)).length≤3∧hoursP s i = ((num (runD (s.drop i)):Int),((i + (runD (s.drop i)).length:Nat):Int),decide (0 < (runD (s.drop i)).length) && decide (num (runD (s.drop i))≤167))):=by
 unfold hoursP
 by_cases h:(runD (s.drop i)).length≤3
 ·rw [if_pos h]; exact Or.inr ⟨h,rfl⟩
 ·rw [if_neg h]; exact Or.inl ⟨rfl,h⟩
def p10:Plan:=⟨[],[true,false,true,true,true,true,true,true],[]⟩
theorem w10' {h b:Int} (h0:0≤h) (h1:h < 10000) (h3:48≤b) (h4:b≤57):IntKind.wrap .i64 (IntKind.wrap .i64 (IntKind.wrap .i64 (10 * h) + IntKind.wrap .i64 b) - 48) = 10 * h + (b - 48):=by
 rw [wrap64 (n:=b) (by omega) (by omega),wrap64 (n:=10 * h) (by omega) (by omega),wrap64 (n:=10 * h + b) (by omega) (by omega),wrap64 (by omega) (by omega)]
 omega
theorem tail10 (s:List UInt8) (i:Nat) (hi:i = off s) (hs:s.length≤9223372036854775000) (K:List AV→Prop) (hK:K [i64 (parse s).1,i64 (parse s).2.1,bo (parse s).2.2])
  (h3:(runD (s.drop i)).length≤3) (h0:0 < (runD (s.drop i)).length) (h167:num (runD (s.drop i))≤167) :
  K [i64 (sgn s * ((num (runD (s.drop i)):Int) * 3600 + (fieldsP s (i + (runD (s.drop i)).length)).1)),i64 (fieldsP s (i + (runD (s.drop i)).length)).2,bo true]:=by
 unfold parse at hK
 rw [← hi] at hK
 rcases hours_of s i with ⟨_,h⟩ | ⟨_,e⟩
 ·exact absurd h3 h
 ·have e2:(hoursP s i).2.2 = true:=by rw [e]; simp [h0,h167]
  rw [if_pos e2] at hK
  rw [e] at hK
  simpa only [Int.toNat_natCast] using hK
theorem f10_loop (s:List UInt8) (hs:s.length≤9223372036854775000) (i:Nat) (hi:i = off s) (st0:St) (hn0:norm p10 st0 = some (h10 s i 0 0)) (K:List AV→Prop) (hK:K [i64 (parse s).1,i64 (parse s).2.1,bo (parse s).2.2]) :
  LoopI C3 (bodyOf Tryz.f44) 0 st0 (finK C3 Tryz.f44 K):=by
 have hi1:i≤1:=by rw [hi]; exact off_le s
 have hil:i≤s.length:=by rw [hi]; exact off_le_len s
 have hrl:=run_le (s.drop i)
 have hdl:(s.drop i).length = s.length - i:=List.length_drop
 unfold LoopI
 refine loop_rule (fun j:Nat=>h10 s i (j:Int) (num ((runD (s.drop i)).take (min j 4)))) (fun j=>j≤(runD (s.drop i)).length) (fun j=>(runD (s.drop i)).length - j)
  (fun j hP K' hnorm hexit=>?_) rfl 0 p10 _ (by omega) (hn0.trans (by kernel_rfl))
 have en:IntKind.wrap .i64 ((i:Int) + (j:Int)) = ((i + j:Nat):Int):=by rw [wrap64 (by omega) (by omega)]; omega
 have ej:IntKind.wrap .i64 ((j:Int) + 1) = ((j + 1:Nat):Int):=by rw [wrap64 (by omega) (by omega)]; omega
 have hd:=run_digit (s.drop i) j hP
 rw [← digit_drop] at hd
 rw [f10_lp]
 simp only [en,ej]
 refine ⟨by omega,?_⟩
 by_cases hlt:j < (runD (s.drop i)).length
 ·rw [if_pos hlt] at hd
  refine brn_intro (fun _=>?_) (fun h=>by rw [Int.toNat_natCast,hd] at h; cases h)
  have hbd:isD (s.getD (i + j) 0) = true∧dv (s.getD (i + j) 0) = (digit s (i + j)).1:=by
   have h2:=digit_eq s (i + j)
   rw [hd] at h2
   rw [hd]
   by_cases a1:i + j < s.length
   ·rw [if_pos a1] at h2
    by_cases a2:isD (s.getD (i + j) 0) = true
    ·rw [if_pos a2] at h2; exact ⟨a2,(congrArg Prod.fst h2).symm⟩
    ·rw [if_neg a2] at h2; cases (congrArg Prod.snd h2)
   ·rw [if_neg a1] at h2; cases (congrArg Prod.snd h2)
  have hb:=(isD_iff _).1 hbd.1
  refine brn_intro (fun h4=>?_) (fun h4=>?_)
  ·have hj4:j < 4:=by simp only [decide_eq_true_eq] at h4; omega
   have hm:min j 4 = j:=by omega
   have hm1:min (j + 1) 4 = j + 1:=by omega
   have hnl:=num_le (s.drop i) j hP
   have hn9:num ((runD (s.drop i)).take j) < 1000:=by
    have:10 ^ j≤10 ^ 3:=Nat.pow_le_pow_right (by decide) (by omega)
    omega
   refine ⟨by omega,by omega,hnorm (j + 1) p10 _ (by omega) (by omega) ?_⟩
   have e2:(num ((runD (s.drop i)).take (min (j + 1) 4)):Int) = 10 * (num ((runD (s.drop i)).take (min j 4)):Int) + (((s.getD (i + j) 0).toNat:Int) - 48):=by
    rw [hm,hm1,num_succ _ _ hlt]
    have:dv ((runD (s.drop i)).getD j 0) = dv (s.getD (i + j) 0):=by rw [hbd.2,hd]
    rw [this]
    unfold dv
    omega
   have e3:=w10' (h:=(num ((runD (s.drop i)).take (min j 4)):Int)) (b:=((s.getD (i + j) 0).toNat:Int)) (by omega) (by rw [hm]; omega) (by omega) (by omega)
   rw [e2,← e3]
   show _ = _
   kernel_rfl
  ·have hj4:¬ j < 4:=by simp only [decide_eq_false_iff_not] at h4; omega
   have hm:min (j + 1) 4 = min j 4:=by omega
   refine hnorm (j + 1) p10 _ (by omega) (by omega) ?_
   rw [hm]
   show _ = _
   kernel_rfl
 ·rw [if_neg hlt] at hd
  have hj:j = (runD (s.drop i)).length:=by omega
  refine brn_intro (fun h=>by rw [Int.toNat_natCast,hd] at h; cases h) (fun _=>?_)
  refine hexit _ _ (by simp) ?_
  rw [← en]
  refine Eq.mpr (f10_out s (i:Int) (j:Int) (num ((runD (s.drop i)).take (min j 4))) K) ?_
  simp only [en,Int.toNat_natCast]
  refine brn_intro (fun h=>?_) (fun h=>?_)
  ·have hf:parse s = (0,0,false):=by
    unfold parse
    rw [← hi]
    rcases hours_of s i with ⟨e,_⟩ | ⟨h3,e⟩
    ·rw [e]; first | done | rfl
    ·have:(hoursP s i).2.2 = false:=by
      rw [e]
      have hm:min j 4 = j:=by omega
      rw [hm,hj,List.take_length] at h
      simp only [Bool.or_eq_true,decide_eq_true_eq] at h
      simp only [Bool.and_eq_false_iff,decide_eq_false_iff_not]
      omega
     rw [if_neg (by rw [this]; simp)]
   rw [hf] at hK
   exact hK
  ·simp only [Bool.or_eq_false_iff,decide_eq_false_iff_not] at h
   have hm:min j 4 = j:=by omega
   rw [hm,hj,List.take_length] at h
   have ht:num ((runD (s.drop i)).take (min j 4)) = num (runD (s.drop i)):=by rw [hm,hj,List.take_length]
   rw [ht]
   have hK':=tail10 s i hi hs K hK (by omega) (by omega) (by omega)
   rw [← hj] at hK'
   have hlen:i + j≤s.length:=by omega
   have hpos:0 < s.length:=by omega
   rw [sgn_eq hpos] at hK'
   have h167:num (runD (s.drop i))≤167:=by omega
   generalize num (runD (s.drop i)) = hh at h167 hK'
   have w1:IntKind.wrap .i64 ((hh:Int) * 3600) = (hh:Int) * 3600:=wrap64 (by omega) (by omega)
   have e3:IntKind.wrap .i64 (((i + j:Nat):Int) + 3) = ((i + j + 3:Nat):Int):=by rw [wrap64 (by omega) (by omega)]; omega
   simp only [w1,e3,Int.toNat_natCast]
   refine ⟨by omega,by omega,by show (s.length:Int)≤9223372036854775000; omega,?_⟩
   have sg:∀ (b:Int) (X Y:Prop),(b = 45→X)→(b≠45→Y)→brn (b == 45) X Y:=fun b X Y hx hy=>brn_intro (fun h=>hx (by simpa using h)) (fun h=>hy (by simpa using h))
   rcases fieldsP_of s (i + j) hlen with ⟨q1,q2⟩ | ⟨m,m60,q1,q0,q2⟩
   ·rw [q1]
    rw [q2] at hK'
    refine brn_intro (fun h=>by simp at h) (fun _=>⟨by omega,by omega,sg _ _ _ (fun hb=>?_) (fun hb=>?_)⟩)
    ·rw [if_pos (by simpa using hb)] at hK'
     have:IntKind.wrap .i64 (0 - (hh:Int) * 3600) = -1 * ((hh:Int) * 3600 + 0):=by rw [wrap64 (by omega) (by omega)]; omega
     rw [this]; exact hK'
    ·rw [if_neg (by simpa using hb)] at hK'
     have:(hh:Int) * 3600 = 1 * ((hh:Int) * 3600 + 0):=by omega
     rw [this]; exact hK'
   ·rw [q1]
    have w2:IntKind.wrap .i64 (60 * (m:Int)) = 60 * (m:Int):=wrap64 (by omega) (by omega)
    have w3:IntKind.wrap .i64 ((hh:Int) * 3600 + 60 * (m:Int)) = (hh:Int) * 3600 + 60 * (m:Int):=wrap64 (by omega) (by omega)
    simp only [w2,w3]
    refine brn_intro (fun _=>⟨by omega,by omega,by show (s.length:Int)≤9223372036854775000; omega,?_⟩) (fun h=>by simp at h)
    rcases q2 with ⟨q3,q4⟩ | ⟨c,c60,q3,q5,q4⟩
    ·rw [q3]
     rw [q4] at hK'
     refine brn_intro (fun h=>by simp at h) (fun _=>⟨by omega,by omega,sg _ _ _ (fun hb=>?_) (fun hb=>?_)⟩)
     ·rw [if_pos (by simpa using hb)] at hK'
      have:IntKind.wrap .i64 (0 - ((hh:Int) * 3600 + 60 * (m:Int))) = -1 * ((hh:Int) * 3600 + 60 * (m:Int)):=by rw [wrap64 (by omega) (by omega)]; omega
      rw [this]; exact hK'
     ·rw [if_neg (by simpa using hb)] at hK'
      have:(hh:Int) * 3600 + 60 * (m:Int) = 1 * ((hh:Int) * 3600 + 60 * (m:Int)):=by omega
      rw [this]; exact hK'
    ·rw [q3]
     rw [q4] at hK'
     have w4:IntKind.wrap .i64 ((hh:Int) * 3600 + 60 * (m:Int) + (c:Int)) = (hh:Int) * 3600 + 60 * (m:Int) + (c:Int):=wrap64 (by omega) (by omega)
     have e6:IntKind.wrap .i64 (((i + j + 3:Nat):Int) + 3) = ((i + j + 6:Nat):Int):=by rw [wrap64 (by omega) (by omega)]; omega
     simp only [w4,e6]
     refine brn_intro (fun _=>⟨by omega,by omega,sg _ _ _ (fun hb=>?_) (fun hb=>?_)⟩) (fun h=>by simp at h)
     ·rw [if_pos (by simpa using hb)] at hK'
      have:IntKind.wrap .i64 (0 - ((hh:Int) * 3600 + 60 * (m:Int) + (c:Int))) = -1 * ((hh:Int) * 3600 + (60 * (m:Int) + c)):=by rw [wrap64 (by omega) (by omega)]; omega
      rw [this]; exact hK'
     ·rw [if_neg (by simpa using hb)] at hK'
      have:(hh:Int) * 3600 + 60 * (m:Int) + (c:Int) = 1 * ((hh:Int) * 3600 + (60 * (m:Int) + c)):=by omega
      rw [this]; exact hK'
theorem ok10:∀ args pres res,sParse args = some (pres,res)→SpecOK Tryz.prog G8 44 args pres res:=by
 intro args pres res h
 unfold sParse at h
 split at h
 case h_2=>cases h
 cases h
 rename_i s
 refine mk okE3 at10 (by decide) rfl (fun hp K hK=>?_)
 have h0:=hp _ (List.mem_cons_self ..)
 unfold big at h0
 have hs:s.length≤9223372036854775000:=by omega
 rw [show cx E3 = C3 from rfl,f10_in (hc:=rfl)]
 refine ⟨fun h=>by omega,fun h=>by simpa using h,fun _ _=>by omega,fun h _=>by simpa using h,brn_intro (fun h=>?_) (fun h=>?_)⟩
 ·refine f10_loop s hs 1 ?_ _ (by kernel_rfl) K hK
  cases s with
  | nil=>simp at h
  | cons b r =>
   simp only [off]
   simp only [List.getD_cons_zero,Bool.and_eq_true,Bool.or_eq_true,beq_iff_eq,Int.toNat_zero] at h
   rw [if_pos]
   rcases h.2 with h | h
   ·exact Or.inr (UInt8.toNat_inj.1 (by show b.toNat = 43; omega))
   ·exact Or.inl (UInt8.toNat_inj.1 (by show b.toNat = 45; omega))
 ·refine f10_loop s hs 0 ?_ _ (by kernel_rfl) K hK
  cases s with
  | nil=>rfl
  | cons b r =>
   simp only [off]
   rw [if_neg]
   intro hb
   have:(decide (((b :: r).length:Int) > 0) && (((b.toNat:Int) == 43) || ((b.toNat:Int) == 45))) = true:=by
    rcases hb with rfl | rfl <;> simp <;> omega
   have h':(decide (((b :: r).length:Int) > 0) && (((b.toNat:Int) == 43) || ((b.toNat:Int) == 45))) = false:=h
   rw [this] at h'
   cases h'
theorem pfx1 (s:List UInt8) (c:UInt8):pfx s [c] = true↔∃ r,s = c :: r:=by
 unfold pfx
 cases s with
 | nil=>simp
 | cons b r =>
  simp only [List.isPrefixOf_cons₂,List.isPrefixOf_nil_left,Bool.and_true,beq_iff_eq,List.cons.injEq,exists_eq_right']
  exact eq_comm
theorem hours_le (s:List UInt8) (i:Nat) (hi:i≤s.length) (h:(hoursP s i).2.2 = true):∃ n:Nat,(hoursP s i).2.1 = (n:Int)∧n≤s.length∧i < n∧0≤(hoursP s i).1∧(hoursP s i).1≤167:=by
 have hrl:=run_le (s.drop i)
 have hdl:(s.drop i).length = s.length - i:=List.length_drop
 rcases hours_of s i with ⟨e,_⟩ | ⟨h3,e⟩
 ·rw [e] at h; cases h
 ·rw [e] at h ⊢
  simp only [Bool.and_eq_true,decide_eq_true_eq] at h
  exact ⟨i + (runD (s.drop i)).length,rfl,by omega,by omega,by show (0:Int)≤_; omega,by show (_:Int)≤167; omega⟩
theorem fields_b (s:List UInt8) (i:Nat) (hi:i≤s.length):0≤(fieldsP s i).1∧(fieldsP s i).1 < 3600∧∃ n:Nat,(fieldsP s i).2 = (n:Int)∧i≤n∧n≤s.length:=by
 rcases fieldsP_of s i hi with ⟨_,e⟩ | ⟨m,hm,_,hl,⟨_,e⟩ | ⟨c,hc,_,hl2,e⟩⟩
 ·rw [e]; exact ⟨by show (0:Int)≤0; omega,by show (0:Int) < 3600; omega,i,rfl,by omega,hi⟩
 ·rw [e]; exact ⟨by show (0:Int)≤_; omega,by show (_:Int) < 3600; omega,i + 3,rfl,by omega,hl⟩
 ·rw [e]; exact ⟨by show (0:Int)≤_; omega,by show (_:Int) < 3600; omega,i + 6,rfl,by omega,hl2⟩
theorem f9_tail (s:List UInt8) (hs:(s.length:Int)≤big) (g:Int) (i:Nat) (hi:i = off s) (hg:g = sgn s) (K:List AV→Prop) (hK:K [i64 (parse s).1,i64 (parse s).2.1,bo (parse s).2.2]) :
  brn (!(hoursP s i).2.2) (K [i64 0,i64 0,bo false])
   ((0:Int)≤(hoursP s i).2.1∧(hoursP s i).2.1≤(s.length:Int)∧(s.length:Int)≤big ∧
    K [i64 (IntKind.wrap .i64 (g * IntKind.wrap .i64 (IntKind.wrap .i64 ((hoursP s i).1 * 3600) + (fieldsP s (hoursP s i).2.1.toNat).1))),i64 (fieldsP s (hoursP s i).2.1.toNat).2,bo true]):=by
 subst hi
 have hil:=off_le_len s
 unfold parse at hK
 refine brn_intro (fun h=>?_) (fun h=>?_)
 ·have h':(hoursP s (off s)).2.2 = false:=by simpa using h
  rw [if_neg (by rw [h']; simp)] at hK
  exact hK
 ·have h':(hoursP s (off s)).2.2 = true:=by simpa using h
  rw [if_pos h'] at hK
  obtain ⟨n,e,hn,hin,b0,b1⟩:=hours_le s (off s) hil h'
  obtain ⟨c0,c1,_⟩:=fields_b s n hn
  rw [e,Int.toNat_natCast] at hK ⊢
  refine ⟨by omega,by omega,hs,?_⟩
  have w:IntKind.wrap .i64 (g * IntKind.wrap .i64 (IntKind.wrap .i64 ((hoursP s (off s)).1 * 3600) + (fieldsP s n).1)) = sgn s * ((hoursP s (off s)).1 * 3600 + (fieldsP s n).1):=by
   rw [wrap64 (n:=(hoursP s (off s)).1 * 3600) (by omega) (by omega),wrap64 (n:=(hoursP s (off s)).1 * 3600 + (fieldsP s n).1) (by omega) (by omega),hg]
   have:sgn s = 1∨sgn s = -1:=by
    unfold sgn
    split
    ·split
     ·exact Or.inr rfl
     ·exact Or.inl rfl
    ·exact Or.inl rfl
   rcases this with h | h <;> rw [h] <;> rw [wrap64 (by omega) (by omega)]
  rw [w]
  exact hK
theorem ok9:∀ args pres res,sParse args = some (pres,res)→SpecOK Tryz.prog G8 60 args pres res:=by
 intro args pres res h
 unfold sParse at h
 split at h
 case h_2=>cases h
 cases h
 rename_i s
 refine mk okE3 at9 (by decide) rfl (fun hp K hK=>?_)
 have h0:=hp _ (List.mem_cons_self ..)
 rw [show cx E3 = C3 from rfl,f9_in]
 refine brn_intro (fun h=>?_) (fun h=>?_)
 ·have hc:∃ c r,s = c :: r∧(c = 45∨c = 43):=by
   rw [Bool.or_eq_true,pfx1,pfx1] at h
   rcases h with ⟨r,rfl⟩ | ⟨r,rfl⟩
   ·exact ⟨_,_,rfl,Or.inl rfl⟩
   ·exact ⟨_,_,rfl,Or.inr rfl⟩
  obtain ⟨c,r,rfl,hc⟩:=hc
  have ho:off (c :: r) = 1:=by simp only [off]; rw [if_pos hc]
  refine ⟨by omega,by simp,brn_intro (fun hb=>?_) (fun hb=>?_)⟩
  ·have:c = 45:=by
    have:(c.toNat:Int) = 45:=by simpa using hb
    exact UInt8.toNat_inj.1 (by show c.toNat = 45; omega)
   subst this
   exact ⟨by decide,by decide,h0,f9_tail _ h0 (-1) 1 ho.symm rfl K hK⟩
  ·have:c≠45:=by rintro rfl; simp at hb
   have hg:sgn (c :: r) = 1:=by simp only [sgn]; rw [if_neg this]
   exact ⟨by decide,by decide,h0,f9_tail _ h0 1 1 ho.symm hg.symm K hK⟩
 ·have hx:off s = 0∧sgn s = 1:=by
   rw [Bool.or_eq_false_iff] at h
   cases s with
   | nil=>exact ⟨rfl,rfl⟩
   | cons c r =>
    have h1:c≠45:=by rintro rfl; simp [pfx] at h
    have h2:c≠43:=by rintro rfl; simp [pfx] at h
    simp only [off,sgn]
    rw [if_neg (by simp [h1,h2]),if_neg h1]
    exact ⟨rfl,rfl⟩
  exact ⟨by decide,by decide,h0,f9_tail _ h0 1 0 hx.1.symm hx.2.symm K hK⟩
theorem dd_len (n:Nat):1≤(dd n).length∧(dd n).length≤3:=by unfold dd; split <;> (try split) <;> simp
end P8
set_option maxRecDepth 100000
namespace P8
open Go Go.AE Go.Proofs
end P8
namespace P7
open Go Go.AE Go.Proofs
def isAlpha (c:Int):Bool:=decide (c≥97) && decide (c≤122) || decide (c≥65) && decide (c≤90)
def allowed (c:Int):Bool:=decide (c < 128) && (isAlpha (IntKind.wrap IntKind.u8 c) || decide (c≥48) && decide (c≤57) || c == 43 || c == 45)
def alphaB (b:UInt8):Bool:=isAlpha (b.toNat:Int)
def goodB (b:UInt8):Bool:=alphaB b || decide (48≤b.toNat) && decide (b.toNat≤57) || b.toNat == 43 || b.toNat == 45
def valid (s:List UInt8):Bool:=s.all goodB && (decide (3≤s.length) && decide (s.length≤255))
def bare (s:List UInt8):Bool:=s.all alphaB
def letters (s:List UInt8):Nat:=(s.takeWhile alphaB).length
def place (s:List UInt8) (b:UInt8):Nat:=(s.takeWhile (fun x=>x != b)).length
def idx (s:List UInt8) (b:Int):Int:=if place s (UInt8.ofNat b.toNat) < s.length then (place s (UInt8.ofNat b.toNat):Int) else -1
def pfx (s t:List UInt8):Bool:=t.isPrefixOf s
def parseQ (r:List UInt8):List UInt8×Int×Bool :=
 if place r 62 < r.length then (if valid (r.take (place r 62)) then (r.take (place r 62),(place r 62:Int) + 2,true) else ([],0,false)) else ([],0,false)
def parseP (s:List UInt8):List UInt8×Int×Bool:=if valid (s.take (letters s)) then (s.take (letters s),(letters s:Int),true) else ([],0,false)
def parse:List UInt8→List UInt8×Int×Bool
 | b :: r=>if b = 60 then parseQ r else parseP (b :: r)
 | []=>parseP []
def bo (b:Bool):AV:=.imm (.bool b)
def i64 (n:Int):AV:=.imm (.int .i64 n)
def st (s:List UInt8):AV:=.imm (.str s)
def sAlpha:List AV→Option (List Prop×List AV)
 | [.imm (.int .u8 c)]=>some ([],[bo (isAlpha c)])
 | _=>none
def sAllowed:List AV→Option (List Prop×List AV)
 | [.imm (.int .i32 c)]=>some ([],[bo (allowed c)])
 | _=>none
def sValid:List AV→Option (List Prop×List AV)
 | [.imm (.str s)]=>some ([s.length≤9223372036854775807],[bo (valid s)])
 | _=>none
def sLetters:List AV→Option (List Prop×List AV)
 | [.imm (.str s)]=>some ([s.length≤9223372036854775806],[i64 (letters s)])
 | _=>none
def sIdx:List AV→Option (List Prop×List AV)
 | [.imm (.str s),.imm (.int .u8 b)]=>some ([0≤b,b < 256],[i64 (idx s b)])
 | _=>none
def sPfx:List AV→Option (List Prop×List AV)
 | [.imm (.str s),.imm (.str t)]=>some ([],[bo (pfx s t)])
 | _=>none
def sCut:List AV→Option (List Prop×List AV)
 | [.imm (.str s),.imm (.str t)]=>some ([],[st (if pfx s t then s.drop t.length else s),bo (pfx s t)])
 | _=>none
def sParse:List AV→Option (List Prop×List AV)
 | [.imm (.str s)]=>some ([s.length≤9223372036854775800],[st (parse s).1,i64 (parse s).2.1,bo (parse s).2.2])
 | _=>none
def G0:Nat→Option (List AV):=P8.G8
noncomputable def cx (E:FuncId→List AV→Option (List Prop×List AV)):Cx:=⟨Tryz.prog,E,noCall,G0,0⟩
def E1:=addE (addE (addE noE 80 sAlpha) 86 sAlpha) 79 sIdx
def E2:=addE (addE E1 85 sAllowed) 95 sPfx
def E3:=addE (addE E2 64 sValid) 66 sValid
def E4:=addE (addE (addE E3 67 sLetters) 93 sCut) 78 sCut
def E5:=addE (addE E4 59 sParse) 42 sParse
noncomputable def C0:Cx:=cx noE
noncomputable def C1:Cx:=cx E1
noncomputable def C2:Cx:=cx E2
noncomputable def C3:Cx:=cx E3
noncomputable def C4:Cx:=cx E4
noncomputable def C5:Cx:=cx E5
def h10 (s:List UInt8) (pos:Nat):St:=⟨lapp [st s,.dead,bo false,.dead,.dead,st s,.ptr 0 0] (lrepl 14 .dead),[(0,⟨true,0,.iter s pos⟩)],1,[]⟩
def h11 (s:List UInt8) (i:Int):St:=⟨lapp [st s,.dead,bo false,i64 i] (lrepl 37 .dead),[],0,[]⟩
def h18 (s:List UInt8) (n:Int):St:=⟨lapp [st s,.dead,i64 0,i64 n] (lrepl 13 .dead),[],0,[]⟩
def h8 (s:List UInt8) (n:Int):St:=⟨lapp [st s,.dead,st [],i64 0,bo false,st [],i64 n] (lrepl 38 .dead),[],0,[]⟩
def h9 (s:List UInt8) (i:Int):St:=⟨lapp [st s,.dead,st [],i64 0,bo false,i64 i] (lrepl 40 .dead),[],0,[]⟩
end P7
namespace P9
open Go Go.AE Go.Proofs
def number (s:List UInt8):Int×Int×Bool:=if (P8.runD s).length≤3 then ((P8.num (P8.runD s):Int),((P8.runD s).length:Int),decide (0 < (P8.runD s).length)) else (0,0,false)
def after (s:List UInt8) (i:Nat) (c:UInt8):Int×Int×Bool:=match s.drop i with
 | b :: r=>if b = c then ((number r).1,((i + 1:Nat):Int) + (number r).2.1,(number r).2.2) else (0,0,false)
 | []=>(0,0,false)
structure D where
 k:Int
 d:Int
 m:Int
 w:Int
 e:Int
 n:Int
 ok:Bool
def noD:D:=⟨0,0,0,0,0,0,false⟩
def dateM (s:List UInt8):D :=
 if (number (s.drop 1)).2.2 then (if (after s ((number (s.drop 1)).2.1.toNat + 1) 46).2.2 then
  ⟨3,0,(number (s.drop 1)).1,(after s ((number (s.drop 1)).2.1.toNat + 1) 46).1,(after s (after s ((number (s.drop 1)).2.1.toNat + 1) 46).2.1.toNat 46).1,(after s (after s ((number (s.drop 1)).2.1.toNat + 1) 46).2.1.toNat 46).2.1,(after s (after s ((number (s.drop 1)).2.1.toNat + 1) 46).2.1.toNat 46).2.2⟩
  else noD) else noD
def date (s:List UInt8):D:=match s with
 | []=>noD
 | b :: r=>if b = 74 then ⟨1,(number r).1,0,0,0,(number r).2.1 + 1,(number r).2.2⟩ else if b = 77 then dateM s else ⟨2,(number s).1,0,0,0,(number s).2.1,(number s).2.2⟩
def validDay (k d m w e t:Int):Bool:=decide (-604799≤t) && decide (t≤604799) &&
 ((k == 1 || k == 2) && (m == 0) && (w == 0) && (e == 0) && decide (0≤d) && decide (d≤365) && (k == 2 || decide (0 < d)) || (k == 3) && (d == 0) && decide (1≤m) && decide (m≤12) && decide (1≤w) && decide (w≤5) && decide (0≤e) && decide (e < 7))
structure Dy where
 k:Int
 d:Int
 m:Int
 w:Int
 e:Int
 t:Int
 n:Int
 ok:Bool
def noDy:Dy:=⟨0,0,0,0,0,0,0,false⟩
def slash (s:List UInt8) (x:D):Bool:=x.ok && decide (x.n < (s.length:Int)) && (s.getD x.n.toNat 0 == 47)
def dayT (x:D) (t n:Int) (ok:Bool):Dy:=if ok && validDay x.k x.d x.m x.w x.e t then ⟨x.k,x.d,x.m,x.w,x.e,t,n,true⟩ else noDy
def day (s:List UInt8):Dy :=
 if slash s (date s) then dayT (date s) (P8.parse (s.drop ((date s).n.toNat + 1))).1 ((date s).n + 1 + (P8.parse (s.drop ((date s).n.toNat + 1))).2.1) (P8.parse (s.drop ((date s).n.toNat + 1))).2.2
 else dayT (date s) 7200 (date s).n (date s).ok
def dd (n:Nat):List UInt8:=P8.dd n
def side (n:Int):Bool:=decide (-89999≤n) && decide (n≤89999)
def bo (b:Bool):AV:=.imm (.bool b)
def i64 (n:Int):AV:=.imm (.int .i64 n)
def st (s:List UInt8):AV:=.imm (.str s)
def big:Int:=9223372036854774000
def dayAV (k d m w e t:Int):AV:=.agg [i64 k,i64 d,i64 m,i64 w,i64 e,i64 t]
def sSide:List AV→Option (List Prop×List AV)
 | [.imm (.int .i64 n)]=>some ([],[bo (side n)])
 | _=>none
def sNumber:List AV→Option (List Prop×List AV)
 | [.imm (.str s)]=>some ([(s.length:Int)≤big],[i64 (number s).1,i64 (number s).2.1,bo (number s).2.2])
 | _=>none
def sAfter:List AV→Option (List Prop×List AV)
 | [.imm (.str s),.imm (.int .i64 i),.imm (.int .u8 c)]=>some ([(s.length:Int)≤big,0≤i,i≤big,0≤c,c≤255],[i64 (after s i.toNat (u8 c)).1,i64 (after s i.toNat (u8 c)).2.1,bo (after s i.toNat (u8 c)).2.2])
 | _=>none
def sValidDay:List AV→Option (List Prop×List AV)
 | [.agg [.imm (.int .i64 k),.imm (.int .i64 d),.imm (.int .i64 m),.imm (.int .i64 w),.imm (.int .i64 e),.imm (.int .i64 t)]]=>some ([],[bo (validDay k d m w e t)])
 | _=>none
def sDate:List AV→Option (List Prop×List AV)
 | [.imm (.str s)]=>some ([(s.length:Int)≤big - 10],[dayAV (date s).k (date s).d (date s).m (date s).w (date s).e 0,i64 (date s).n,bo (date s).ok])
 | _=>none
def sDay:List AV→Option (List Prop×List AV)
 | [.imm (.str s)]=>some ([(s.length:Int)≤big - 20],[dayAV (day s).k (day s).d (day s).m (day s).w (day s).e (day s).t,i64 (day s).n,bo (day s).ok])
 | _=>none
def G0:Nat→Option (List AV):=P8.G8
noncomputable def cx (E:FuncId→List AV→Option (List Prop×List AV)):Cx:=⟨Tryz.prog,E,noCall,G0,0⟩
def F0:=addE (addE P7.E5 60 P8.sParse) 44 P8.sParse
def F1:=addE (addE (addE (addE F0 61 sSide) 103 sNumber) 65 sValidDay) 71 sValidDay
def F2:=addE F1 104 sAfter
def F3:=addE F2 97 sDate
def F4:=addE F3 84 sDay
noncomputable def C0:Cx:=cx F0
noncomputable def C1:Cx:=cx F1
noncomputable def C2:Cx:=cx F2
noncomputable def C3:Cx:=cx F3
noncomputable def C4:Cx:=cx F4
def h34 (s:List UInt8) (v n:Int):St:=⟨lapp [st s,.dead,i64 0,i64 0,bo false,i64 v,i64 n] (lrepl 32 .dead),[],0,[]⟩
def ruleAV (a:List UInt8) (o:Int) (h:Bool) (b:List UInt8) (p:Int) (k d m w e t k' d' m' w' e' t':Int):AV :=
 .agg [st a,i64 o,bo h,st b,i64 p,i64 k,i64 d,i64 m,i64 w,i64 e,i64 t,i64 k',i64 d',i64 m',i64 w',i64 e',i64 t']
def validRule (a:List UInt8) (o:Int) (h:Bool) (b:List UInt8) (p:Int) (k d m w e t k' d' m' w' e' t':Int):Bool :=
 P7.valid a && side o && (if h then P7.valid b && side p && validDay k d m w e t && validDay k' d' m' w' e' t'
  else decide (b = []) && (p == 0) && (k == 0) && (d == 0) && (m == 0) && (w == 0) && (e == 0) && (t == 0) && (k' == 0) && (d' == 0) && (m' == 0) && (w' == 0) && (e' == 0) && (t' == 0))
def sValidRule:List AV→Option (List Prop×List AV)
 | [.agg [.imm (.str a),.imm (.int .i64 o),.imm (.bool h),.imm (.str b),.imm (.int .i64 p),.imm (.int .i64 k),.imm (.int .i64 d),.imm (.int .i64 m),.imm (.int .i64 w),.imm (.int .i64 e),.imm (.int .i64 t),.imm (.int .i64 k'),.imm (.int .i64 d'),.imm (.int .i64 m'),.imm (.int .i64 w'),.imm (.int .i64 e'),.imm (.int .i64 t')]] =>
  some ([a.length≤9223372036854775807,b.length≤9223372036854775807],[bo (validRule a o h b p k d m w e t k' d' m' w' e' t')])
 | _=>none
def F5:=addE F4 39 sValidRule
noncomputable def inlF:FuncId→Option Func:=fun f=>bif Nat.beq f 35 then some Tryz.f35 else bif Nat.beq f 36 then some Tryz.f36 else bif Nat.beq f 37 then some Tryz.f37 else bif Nat.beq f 38 then some Tryz.f38 else bif Nat.beq f 62 then some Tryz.f62 else bif Nat.beq f 63 then some Tryz.f63 else none
noncomputable def C5:Cx:=⟨Tryz.prog,F5,inl inlF Tryz.prog F5 G0 0 4,G0,0⟩
noncomputable def c8:List Dir→Code:=fun p=>codeAt p (bodyOf Tryz.f17)
noncomputable def a8:Code:=.seq (c8 [.l]) (c8 [.r,.l])
def e8 (s:List UInt8):St:=⟨lapp [st s] (lrepl 39 .dead),[],0,[]⟩
def zRule:List AV:=[st [],i64 0,bo false,st [],i64 0,i64 0,i64 0,i64 0,i64 0,i64 0,i64 0,i64 0,i64 0,i64 0,i64 0,i64 0,i64 0]
def tl8 (t:Nat→AV) (n:Nat):List AV:=lmap t (ldrop 10 (upto n []))
def o8 (s:List UInt8) (i:Int) (R:List AV):List (Nat×Ob):=[(0,⟨true,0,.cells R⟩),(1,⟨true,0,.cells [i64 0]⟩),(2,⟨true,0,.cells [i64 0]⟩),(3,⟨true,0,.cells [st s,i64 i]⟩)]
def tlR (t:Nat→AV) (a b:Nat):List AV:=lmap t (ldrop a (upto b []))
def tlC (t:Nat→AV) (a b:Nat):List AV:=lmap (fun j=>clean1 (clean1 (t j))) (ldrop a (upto b []))
def R8 (a:List UInt8) (o:Int):List AV:=[st a,i64 o,bo false,st [],i64 0,i64 0,i64 0,i64 0,i64 0,i64 0,i64 0,i64 0,i64 0,i64 0,i64 0,i64 0,i64 0]
def P3:List AV:=[.ptr 0 0,.ptr 1 0,.ptr 2 0]
def S8 (s:List UInt8) (i:Int) (R:List AV) (x y z:AV) (t:Nat→AV):St:=⟨lapp [st s,.dead,.ptr 0 0,.ptr 1 0,.ptr 2 0,.ptr 3 0,x,y,z,.fn 34 [] [.ptr 0 0,.ptr 1 0,.ptr 2 0]] (tl8 t 40),o8 s i R,4,P3⟩
noncomputable def c19:List Dir→Code:=fun p=>codeAt p (bodyOf Tryz.f37)
def R17 (a:List UInt8) (o:Int) (h:Bool) (b:List UInt8) (p k d m w e t k' d' m' w' e' t':Int):List AV :=
 [st a,i64 o,bo h,st b,i64 p,i64 k,i64 d,i64 m,i64 w,i64 e,i64 t,i64 k',i64 d',i64 m',i64 w',i64 e',i64 t']
def S19 (s:List UInt8) (i:Int) (R0 R R2:List AV) (x y:AV) (OUT:List AV) (t:Nat→AV):St :=
 ⟨lapp [.ptr 3 0,x,y,.ptr 4 0,.ptr 5 0] (lmap t (ldrop 5 (upto 45 []))),lapp (o8 s i R0) [(4,⟨true,0,.cells R⟩),(5,⟨true,0,.cells R2⟩)],6,OUT⟩
def S19b (s:List UInt8) (i:Int) (R0 R R2:List AV) (x y:AV) (OUT:List AV) (X Y:List AV) (t:Nat→AV):St :=
 ⟨lapp [.ptr 3 0,x,y,.ptr 4 0,.ptr 5 0] (lmap t (ldrop 5 (upto 45 []))),lapp (o8 s i R0) [(4,⟨true,0,.cells R⟩),(5,⟨true,0,.cells R2⟩),(6,⟨true,0,.cells X⟩),(7,⟨true,0,.cells Y⟩)],8,OUT⟩
def S19c (s:List UInt8) (i:Int) (R0 R R2:List AV) (x y:AV) (OUT:List AV) (X Y Z W:List AV) (t:Nat→AV):St :=
 ⟨lapp [.ptr 3 0,x,y,.ptr 4 0,.ptr 5 0] (lmap t (ldrop 5 (upto 45 []))),lapp (o8 s i R0) [(4,⟨true,0,.cells R⟩),(5,⟨true,0,.cells R2⟩),(6,⟨true,0,.cells X⟩),(7,⟨true,0,.cells Y⟩),(8,⟨true,0,.cells Z⟩),(9,⟨true,0,.cells W⟩)],10,OUT⟩
def S8c (s:List UInt8) (i:Int) (R:List AV) (x y z:AV) (R4 R5 X Y Z W:List AV) (t:Nat→AV):St :=
 ⟨lapp [st s,.dead,.ptr 0 0,.ptr 1 0,.ptr 2 0,.ptr 3 0,x,y,z,.fn 34 [] [.ptr 0 0,.ptr 1 0,.ptr 2 0]] (tl8 t 40),
  lapp (o8 s i R) [(4,⟨true,0,.cells R4⟩),(5,⟨true,0,.cells R5⟩),(6,⟨true,0,.cells X⟩),(7,⟨true,0,.cells Y⟩),(8,⟨true,0,.cells Z⟩),(9,⟨true,0,.cells W⟩)],10,P3⟩
noncomputable def c16:List Dir→Code:=fun p=>codeAt p (bodyOf Tryz.f34)
noncomputable def C16:Cx:=⟨Tryz.prog,noE,noCall,G0,0⟩
def nilV:AV:=.imm (.val .nilIface)
def E16 (R:List AV) (X:AV):St:=⟨lapp [.ptr 0 0,.ptr 1 0,.ptr 2 0,X,.dead,.dead,X] (lrepl 12 .dead),[(0,⟨true,0,.cells R⟩),(1,⟨true,0,.cells [i64 0]⟩),(2,⟨true,0,.cells [i64 0]⟩)],3,P3⟩
noncomputable def C4i:Cx:=⟨Tryz.prog,F5,inl inlF Tryz.prog F5 G0 0 3,G0,0⟩
end P9
set_option maxRecDepth 100000
namespace P9
open Go Go.AE Go.Proofs
attribute [local irreducible] loopK evCode evSpec loopB norm
theorem f22_in (n:Int) (K:List AV→Prop):evSpec C0 Tryz.f61 [AV.imm (IV.int IntKind.i64 n)] K =
 (K [AV.imm (IV.bool (decide (n≥(-89999:Int)) && decide (n≤(89999:Int))))]):=by kernel_rfl
theorem f34_in (s:List UInt8) (K:List AV→Prop):evSpec C0 Tryz.f103 [AV.imm (IV.str s)] K = (LoopI C0 (bodyOf Tryz.f103) (0:Nat) (St.mk (lapp [st s,AV.dead,i64 0,i64 0,bo false,i64 0,i64 0] (dN 32)) [] (0:Nat) []) (finK C0 Tryz.f103 K)):=by kernel_rfl
theorem f34_lp (s:List UInt8) (v:Int) (n:Int) (k:AX→St→Prop) (c:Int) (hc:c = (↑(UInt8.toNat (List.getD s n.toNat (0:UInt8))):Int)):evCode C0 (loopB (bodyOf Tryz.f103) (0:Nat)) (h34 s v n) k = ((decide (n < (s.length:Int)) = true→(0:Int)≤n)∧(decide (n < (s.length:Int)) = true→n < (s.length:Int))∧((decide (n < (s.length:Int)) && decide (c≥48)) = true→(0:Int)≤n)∧((decide (n < (s.length:Int)) && decide (c≥48)) = true→n < (s.length:Int))∧brn (decide (n < (s.length:Int)) && decide (c≥48) && decide (c≤57)) (brn (n == 3) (k AX.ret (St.mk (lapp [st s,.dead,i64 0,i64 0,bo false,i64 v,i64 n,i64 n,st s,i64 (s.length:Int),bo (decide (n < (s.length:Int))),bo (decide (n < (s.length:Int))),.opt [((11:Nat),true)] (st s),.opt [((11:Nat),true)] (i64 n),.opt [((11:Nat),true)] (.imm (.int .u8 c)),.opt [((11:Nat),true)] (bo (decide (c≥48))),bo (decide (n < (s.length:Int)) && decide (c≥48)),bo (decide (n < (s.length:Int)) && decide (c≥48)),.opt [((17:Nat),true)] (st s),.opt [((17:Nat),true)] (i64 n),.opt [((17:Nat),true)] (.imm (.int .u8 c)),.opt [((17:Nat),true)] (bo (decide
 (c≤57))),bo (decide (n < (s.length:Int)) && decide (c≥48) && decide (c≤57)),i64 n,bo (n == 3)] (dN 14)) [] (0:Nat) [])) ((0:Int)≤n∧n < (s.length:Int)∧k AX.normal (St.mk (lapp [st s,.dead,i64 0,i64 0,bo false,i64 (IntKind.wrap .i64 (IntKind.wrap .i64 (v * 10) + IntKind.wrap .i64 (IntKind.wrap IntKind.u8 (c - 48)))),i64 (IntKind.wrap .i64 (n + 1)),i64 n,st s,i64 (s.length:Int),bo (decide (n < (s.length:Int))),bo (decide (n < (s.length:Int))),.opt [((11:Nat),true)] (st s),.opt [((11:Nat),true)] (i64 n),.opt [((11:Nat),true)] (.imm (.int .u8 c)),.opt [((11:Nat),true)] (bo (decide (c≥48))),bo (decide (n < (s.length:Int)) && decide (c≥48)),bo (decide (n < (s.length:Int)) && decide (c≥48)),.opt [((17:Nat),true)] (st s),.opt [((17:Nat),true)] (i64 n),.opt [((17:Nat),true)] (.imm (.int .u8 c)),.opt [((17:Nat),true)] (bo (decide (c≤57))),bo (decide (n < (s.length:Int)) && decide (c≥48) && decide (c≤57)),i64 n,bo (n == 3),i64 v,i64 (IntKind.wrap .i64 (v * 10)),st s,i64 n,.imm (.int .u8 c),.imm (.int .u8 (IntKind.wrap IntKind.u8 (c - 48))),i64 (IntKind.wrap .i64 (IntKind.wrap IntKind.u8 (c -
 48))),i64 (IntKind.wrap .i64 (IntKind.wrap .i64 (v * 10) + IntKind.wrap .i64 (IntKind.wrap IntKind.u8 (c - 48)))),i64 n,i64 (IntKind.wrap .i64 (n + 1))] (dN 4)) [] (0:Nat) []))) (k (AX.exit (0:Nat)) (St.mk (lapp [st s,.dead,i64 0,i64 0,bo false,i64 v,i64 n,i64 n,st s,i64 (s.length:Int),bo (decide (n < (s.length:Int))),bo (decide (n < (s.length:Int))),.opt [((11:Nat),true)] (st s),.opt [((11:Nat),true)] (i64 n),.opt [((11:Nat),true)] (.imm (.int .u8 c)),.opt [((11:Nat),true)] (bo (decide (c≥48))),bo (decide (n < (s.length:Int)) && decide (c≥48)),bo (decide (n < (s.length:Int)) && decide (c≥48)),.opt [((17:Nat),true)] (st s),.opt [((17:Nat),true)] (i64 n),.opt [((17:Nat),true)] (.imm (.int .u8 c)),.opt [((17:Nat),true)] (bo (decide (c≤57))),bo (decide (n < (s.length:Int)) && decide (c≥48) && decide (c≤57))] (dN 16)) [] (0:Nat) []))):=by subst hc; kernel_rfl
theorem f23_in (k:Int) (d:Int) (m:Int) (w:Int) (e:Int) (t:Int) (K:List AV →
 Prop):evSpec C0 Tryz.f65 [dayAV k d m w e t] K = (brn (decide (t < (-604799:Int)) || decide (t > (604799:Int))) (K [bo false]) (brn (k == (1:Int)) (brn (k == (1:Int)) (K [bo (m == (0:Int) && w == (0:Int) && e == (0:Int) && decide (d≥(0:Int)) && decide (d≤(365:Int)) && (k == (2:Int) || decide (d > (0:Int))))]) (brn (k == (3:Int)) (K [bo (d == (0:Int) && decide (m≥(1:Int)) && decide (m≤(12:Int)) && decide (w≥(1:Int)) && decide (w≤(5:Int)) && decide (e≥(0:Int)) && decide (e < (7:Int)))]) (K [bo false]))) (brn (k == (2:Int)) (K [bo (m == (0:Int) && w == (0:Int) && e == (0:Int) && decide (d≥(0:Int)) && decide (d≤(365:Int)) && (k == (2:Int) || decide (d > (0:Int))))]) (brn (k == (3:Int)) (K [bo (d == (0:Int) && decide (m≥(1:Int)) && decide (m≤(12:Int)) && decide (w≥(1:Int)) && decide (w≤(5:Int)) && decide (e≥(0:Int)) && decide (e < (7:Int)))]) (K [bo false]))))):=by kernel_rfl
theorem f11_in (k:Int) (d:Int) (m:Int) (w:Int) (e:Int) (t:Int) (K:List AV →
 Prop):evSpec C0 Tryz.f71 [dayAV k d m w e t] K = (brn (decide (t < (-604799:Int)) || decide (t > (604799:Int))) (K [bo false]) (brn (k == (1:Int)) (K [bo (decide (d≥(1:Int)) && decide (d≤(365:Int)) && m == (0:Int) && w == (0:Int) && e == (0:Int))]) (brn (k == (2:Int)) (K [bo (decide (d≥(0:Int)) && decide (d≤(365:Int)) && m == (0:Int) && w == (0:Int) && e == (0:Int))]) (K [bo (k == (3:Int) && d == (0:Int) && decide (m≥(1:Int)) && decide (m≤(12:Int)) && decide (w≥(1:Int)) && decide (w≤(5:Int)) && decide (e≥(0:Int)) && decide (e≤(6:Int)))])))):=by kernel_rfl
theorem f35_in (s:List UInt8) (i:Int) (c:Int) (K:List AV→Prop):evSpec C1 Tryz.f104 [.imm (.str s),.imm (.int .i64 i),.imm (.int .u8 c)] K = ((decide (i≥(s.length:Int)) = false→(0:Int)≤i)∧(decide (i≥(s.length:Int)) = false→i < (s.length:Int))∧brn (decide (i≥(s.length:Int)) || (↑(UInt8.toNat (List.getD s i.toNat (0:UInt8))):Int) != c) (K [i64 0,i64 0,bo false]) ((0:Int)≤IntKind.wrap .i64 (i + 1)∧IntKind.wrap .i64 (i + 1)≤(s.length:Int)∧(↑(List.take (s.length - (IntKind.wrap .i64 (i + 1)).toNat) (List.drop (IntKind.wrap .i64 (i + 1)).toNat s)).length:Int)≤big∧K [i64 (number (List.take (s.length - (IntKind.wrap .i64 (i + 1)).toNat) (List.drop (IntKind.wrap .i64 (i + 1)).toNat s))).1,i64 (IntKind.wrap .i64 (IntKind.wrap .i64 (i + 1) + (number (List.take (s.length - (IntKind.wrap .i64 (i + 1)).toNat) (List.drop (IntKind.wrap .i64 (i + 1)).toNat s))).2.1)),bo (number (List.take (s.length - (IntKind.wrap .i64 (i + 1)).toNat) (List.drop (IntKind.wrap .i64 (i + 1)).toNat s))).2.2])):=by kernel_rfl
theorem f28_in (s:List UInt8) (K:List AV→Prop) (m:Int×Int×Bool) (hm:m = number (List.take (s.length - (1:Int).toNat) (List.drop (1:Int).toNat s))):evSpec C2 Tryz.f97 [.imm (.str s)] K = (brn (decide (s = [])) (K [dayAV 0 0 0 0 0 0,i64 0,bo false]) ((0:Int)≤0∧(0:Int) < (s.length:Int)∧brn ((↑(UInt8.toNat (List.getD s (0:Int).toNat (0:UInt8))):Int) == 74) ((0:Int)≤1∧(1:Int)≤(s.length:Int)∧(↑(List.take (s.length - (1:Int).toNat) (List.drop (1:Int).toNat s)).length:Int)≤big∧K [dayAV 1 (Prod.fst m) 0 0 0 0,i64 (IntKind.wrap .i64 ((Prod.snd m).1 + 1)),bo (Prod.snd m).2]) (brn ((↑(UInt8.toNat (List.getD s (0:Int).toNat (0:UInt8))):Int) == 77) ((0:Int)≤1∧(1:Int)≤(s.length:Int)∧(↑(List.take (s.length - (1:Int).toNat) (List.drop (1:Int).toNat s)).length:Int)≤big∧brn (!(Prod.snd m).2) (K [dayAV 0 0 0 0 0 0,i64 0,bo false]) ((s.length:Int)≤big∧(0:Int)≤IntKind.wrap .i64 ((Prod.snd m).1 + 1)∧IntKind.wrap .i64 ((Prod.snd m).1 + 1)≤big∧(0:Int)≤46∧(46:Int)≤255∧brn (!(after s (IntKind.wrap .i64 ((Prod.snd m).1 + 1)).toNat (u8 (46:Int))).2.2) (K [dayAV 0 0 0 0 0 0,i64 0,bo
 false]) ((s.length:Int)≤big∧(0:Int)≤(after s (IntKind.wrap .i64 ((Prod.snd m).1 + 1)).toNat (u8 (46:Int))).2.1∧(after s (IntKind.wrap .i64 ((Prod.snd m).1 + 1)).toNat (u8 (46:Int))).2.1≤big∧(0:Int)≤46∧(46:Int)≤255∧K [dayAV 3 0 (Prod.fst m) (after s (IntKind.wrap .i64 ((Prod.snd m).1 + 1)).toNat (u8 (46:Int))).1 (after s (after s (IntKind.wrap .i64 ((Prod.snd m).1 + 1)).toNat (u8 (46:Int))).2.1.toNat (u8 (46:Int))).1 0,i64 (after s (after s (IntKind.wrap .i64 ((Prod.snd m).1 + 1)).toNat (u8 (46:Int))).2.1.toNat (u8 (46:Int))).2.1,bo (after s (after s (IntKind.wrap .i64 ((Prod.snd m).1 + 1)).toNat (u8 (46:Int))).2.1.toNat (u8 (46:Int))).2.2]))) ((s.length:Int)≤big∧K [dayAV 2 (number s).1 0 0 0 0,i64 (number s).2.1,bo (number s).2.2])))):=by subst hm; kernel_rfl
theorem f15_in (s:List UInt8) (K:List AV→Prop):evSpec C3 Tryz.f84 [.imm (.str s)] K = ((s.length:Int)≤big - 10∧((D.ok (date s) && decide (D.n (date s) < (s.length:Int))) = true→(0:Int)≤D.n (date s))∧((D.ok (date s) && decide (D.n (date s) < (s.length:Int))) = true→D.n (date s) < (s.length:Int))∧brn (D.ok (date s) && decide (D.n (date s) < (s.length:Int)) && (↑(UInt8.toNat (List.getD s (D.n (date s)).toNat (0:UInt8))):Int) == 47) ((0:Int)≤IntKind.wrap .i64 (D.n (date s) + 1)∧IntKind.wrap .i64 (D.n (date s) + 1)≤(s.length:Int)∧(↑(List.take (s.length - (IntKind.wrap .i64 (D.n (date s) + 1)).toNat) (List.drop (IntKind.wrap .i64 (D.n (date s) + 1)).toNat s)).length:Int)≤P8.big∧brn (!(P8.parse (List.take (s.length - (IntKind.wrap .i64 (D.n (date s) + 1)).toNat) (List.drop (IntKind.wrap .i64 (D.n (date s) + 1)).toNat s))).2.2 || !validDay (D.k (date s)) (D.d (date s)) (D.m (date s)) (D.w (date s)) (D.e (date s)) (P8.parse (List.take (s.length - (IntKind.wrap .i64 (D.n (date s) + 1)).toNat) (List.drop (IntKind.wrap .i64 (D.n (date s) + 1)).toNat s))).1) (K [dayAV 0 0 0 0 0 0,i64 0,bo false]) (K [dayAV (D.k (date s)) (D.d (date s))
 (D.m (date s)) (D.w (date s)) (D.e (date s)) (P8.parse (List.take (s.length - (IntKind.wrap .i64 (D.n (date s) + 1)).toNat) (List.drop (IntKind.wrap .i64 (D.n (date s) + 1)).toNat s))).1,i64 (IntKind.wrap .i64 (IntKind.wrap .i64 (D.n (date s) + 1) + (P8.parse (List.take (s.length - (IntKind.wrap .i64 (D.n (date s) + 1)).toNat) (List.drop (IntKind.wrap .i64 (D.n (date s) + 1)).toNat s))).2.1)),bo true])) (brn (!D.ok (date s) || !validDay (D.k (date s)) (D.d (date s)) (D.m (date s)) (D.w (date s)) (D.e (date s)) (7200:Int)) (K [dayAV 0 0 0 0 0 0,i64 0,bo false]) (K [dayAV (D.k (date s)) (D.d (date s)) (D.m (date s)) (D.w (date s)) (D.e (date s)) 7200,i64 (D.n (date s)),bo true]))):=by kernel_rfl
end P9
set_option maxRecDepth 100000
namespace P7
open Go Go.AE Go.Proofs
theorem f12_in (c:Int) (K:List AV→Prop):evSpec C0 Tryz.f80 [.imm (.int .u8 c)] K = (K [.imm (.bool (decide (c≥97) && decide (c≤122) || decide (c≥65) && decide (c≤90)))]):=by kernel_rfl
theorem f13_in (c:Int) (K:List AV→Prop):evSpec C0 Tryz.f86 [.imm (.int .u8 c)] K = (K [.imm (.bool (decide (c≥65) && decide (c≤90) || decide (c≥97) && decide (c≤122)))]):=by kernel_rfl
theorem f19_in (c:Int) (K:List AV→Prop):evSpec C1 Tryz.f85 [.imm (.int IntKind.i32 c)] K = (K [.imm (.bool (decide (c < 128) && (isAlpha (IntKind.wrap IntKind.u8 c) || decide (c≥48) && decide (c≤57) || c == 43 || c == 45)))]):=by kernel_rfl
theorem f23_in (s:List
 UInt8) (t:List UInt8) (K:List AV→Prop):evSpec C1 Tryz.f95 [AV.imm (IV.str s),AV.imm (IV.str t)] K = ((decide ((↑(List.length s):Int)≥(↑(List.length t):Int)) = true→(0:Int)≤(↑(List.length t):Int))∧(decide ((↑(List.length s):Int)≥(↑(List.length t):Int)) = true→(↑(List.length t):Int)≤(↑(List.length s):Int))∧K [bo (decide ((↑(List.length s):Int)≥(↑(List.length t):Int)) && decide (List.take (Int.toNat (↑(List.length t):Int) - (0:Nat)) (List.drop (0:Nat) s) = t))]):=by kernel_rfl
theorem f10_in (s:List UInt8) (K:List AV→Prop):evSpec C2 Tryz.f64 [AV.imm (IV.str s)] K = (LoopI C2 (bodyOf Tryz.f64) (0:Nat) (St.mk (lapp [st s,AV.dead,bo false,AV.dead,AV.dead,st s,AV.ptr (0:Nat) (0:Nat)] (dN 14)) [((0:Nat),Ob.mk true (0:Nat) (AObj.iter s (0:Nat)))] (1:Nat) []) (finK C2 Tryz.f64 K)):=by kernel_rfl
theorem f11_in (s:List UInt8) (K:List AV→Prop):evSpec C2 Tryz.f66 [AV.imm (IV.str s)] K = (LoopI C2 (bodyOf Tryz.f66) (0:Nat) (St.mk (lapp [st s,AV.dead,bo false,i64 0] (dN 37)) [] (0:Nat) []) (finK C2 Tryz.f66 K)):=by kernel_rfl
theorem f18_in (s:List UInt8) (K:List AV→Prop):evSpec C3 Tryz.f67 [.imm (.str s)] K = (LoopI C3 (bodyOf Tryz.f67) (0:Nat) (St.mk (lapp [.imm (.str s),.dead,.imm (.int .i64 0),.imm (.int .i64 0)] (dN 13)) [] (0:Nat) []) (finK C3 Tryz.f67 K)):=by kernel_rfl
theorem f21_in (s:List UInt8) (t:List UInt8) (K:List AV→Prop):evSpec C3 Tryz.f93 [.imm (.str s),.imm (.str t)] K = (brn (!pfx s t) (K [.imm (.str s),.imm (.bool false)]) ((0:Int)≤(t.length:Int)∧(t.length:Int)≤(s.length:Int)∧K [.imm (.str (List.take (s.length - (t.length:Int).toNat) (List.drop (t.length:Int).toNat s))),.imm (.bool true)])):=by kernel_rfl
theorem f8_in (s:List UInt8) (K:List AV→Prop):evSpec C4 Tryz.f59 [.imm (.str s)] K = (brn (pfx s [(60:UInt8)]) ((0:Int)≤62∧(62:Int) < 256∧brn (decide (idx (if pfx s [(60:UInt8)] = true then List.drop (List.length [(60:UInt8)]) s else s) (62:Int) < 0)) (K [st [],i64 0,bo false]) ((0:Int)≤idx (if pfx s [(60:UInt8)] = true then List.drop (List.length [(60:UInt8)]) s else s) (62:Int)∧idx (if pfx s [(60:UInt8)] = true then List.drop (List.length [(60:UInt8)]) s else s) (62:Int)≤(↑(if pfx s [(60:UInt8)] = true then List.drop (List.length [(60:UInt8)]) s else s).length:Int)∧(List.take ((idx (if pfx s [(60:UInt8)] = true then List.drop (List.length [(60:UInt8)]) s else s) (62:Int)).toNat - 0) (List.drop (0:Nat) (if pfx s [(60:UInt8)] = true then List.drop (List.length [(60:UInt8)]) s else s))).length≤9223372036854775807∧brn (!valid (List.take ((idx (if pfx s [(60:UInt8)] = true then List.drop (List.length [(60:UInt8)]) s else s) (62:Int)).toNat - 0) (List.drop (0:Nat) (if pfx s [(60:UInt8)] = true then List.drop (List.length [(60:UInt8)]) s else s)))) (K [st [],i64 0,bo false]) (K [st (List.take ((idx (if
 pfx s [(60:UInt8)] = true then List.drop (List.length [(60:UInt8)]) s else s) (62:Int)).toNat - 0) (List.drop (0:Nat) (if pfx s [(60:UInt8)] = true then List.drop (List.length [(60:UInt8)]) s else s))),i64 (IntKind.wrap .i64 (idx (if pfx s [(60:UInt8)] = true then List.drop (List.length [(60:UInt8)]) s else s) (62:Int) + 2)),bo true]))) (LoopI C4 (bodyOf Tryz.f59) (0:Nat) (St.mk (lapp [st s,.dead,st [],i64 0,bo false,st [],i64 0,st (if pfx s [(60:UInt8)] = true then List.drop (List.length [(60:UInt8)]) s else s),bo (pfx s [(60:UInt8)]),.dead,.tup [st (if pfx s [(60:UInt8)] = true then List.drop (List.length [(60:UInt8)]) s else s),bo (pfx s [(60:UInt8)])],st s,.tup [st (if pfx s [(60:UInt8)] = true then List.drop (List.length [(60:UInt8)]) s else s),bo (pfx s [(60:UInt8)])],st (if pfx s [(60:UInt8)] = true then List.drop (List.length [(60:UInt8)]) s else s),bo (pfx s [(60:UInt8)]),bo (pfx s [(60:UInt8)])] (dN 29)) [] (0:Nat) []) (finK C4 Tryz.f59 K))):=by kernel_rfl
theorem f9_in (s:List UInt8) (K:List AV→Prop):evSpec C4 Tryz.f42 [AV.imm (IV.str s)] K = ((decide ((↑(List.length s):Int) > (0:Int)) = true→(0:Int)≤(0:Int))∧(decide ((↑(List.length s):Int) > (0:Int)) = true→(0:Int) < (↑(List.length s):Int))∧brn (decide ((↑(List.length s):Int) > (0:Int)) && (↑(UInt8.toNat (List.getD s (Int.toNat (0:Int)) (0:UInt8))):Int) == (60:Int)) (LoopI C4 (bodyOf Tryz.f42) (0:Nat) (St.mk (lapp [st s,AV.dead,st [],i64 0,bo false,i64 1,AV.dead,st s,i64 (↑(List.length s):Int),bo (decide ((↑(List.length s):Int) > (0:Int))),bo (decide ((↑(List.length s):Int) > (0:Int))),AV.opt [((10:Nat),true)] (st s),AV.opt [((10:Nat),true)] (AV.imm (IV.int IntKind.u8 (↑(UInt8.toNat (List.getD s (Int.toNat (0:Int)) (0:UInt8))):Int))),AV.opt [((10:Nat),true)] (bo ((↑(UInt8.toNat (List.getD s (Int.toNat (0:Int)) (0:UInt8))):Int) == (60:Int))),bo (decide ((↑(List.length s):Int) > (0:Int)) && (↑(UInt8.toNat (List.getD s (Int.toNat (0:Int)) (0:UInt8))):Int) == (60:Int))] (dN 31))
 [] (0:Nat) []) (finK C4 Tryz.f42 K)) (List.length s≤(9223372036854775806:Nat)∧(0:Int)≤(↑(letters s):Int)∧(↑(letters s):Int)≤(↑(List.length s):Int)∧List.length (List.take (Int.toNat (↑(letters s):Int) - (0:Nat)) (List.drop (0:Nat) s))≤(9223372036854775807:Nat)∧brn (!valid (List.take (Int.toNat (↑(letters s):Int) - (0:Nat)) (List.drop (0:Nat) s))) (K [st [],i64 0,bo false]) ((0:Int)≤(↑(letters s):Int)∧(↑(letters s):Int)≤(↑(List.length s):Int)∧K [st (List.take (Int.toNat (↑(letters s):Int) - (0:Nat)) (List.drop (0:Nat) s)),i64 (↑(letters s):Int),bo true]))):=by kernel_rfl
attribute [local irreducible] evCode evSpec loopB loopK norm
theorem at8:Tryz.prog.funcs[59]? = some Tryz.f59:=by kernel_rfl
theorem at9:Tryz.prog.funcs[42]? = some Tryz.f42:=by kernel_rfl
theorem at10:Tryz.prog.funcs[64]? = some Tryz.f64:=by kernel_rfl
theorem at11:Tryz.prog.funcs[66]? = some Tryz.f66:=by kernel_rfl
theorem at12:Tryz.prog.funcs[80]? = some Tryz.f80:=by kernel_rfl
theorem at13:Tryz.prog.funcs[86]? = some Tryz.f86:=by kernel_rfl
theorem at16:Tryz.prog.funcs[78]? = some Tryz.f78:=by kernel_rfl
theorem at17:Tryz.prog.funcs[79]? = some Tryz.f79:=by kernel_rfl
theorem at18:Tryz.prog.funcs[67]? = some Tryz.f67:=by kernel_rfl
theorem at19:Tryz.prog.funcs[85]? = some Tryz.f85:=by kernel_rfl
theorem at21:Tryz.prog.funcs[93]? = some Tryz.f93:=by kernel_rfl
theorem at23:Tryz.prog.funcs[95]? = some Tryz.f95:=by kernel_rfl
theorem mk {E:FuncId→List AV→Option (List Prop×List AV)} (hE:EOK Tryz.prog E G0) {f:FuncId} {fn:Func} {args res:List AV} {pres:List Prop} (hf:Tryz.prog.funcs[f]? = some fn) (hn:(fn.name == "runtime.NumGoroutine") = false) (hb:fn.body.isNone = false)
  (h:(∀ p,p ∈ pres→p)→∀ K:List AV→Prop,K res→evSpec (cx E) fn args K):SpecOK Tryz.prog G0 f args pres res :=
 spec_ok (C:=cx E) hE noCall_ok hf hn hb (fun hp=>h hp _ rfl)
theorem ok0:EOK Tryz.prog noE G0:=noE_ok
theorem ok12:∀ args pres res,sAlpha args = some (pres,res)→SpecOK Tryz.prog G0 80 args pres res:=by
 intro args pres res h
 unfold sAlpha at h
 split at h
 case h_2=>cases h
 cases h
 exact mk ok0 at12 (by decide) rfl (fun _ K hK=>by rw [show cx noE = C0 from rfl,f12_in]; exact hK)
theorem ok13:∀ args pres res,sAlpha args = some (pres,res)→SpecOK Tryz.prog G0 86 args pres res:=by
 intro args pres res h
 unfold sAlpha at h
 split at h
 case h_2=>cases h
 cases h
 rename_i c
 refine mk ok0 at13 (by decide) rfl (fun _ K hK=>?_)
 rw [show cx noE = C0 from rfl,f13_in]
 have e:isAlpha c = (decide (c≥65) && decide (c≤90) || decide (c≥97) && decide (c≤122)):=by unfold isAlpha; exact Bool.or_comm _ _
 unfold bo at hK
 rw [e] at hK
 exact hK
end P7
namespace Go.Proofs
open Go.Shelf
def Tryz.lays137_ren:Go.Shelf.Ren:=⟨fun | 137=>79 | 217=>94 | 266=>102 | n=>n,fun | 9=>9 | 5=>5 | 3=>3 | n=>n,fun | n=>n⟩
theorem Tryz.lays137:Go.Proofs.Lays.n137 Tryz.prog Tryz.lays137_ren:={
 mixed:=by kernel_rfl
 f137:=Tryz.func79.trans (congrArg some (by kernel_rfl))
 f217:=Tryz.func94.trans (congrArg some (by kernel_rfl))
 f266:=Tryz.func102.trans (congrArg some (by kernel_rfl))
 t3:=Tryz.underlying3
 a3:=Tryz.isAgg3
 z3:=Tryz.sizeOf3
 v3:=Tryz.zeroValue3
 t5:=Tryz.underlying5
 a5:=Tryz.isAgg5
 z5:=Tryz.sizeOf5
 v5:=Tryz.zeroValue5
 t9:=Tryz.underlying9
 a9:=Tryz.isAgg9
 z9:=Tryz.sizeOf9
 v9:=Tryz.zeroValue9 }
end Go.Proofs
namespace P7
open Go Go.AE Go.Proofs Go.Shelf
theorem idx_calls (s:ByteArray) (c:Int) (w:World) :
  Calls Tryz.prog 79 #[.string s,.int .u8 c] w fun e w'=>e = .returned (.int .i64 (Lib.indexByte s.data.toList c.toNat.toUInt8))∧w' = w:=Any.strings_IndexByte Tryz.lays137 s c w
theorem indexByte_eq:∀ (l:List UInt8) (c:UInt8),Lib.indexByte l c = if place l c < l.length then (place l c:Int) else -1
 | [],c=>by simp [Lib.indexByte,place]
 | b :: l,c=>by
  have ih:=indexByte_eq l c
  simp only [Lib.indexByte,ih]
  by_cases h:b = c
  ·subst h; simp [place]
  ·have hb:(b == c) = false:=by simpa using h
   have hp:place (b :: l) c = place l c + 1:=by simp [place,List.takeWhile_cons,h]
   rw [hb,hp]
   simp only [List.length_cons,Bool.false_eq_true,if_false]
   by_cases hl:place l c < l.length
   ·have h2:place l c + 1 < l.length + 1:=by omega
    have h3:((place l c:Int) == -1) = false:=by
     rw [beq_eq_false_iff_ne]; omega
    simp only [if_pos hl,if_pos h2,h3]
    simp
   ·have h2:¬ (place l c + 1 < l.length + 1):=by omega
    simp only [if_neg hl,if_neg h2]
    simp
theorem ok17:∀ args pres res,sIdx args = some (pres,res)→SpecOK Tryz.prog G0 79 args pres res:=by
 intro args pres res h
 unfold sIdx at h
 split at h
 case h_2=>cases h
 cases h
 rename_i s b
 refine ⟨⟨Tryz.f79,at17,by decide,rfl⟩,fun hp w own vals _ hsz hargs _=>?_⟩
 have h0:=hargs 0 _ rfl
 have h1:=hargs 1 _ rfl
 obtain ⟨str,e0,hs,hl⟩:=arep_str h0
 obtain ⟨e1,_⟩:=arep_int h1
 have hv:vals = #[.string str,.int .u8 b]:=by
  apply Array.ext
  ·simpa using hsz
  ·intro i h1' h2'
   have hi:i < 2:=by simpa using h2'
   match i,hi with
   | 0,_=>rw [Array.getD_eq_getD_getElem?,Array.getElem?_eq_getElem h1'] at e0; exact e0
   | 1,_=>rw [Array.getD_eq_getD_getElem?,Array.getElem?_eq_getElem h1'] at e1; exact e1
 subst hv
 refine (idx_calls str b w).mono ?_
 rintro e w' ⟨rfl,rfl⟩
 have hn:Lib.indexByte str.data.toList b.toNat.toUInt8 = idx s b:=by
  rw [indexByte_eq]
  have:str.data.toList = s:=hs
  rw [this]
  first | done | rfl
 have hr:InR .i64 (idx s b):=by
  unfold idx
  have hle:place s (UInt8.ofNat b.toNat)≤s.length:=by unfold place; exact (List.takeWhile_sublist _).length_le
  split
  ·exact ⟨by show (-9223372036854775808:Int)≤_; omega,by show _≤(9223372036854775807:Int); omega⟩
  ·exact ⟨by decide,by decide⟩
 refine ⟨[.int .i64 (idx s b)],[],by rw [hn]; rfl,RowKit.Below.refl _ _,?_,fun b hb=>by cases hb⟩
 exact .one (fun cs h=>by cases h) (.imm (.int hr) .nil) (fun b hb=>by cases hb) .nil
end P7
set_option maxRecDepth 100000
namespace P7
open Go Go.AE Go.Proofs
attribute [local irreducible] loopK evCode evSpec loopB norm
theorem okE1:EOK Tryz.prog E1 G0:=addE_ok (addE_ok (addE_ok ok0 ok12) ok13) ok17
theorem ok19:∀ args pres res,sAllowed args = some (pres,res)→SpecOK Tryz.prog G0 85 args pres res:=by
 intro args pres res h
 unfold sAllowed at h
 split at h
 case h_2=>cases h
 cases h
 exact mk okE1 at19 (by decide) rfl (fun _ K hK=>by rw [show cx E1 = C1 from rfl,f19_in]; exact hK)
theorem pfx_eq (s t:List UInt8):pfx s t = (decide (t.length≤s.length) && decide (s.take t.length = t)):=by
 unfold pfx
 rw [Bool.eq_iff_iff]
 simp only [List.isPrefixOf_iff_prefix,Bool.and_eq_true,decide_eq_true_eq]
 constructor
 ·intro h
  exact ⟨h.length_le,(List.prefix_iff_eq_take.1 h).symm⟩
 ·intro h
  exact List.prefix_iff_eq_take.2 h.2.symm
theorem ok23:∀ args pres res,sPfx args = some (pres,res)→SpecOK Tryz.prog G0 95 args pres res:=by
 intro args pres res h
 unfold sPfx at h
 split at h
 case h_2=>cases h
 cases h
 rename_i s t
 refine mk okE1 at23 (by decide) rfl (fun _ K hK=>?_)
 rw [show cx E1 = C1 from rfl,f23_in]
 refine ⟨fun h=>by omega,fun h=>by simpa using h,?_⟩
 rw [pfx_eq] at hK
 simpa using hK
theorem okE2:EOK Tryz.prog E2 G0:=addE_ok (addE_ok okE1 ok19) ok23
end P7
set_option maxRecDepth 100000
namespace P7
open Go Go.AE Go.Proofs
theorem f10_lp (s:List UInt8) (pos:Nat) (k:AX→St→Prop):evCode C2 (loopB (bodyOf Tryz.f64) (0:Nat)) (h10 s pos) k = (brn (decide (pos < s.length)) (brn (!allowed (runeAt s pos).1) (k AX.ret (St.mk (lapp [st s,.dead,bo false,.dead,.imm (.int IntKind.i32 (runeAt s pos).1),st s,.ptr 0 0,.tup [bo true,i64 (↑pos:Int),.imm (.int IntKind.i32 (runeAt s pos).1)],bo true,.imm (.int IntKind.i32 (runeAt s pos).1),.imm (.int IntKind.i32 (runeAt s pos).1),bo (allowed (runeAt s pos).1),bo (!allowed (runeAt s pos).1)] (dN 8)) [(0,Ob.mk true 0 (AObj.iter s (pos + (runeAt s pos).2)))] (1:Nat) [])) (k AX.normal (St.mk (lapp [st s,.dead,bo false,.dead,.imm (.int IntKind.i32 (runeAt s pos).1),st s,.ptr 0 0,.tup [bo true,i64 (↑pos:Int),.imm (.int IntKind.i32 (runeAt s pos).1)],bo true,.imm (.int IntKind.i32 (runeAt s pos).1),.imm (.int IntKind.i32 (runeAt s pos).1),bo (allowed (runeAt s pos).1),bo (!allowed (runeAt s pos).1)] (dN 8)) [(0,Ob.mk true 0 (AObj.iter s (pos + (runeAt s pos).2)))] (1:Nat) []))) (k (AX.exit (0:Nat)) (St.mk (lapp [st s,.dead,bo false,.dead,.dead,st s,.ptr 0 0,.tup [bo false],bo false] (dN 12)) [(0,Ob.mk true 0
 (AObj.iter s pos))] (1:Nat) []))):=by kernel_rfl
theorem f11_lp (s:List UInt8) (i:Int) (k:AX→St→Prop) (c:Int) (hc:c = (↑(UInt8.toNat (List.getD s i.toNat (0:UInt8))):Int)):evCode C2 (loopB (bodyOf Tryz.f66) (0:Nat)) (h11 s i) k = (brn (decide (i < (s.length:Int))) ((0:Int)≤i∧i < (s.length:Int)∧brn (!isAlpha c && (decide (c < 48) || decide (c > 57)) && c != 43 && c != 45) (k AX.ret (St.mk (lapp [st s,.dead,bo false,i64 i,.imm (.int .u8 c),i64 i,st s,i64 (s.length:Int),bo (decide (i < (s.length:Int))),.dead,.dead,st s,i64 i,.imm (.int .u8 c),.imm (.int .u8 c),bo (isAlpha c),bo (!isAlpha c),bo (!isAlpha c),.opt [((17:Nat),true)] (.imm (.int .u8 c)),.opt [((17:Nat),true)] (bo (decide (c < 48))),.opt [((17:Nat),true)] (bo (decide (c < 48))),.opt [((20:Nat),false),((17:Nat),true)] (.imm (.int .u8 c)),.opt [((20:Nat),false),((17:Nat),true)] (bo (decide (c > 57))),.opt [((17:Nat),true)] (bo (decide (c < 48) || decide (c > 57))),bo (!isAlpha c && (decide (c < 48) || decide (c > 57))),bo (!isAlpha c && (decide (c < 48) || decide (c > 57))),.opt [((25:Nat),true)] (.imm (.int .u8 c)),.opt [((25:Nat),true)] (bo (c != 43)),bo (!isAlpha c && (decide
 (c < 48) || decide (c > 57)) && c != 43),bo (!isAlpha c && (decide (c < 48) || decide (c > 57)) && c != 43),.opt [((29:Nat),true)] (.imm (.int .u8 c)),.opt [((29:Nat),true)] (bo (c != 45)),bo (!isAlpha c && (decide (c < 48) || decide (c > 57)) && c != 43 && c != 45)] (dN 8)) [] (0:Nat) [])) (k AX.normal (St.mk (lapp [st s,.dead,bo false,i64 (IntKind.wrap .i64 (i + 1)),.imm (.int .u8 c),i64 i,st s,i64 (s.length:Int),bo (decide (i < (s.length:Int))),i64 i,i64 (IntKind.wrap .i64 (i + 1)),st s,i64 i,.imm (.int .u8 c),.imm (.int .u8 c),bo (isAlpha c),bo (!isAlpha c),bo (!isAlpha c),.opt [((17:Nat),true)] (.imm (.int .u8 c)),.opt [((17:Nat),true)] (bo (decide (c < 48))),.opt [((17:Nat),true)] (bo (decide (c < 48))),.opt [((20:Nat),false),((17:Nat),true)] (.imm (.int .u8 c)),.opt [((20:Nat),false),((17:Nat),true)] (bo (decide (c > 57))),.opt [((17:Nat),true)] (bo (decide (c < 48) || decide (c > 57))),bo (!isAlpha c && (decide (c < 48) || decide (c > 57))),bo (!isAlpha c && (decide (c < 48) || decide (c > 57))),.opt [((25:Nat),true)] (.imm (.int .u8 c)),.opt [((25:Nat),true)] (bo (c != 43)),bo (!isAlpha c && (decide
 (c < 48) || decide (c > 57)) && c != 43),bo (!isAlpha c && (decide (c < 48) || decide (c > 57)) && c != 43),.opt [((29:Nat),true)] (.imm (.int .u8 c)),.opt [((29:Nat),true)] (bo (c != 45)),bo (!isAlpha c && (decide (c < 48) || decide (c > 57)) && c != 43 && c != 45)] (dN 8)) [] (0:Nat) []))) (k (AX.exit (0:Nat)) (St.mk (lapp [st s,.dead,bo false,i64 i,.dead,i64 i,st s,i64 (s.length:Int),bo (decide (i < (s.length:Int)))] (dN 32)) [] (0:Nat) []))):=by subst hc; kernel_rfl
theorem f18_lp (s:List UInt8) (i:Int) (k:AX→St→Prop):evCode C3 (loopB (bodyOf Tryz.f67) (0:Nat)) (h18 s i) k = ((decide (i < (s.length:Int)) = true→(0:Int)≤i)∧(decide (i < (s.length:Int)) = true→i < (s.length:Int))∧brn (decide (i < (s.length:Int)) && isAlpha (↑(UInt8.toNat (List.getD s i.toNat (0:UInt8))):Int)) (k AX.normal (St.mk [st s,.dead,i64 0,i64 (IntKind.wrap .i64 (i + 1)),i64 i,st s,i64 (s.length:Int),bo (decide (i < (s.length:Int))),bo (decide (i < (s.length:Int))),.opt [((8:Nat),true)] (st s),.opt [((8:Nat),true)] (i64 i),.opt [((8:Nat),true)] (.imm (.int .u8 (↑(UInt8.toNat (List.getD s i.toNat (0:UInt8))):Int))),.opt [((8:Nat),true)] (bo (isAlpha (↑(UInt8.toNat (List.getD s i.toNat (0:UInt8))):Int))),bo (decide (i < (s.length:Int)) && isAlpha (↑(UInt8.toNat (List.getD s i.toNat (0:UInt8))):Int)),i64 i,i64 (IntKind.wrap .i64 (i + 1)),.dead] [] (0:Nat) [])) (k (AX.exit (0:Nat)) (St.mk [st s,.dead,i64 0,i64 i,i64 i,st s,i64 (s.length:Int),bo (decide (i < (s.length:Int))),bo (decide (i < (s.length:Int))),.opt [((8:Nat),true)] (st s),.opt [((8:Nat),true)] (i64 i),
 .opt [((8:Nat),true)] (.imm (.int .u8 (↑(UInt8.toNat (List.getD s i.toNat (0:UInt8))):Int))),.opt [((8:Nat),true)] (bo (isAlpha (↑(UInt8.toNat (List.getD s i.toNat (0:UInt8))):Int))),bo (decide (i < (s.length:Int)) && isAlpha (↑(UInt8.toNat (List.getD s i.toNat (0:UInt8))):Int)),.dead,.dead,.dead] [] (0:Nat) []))):=by kernel_rfl
theorem f8_lp (s:List UInt8) (i:Int) (k:AX→St→Prop):evCode C4 (loopB (bodyOf Tryz.f59) (0:Nat)) (h8 s i) k = ((decide (i < (↑(List.length s):Int)) = true→(0:Int)≤i)∧(decide (i < (↑(List.length s):Int)) = true→i < (↑(List.length s):Int))∧brn (decide (i < (↑(List.length s):Int)) && isAlpha (↑(UInt8.toNat (List.getD s (Int.toNat i) (0:UInt8))):Int)) (k AX.normal (St.mk (lapp [st s,AV.dead,st [],i64 0,bo false,st [],i64 (IntKind.wrap IntKind.i64 (i + (1:Int)))] (lapp (dN 18) (lapp [i64 i,st s,i64 (↑(List.length s):Int),bo (decide (i < (↑(List.length s):Int))),bo (decide (i < (↑(List.length s):Int))),AV.opt [((29:Nat),true)] (st s),AV.opt [((29:Nat),true)] (i64 i),AV.opt [((29:Nat),true)] (AV.imm (IV.int IntKind.u8 (↑(UInt8.toNat (List.getD s (Int.toNat i) (0:UInt8))):Int))),AV.opt [((29:Nat),true)] (bo (isAlpha (↑(UInt8.toNat (List.getD s (Int.toNat i) (0:UInt8))):Int))),bo (decide (i < (↑(List.length s):Int)) && isAlpha (↑(UInt8.toNat (List.getD s (Int.toNat i) (0:UInt8))):Int)),i64 i,i64 (IntKind.wrap IntKind.i64 (i + (1
 : Int)))] (dN 8)))) [] (0:Nat) [])) (k (AX.exit (0:Nat)) (St.mk (lapp [st s,AV.dead,st [],i64 0,bo false,st [],i64 i] (lapp (dN 18) (lapp [i64 i,st s,i64 (↑(List.length s):Int),bo (decide (i < (↑(List.length s):Int))),bo (decide (i < (↑(List.length s):Int))),AV.opt [((29:Nat),true)] (st s),AV.opt [((29:Nat),true)] (i64 i),AV.opt [((29:Nat),true)] (AV.imm (IV.int IntKind.u8 (↑(UInt8.toNat (List.getD s (Int.toNat i) (0:UInt8))):Int))),AV.opt [((29:Nat),true)] (bo (isAlpha (↑(UInt8.toNat (List.getD s (Int.toNat i) (0:UInt8))):Int))),bo (decide (i < (↑(List.length s):Int)) && isAlpha (↑(UInt8.toNat (List.getD s (Int.toNat i) (0:UInt8))):Int))] (dN 10)))) [] (0:Nat) []))):=by kernel_rfl
theorem f9_lp (s:List UInt8) (i:Int) (k:AX→St→Prop):evCode C4 (loopB (bodyOf Tryz.f42) (0:Nat)) (h9 s i) k = (brn (decide (i < (s.length:Int))) ((0:Int)≤i∧i < (s.length:Int)∧brn ((↑(UInt8.toNat (List.getD s i.toNat (0:UInt8))):Int) == 62) ((0:Int)≤1∧(1:Int)≤i∧i≤(s.length:Int)∧(List.take (i.toNat - (1:Int).toNat) (List.drop (1:Int).toNat s)).length≤9223372036854775807∧brn (!valid (List.take (i.toNat - (1:Int).toNat) (List.drop (1:Int).toNat s))) (k AX.ret (St.mk (lapp [st s,.dead,st [],i64 0,bo false,i64 i] (lapp (dN 9) (lapp [i64 i,st s,i64 (s.length:Int),bo (decide (i < (s.length:Int))),.dead,.dead,st s,i64 i,.imm (.int .u8 (↑(UInt8.toNat (List.getD s i.toNat (0:UInt8))):Int)),bo ((↑(UInt8.toNat (List.getD s i.toNat (0:UInt8))):Int) == 62),st s,i64 i,st (List.take (i.toNat - (1:Int).toNat) (List.drop (1:Int).toNat s)),bo (valid (List.take (i.toNat - (1:Int).toNat) (List.drop (1:Int).toNat s))),bo (!valid (List.take (i.toNat - (1:Int).toNat) (List.drop (1:Int).toNat s)))] (dN 16)))) [] (0:Nat) [])) ((0:Int)≤1∧(1:Int)≤i∧i≤(s.length:Int)∧k AX.ret (St.mk (lapp [st
 s,.dead,st (List.take (i.toNat - (1:Int).toNat) (List.drop (1:Int).toNat s)),i64 (IntKind.wrap .i64 (i + 1)),bo true,i64 i] (lapp (dN 9) (lapp [i64 i,st s,i64 (s.length:Int),bo (decide (i < (s.length:Int))),.dead,.dead,st s,i64 i,.imm (.int .u8 (↑(UInt8.toNat (List.getD s i.toNat (0:UInt8))):Int)),bo ((↑(UInt8.toNat (List.getD s i.toNat (0:UInt8))):Int) == 62),st s,i64 i,st (List.take (i.toNat - (1:Int).toNat) (List.drop (1:Int).toNat s)),bo (valid (List.take (i.toNat - (1:Int).toNat) (List.drop (1:Int).toNat s))),bo (!valid (List.take (i.toNat - (1:Int).toNat) (List.drop (1:Int).toNat s))),st s,i64 i,st (List.take (i.toNat - (1:Int).toNat) (List.drop (1:Int).toNat s)),i64 i,i64 (IntKind.wrap .i64 (i + 1))] (dN 11)))) [] (0:Nat) []))) (k AX.normal (St.mk (lapp [st s,.dead,st [],i64 0,bo false,i64 (IntKind.wrap .i64 (i + 1))] (lapp (dN 9) (lapp [i64 i,st s,i64 (s.length:Int),bo (decide (i < (s.length:Int))),i64 i,i64 (IntKind.wrap .i64 (i + 1)),st s,i64 i,.imm (.int .u8 (↑(UInt8.toNat (List.getD s i.toNat (0:UInt8))):Int)),bo ((↑(UInt8.toNat (List.getD s i.toNat (0:UInt8))):Int) == 62)] (dN 21)))) []
 (0:Nat) []))) (k (AX.exit (0:Nat)) (St.mk (lapp [st s,.dead,st [],i64 0,bo false,i64 i] (lapp (dN 9) (lapp [i64 i,st s,i64 (s.length:Int),bo (decide (i < (s.length:Int)))] (dN 27)))) [] (0:Nat) []))):=by kernel_rfl
attribute [local irreducible] evCode evSpec loopB loopK norm
theorem wrap64 {n:Int} (h1:-9223372036854775808≤n) (h2:n≤9223372036854775807):IntKind.wrap .i64 n = n:=by
 have:=IntKind.wrap_i64 n
 rw [show IntKind.wrap .i64 n = IntKind.i64.wrap n from rfl,this]; omega
theorem getD_drop {s:List UInt8} {n:Nat} (h:n < s.length):s.drop n = s.getD n 0 :: s.drop (n + 1):=by
 rw [List.drop_eq_getElem_cons h]
 simp [List.getD_eq_getElem?_getD,List.getElem?_eq_getElem h]
def p18:Plan:=⟨[],[true,false,true,true],[]⟩
theorem f18_ev (s:List UInt8) (hs:s.length≤9223372036854775806) (K:List AV→Prop) (hK:K [i64 (letters s)]):evSpec C3 Tryz.f67 [.imm (.str s)] K:=by
 rw [f18_in]
 unfold LoopI
 refine loop_rule (fun n:Nat=>h18 s n) (fun n=>n≤s.length∧letters s = n + letters (s.drop n)) (fun n=>s.length - n) (fun n hP K' hnorm hexit=>?_) rfl 0 p18 _ ⟨Nat.zero_le _,by simp⟩ (by kernel_rfl)
 obtain ⟨hle,hl⟩:=hP
 rw [f18_lp]
 refine ⟨fun _=>by omega,fun h=>by simpa using h,brn_intro (fun h=>?_) (fun h=>?_)⟩
 ·simp only [Bool.and_eq_true,decide_eq_true_eq,Int.toNat_natCast] at h
  have hlt:n < s.length:=by omega
  have e:IntKind.wrap .i64 ((n:Int) + 1) = ((n + 1:Nat):Int):=by rw [wrap64 (by omega) (by omega)]; first | done | rfl
  refine hnorm (n + 1) p18 _ ⟨hlt,?_⟩ (by omega) (by rw [← e]; kernel_rfl)
  rw [hl,getD_drop hlt]
  have:alphaB (s.getD n 0) = true:=h.2
  simp only [letters,List.takeWhile_cons,this,if_true,List.length_cons]
  omega
 ·refine hexit _ _ (by simp) ?_
  have hz:letters (s.drop n) = 0:=by
   by_cases hlt:n < s.length
   ·have h2:alphaB (s.getD n 0) = false:=by
     simp only [Bool.and_eq_false_iff,decide_eq_false_iff_not,Int.toNat_natCast] at h
     rcases h with h | h
     ·omega
     ·exact h
    rw [getD_drop hlt]
    rw [letters,List.takeWhile_cons,h2]; first | done | rfl
   ·rw [List.drop_eq_nil_of_le (by omega)]; first | done | rfl
  rw [hl,hz] at hK
  exact Eq.mp (by kernel_rfl) hK
theorem getD_at {s:List UInt8} {n:Nat} (h:n < s.length) (p:UInt8→Bool):(s.drop n).all p = (p (s.getD n 0) && (s.drop (n + 1)).all p):=by
 rw [getD_drop h,List.all_cons]
def p11:Plan:=⟨[],[true,false,true,true],[]⟩
theorem goodB_eq (b:UInt8):(!isAlpha (b.toNat:Int) && (decide ((b.toNat:Int) < 48) || decide ((b.toNat:Int) > 57)) && (b.toNat:Int) != 43 && (b.toNat:Int) != 45) = !goodB b:=by
 unfold goodB alphaB
 cases isAlpha (b.toNat:Int) with
 | true=>simp
 | false =>
  rw [Bool.eq_iff_iff]
  simp only [Bool.not_false,Bool.true_and,Bool.false_or,Bool.and_eq_true,Bool.or_eq_true,decide_eq_true_eq,bne_iff_ne,ne_eq,Bool.not_eq_true',Bool.or_eq_false_iff,Bool.and_eq_false_iff,decide_eq_false_iff_not,beq_eq_false_iff_ne]
  omega
theorem f11_ev (s:List UInt8) (hs:s.length≤9223372036854775807) (K:List AV→Prop) (hK:K [bo (valid s)]):evSpec C2 Tryz.f66 [.imm (.str s)] K:=by
 rw [f11_in]
 unfold LoopI
 refine loop_rule (fun n:Nat=>h11 s n) (fun n=>n≤s.length∧s.all goodB = (s.drop n).all goodB) (fun n=>s.length - n) (fun n hP K' hnorm hexit=>?_) rfl 0 p11 _ ⟨Nat.zero_le _,by simp⟩ (by kernel_rfl)
 obtain ⟨hle,hl⟩:=hP
 rw [f11_lp (hc:=rfl)]
 refine brn_intro (fun h=>?_) (fun h=>?_)
 ·have hlt:n < s.length:=by simpa using h
  refine ⟨by omega,by omega,?_⟩
  rw [getD_at hlt] at hl
  refine brn_intro (fun h=>?_) (fun h=>?_)
  ·refine hexit _ _ (by simp) ?_
   rw [goodB_eq,Int.toNat_natCast,Bool.not_eq_true'] at h
   have hv:valid s = false:=by unfold valid; rw [hl,h]; first | done | rfl
   rw [hv] at hK
   exact Eq.mp (by kernel_rfl) hK
  ·rw [goodB_eq,Int.toNat_natCast,Bool.not_eq_false'] at h
   have e:IntKind.wrap .i64 ((n:Int) + 1) = ((n + 1:Nat):Int):=by rw [wrap64 (by omega) (by omega)]; first | done | rfl
   refine hnorm (n + 1) p11 _ ⟨hlt,?_⟩ (by omega) (by rw [← e]; kernel_rfl)
   rw [hl,h,Bool.true_and]
 ·have hge:¬ n < s.length:=by simpa using h
  refine hexit _ _ (by simp) ?_
  have hv:valid s = (decide ((s.length:Int)≥3) && decide ((s.length:Int)≤255)):=by
   unfold valid
   rw [hl,List.drop_eq_nil_of_le (by omega),List.all_nil,Bool.true_and]
   congr 1 <;> rw [Bool.eq_iff_iff] <;> simp <;> omega
  rw [hv] at hK
  exact Eq.mp (by kernel_rfl) hK
theorem rune_low {s:List UInt8} {n:Nat} (h:n < s.length) (hb:(s.getD n 0).toNat < 128):runeAt s n = (((s.getD n 0).toNat:Int),1):=by
 have hg:s.getD n 0 = s[n]:=by simp [List.getD_eq_getElem?_getD,List.getElem?_eq_getElem h]
 have hsz:n < (⟨s.toArray⟩:ByteArray).size:=by simpa [ByteArray.size] using h
 have he:(⟨s.toArray⟩:ByteArray)[n]'hsz = s[n]:=by
  show s.toArray[n] = s[n]
  simp
 unfold runeAt
 rw [decode_ascii ⟨s.toArray⟩ n hsz (by rw [he,← hg]; exact hb),he,hg]
theorem rune_high {s:List UInt8} {n:Nat} (h:n < s.length) (hb:¬ (s.getD n 0).toNat < 128):128≤(runeAt s n).1:=by
 have hg:s.getD n 0 = s[n]:=by simp [List.getD_eq_getElem?_getD,List.getElem?_eq_getElem h]
 have hsz:n < (⟨s.toArray⟩:ByteArray).size:=by simpa [ByteArray.size] using h
 have he:(⟨s.toArray⟩:ByteArray)[n]'hsz = s[n]:=by
  show s.toArray[n] = s[n]
  simp
 have:=(decode_high ⟨s.toArray⟩ n hsz (by rw [he,← hg]; omega)).1
 unfold runeAt
 simp only
 omega
theorem alphaB_high {b:UInt8} (hb:¬ b.toNat < 128):alphaB b = false:=by
 unfold alphaB isAlpha
 simp
 omega
theorem goodB_high {b:UInt8} (hb:¬ b.toNat < 128):goodB b = false:=by
 unfold goodB
 rw [alphaB_high hb]
 simp
 omega
theorem wrap_low {n:Nat} (h:n < 128):IntKind.wrap .u8 (n:Int) = n:=by
 have:=IntKind.wrap_u8 n
 rw [show IntKind.wrap .u8 (n:Int) = IntKind.u8.wrap n from rfl,this]; omega
theorem allowed_rune {s:List UInt8} {n:Nat} (h:n < s.length):allowed (runeAt s n).1 = goodB (s.getD n 0):=by
 by_cases hb:(s.getD n 0).toNat < 128
 ·rw [rune_low h hb]
  unfold allowed goodB alphaB
  simp only [wrap_low hb]
  generalize isAlpha _ = x
  generalize (s.getD n 0).toNat = m at hb
  rw [Bool.eq_iff_iff]
  cases x <;> simp <;> omega
 ·have hr:=rune_high h hb
  rw [goodB_high hb]
  unfold allowed
  simp
  omega
def p10:Plan:=⟨[],[true,false,true,false,false,true,true],[0]⟩
theorem f10_ev (s:List UInt8) (K:List AV→Prop) (hK:K [bo (valid s)]):evSpec C2 Tryz.f64 [.imm (.str s)] K:=by
 rw [f10_in]
 unfold LoopI
 refine loop_rule (fun n:Nat=>h10 s n) (fun n=>s.all goodB = (s.drop n).all goodB) (fun n=>s.length - n) (fun n hl K' hnorm hexit=>?_) rfl 0 p10 _ (by simp) (by kernel_rfl)
 rw [f10_lp]
 refine brn_intro (fun h=>?_) (fun h=>?_)
 ·have hlt:n < s.length:=by simpa using h
  rw [getD_at hlt] at hl
  refine brn_intro (fun h=>?_) (fun h=>?_)
  ·refine hexit _ _ (by simp) ?_
   rw [allowed_rune hlt,Bool.not_eq_true'] at h
   have hv:valid s = false:=by unfold valid; rw [hl,h]; first | done | rfl
   rw [hv] at hK
   exact Eq.mp (by kernel_rfl) hK
  ·rw [allowed_rune hlt,Bool.not_eq_false'] at h
   have hb:(s.getD n 0).toNat < 128:=by
    by_cases hb:(s.getD n 0).toNat < 128
    ·exact hb
    ·rw [goodB_high hb] at h; cases h
   have e:n + (runeAt s n).2 = n + 1:=by rw [rune_low hlt hb]
   refine hnorm (n + 1) p10 _ ?_ (by omega) (by rw [← e]; kernel_rfl)
   rw [hl,h,Bool.true_and]
 ·have hge:¬ n < s.length:=by simpa using h
  refine hexit _ _ (by simp) ?_
  have hv:valid s = (decide ((s.length:Int)≥3) && decide ((s.length:Int)≤255)):=by
   unfold valid
   rw [hl,List.drop_eq_nil_of_le (by omega),List.all_nil,Bool.true_and]
   congr 1 <;> rw [Bool.eq_iff_iff] <;> simp <;> omega
  rw [hv] at hK
  exact Eq.mp (by kernel_rfl) hK
theorem ok10:∀ args pres res,sValid args = some (pres,res)→SpecOK Tryz.prog G0 64 args pres res:=by
 intro args pres res h
 unfold sValid at h
 split at h
 case h_2=>cases h
 cases h
 exact mk okE2 at10 (by decide) rfl (fun _ K hK=>f10_ev _ K hK)
theorem ok11:∀ args pres res,sValid args = some (pres,res)→SpecOK Tryz.prog G0 66 args pres res:=by
 intro args pres res h
 unfold sValid at h
 split at h
 case h_2=>cases h
 cases h
 exact mk okE2 at11 (by decide) rfl (fun hp K hK=>f11_ev _ (hp _ (by simp)) K hK)
theorem okE3:EOK Tryz.prog E3 G0:=addE_ok (addE_ok okE2 ok10) ok11
theorem ok18:∀ args pres res,sLetters args = some (pres,res)→SpecOK Tryz.prog G0 67 args pres res:=by
 intro args pres res h
 unfold sLetters at h
 split at h
 case h_2=>cases h
 cases h
 exact mk okE3 at18 (by decide) rfl (fun hp K hK=>f18_ev _ (hp _ (by simp)) K hK)
theorem pfx_len {s t:List UInt8} (h:pfx s t = true):t.length≤s.length:=by
 rw [pfx_eq] at h
 simp at h
 exact h.1
theorem ok21:∀ args pres res,sCut args = some (pres,res)→SpecOK Tryz.prog G0 93 args pres res:=by
 intro args pres res h
 unfold sCut at h
 split at h
 case h_2=>cases h
 cases h
 rename_i s t
 refine mk okE3 at21 (by decide) rfl (fun _ K hK=>?_)
 rw [show cx E3 = C3 from rfl,f21_in]
 unfold bo st at hK
 refine brn_intro (fun h=>?_) (fun h=>?_)
 ·rw [Bool.not_eq_true'] at h
  rw [h] at hK
  exact hK
 ·rw [Bool.not_eq_false'] at h
  have hl:=pfx_len h
  refine ⟨by omega,by omega,?_⟩
  rw [h] at hK
  have e:List.take (s.length - Int.toNat (t.length:Int)) (List.drop (Int.toNat (t.length:Int)) s) = s.drop t.length:=by
   rw [Int.toNat_natCast,List.take_of_length_le (by simp)]
  rw [e]
  exact hK
def E3b:=addE (addE E3 67 sLetters) 93 sCut
theorem okE3b:EOK Tryz.prog E3b G0:=addE_ok (addE_ok okE3 ok18) ok21
theorem f16_in (s t:List UInt8) (K:List AV→Prop):evSpec (cx E3b) Tryz.f78 [.imm (.str s),.imm (.str t)] K = K [st (if pfx s t then s.drop t.length else s),bo (pfx s t)]:=by kernel_rfl
theorem ok16:∀ args pres res,sCut args = some (pres,res)→SpecOK Tryz.prog G0 78 args pres res:=by
 intro args pres res h
 unfold sCut at h
 split at h
 case h_2=>cases h
 cases h
 exact mk okE3b at16 (by decide) rfl (fun _ K hK=>by rw [f16_in]; exact hK)
theorem okE4:EOK Tryz.prog E4 G0:=addE_ok okE3b ok16
end P7
set_option maxRecDepth 100000
namespace P7
open Go Go.AE Go.Proofs
theorem f8_out (s:List UInt8) (i:Int) (K:List AV→Prop):loopK C4 (bodyOf Tryz.f59) (0:Nat) (finK C4 Tryz.f59 K) (AX.exit (0:Nat)) (St.mk (let y:=let y:=let y:=[.dead,.dead,.dead,.dead,.dead,.dead]; AV.opt [((29:Nat),true)] (.imm (.bool (isAlpha (↑(UInt8.toNat (List.getD s i.toNat (0:UInt8))):Int)))) :: AV.imm (.bool (decide (i < (s.length:Int)) && isAlpha (↑(UInt8.toNat (List.getD s i.toNat (0:UInt8))):Int))) :: AV.dead :: AV.dead :: AV.dead :: AV.dead :: y; let y:=AV.imm (.int .i64 (s.length:Int)) :: AV.imm (.bool (decide (i < (s.length:Int)))) :: AV.imm (.bool (decide (i < (s.length:Int)))) :: AV.opt [((29:Nat),true)] (.imm (.str s)) :: AV.opt [((29:Nat),true)] (.imm (.int .i64 i)) :: AV.opt [((29:Nat),true)] (.imm (.int .u8 (↑(UInt8.toNat (List.getD s i.toNat (0:UInt8))):Int))) :: y; AV.dead :: AV.dead :: AV.dead :: AV.imm (.int .i64 i) :: AV.imm (.str s) :: y; let y:=let y:=AV.dead :: AV.dead :: AV.dead :: AV.dead :: AV.dead :: AV.dead :: y; AV.dead :: AV.dead :: AV.dead :: AV.dead :: AV.dead :: y; let y:=AV.imm (.str []) :: AV.imm (.int .i64 i) :: AV.dead :: AV.dead :: AV.dead :: AV.dead :: y; AV.imm (.str s) :: AV.dead :: AV.imm (.str []) :: AV.imm (.int .i64 0) :: AV.imm (.bool false) :: y) [] (0:Nat) []) = ((0:Int)≤i∧i≤(s.length:Int)∧(List.take (i.toNat - 0) (List.drop (0:Nat) s)).length≤9223372036854775807∧brn (!valid (List.take (i.toNat - 0) (List.drop (0:Nat) s))) (K [.imm (.str []),.imm (.int .i64 0),.imm (.bool false)]) (K [.imm (.str (List.take (i.toNat - 0) (List.drop (0:Nat) s))),.imm (.int .i64 i),.imm (.bool true)])):=by kernel_rfl
theorem f9_out (s:List UInt8) (i:Int) (K:List AV→Prop):loopK C4 (bodyOf Tryz.f42) (0:Nat) (finK C4 Tryz.f42 K) (AX.exit (0:Nat)) (St.mk (let y:=let y:=let y:=[.dead,.dead,.dead,.dead,.dead,.dead]; AV.dead :: AV.dead :: AV.dead :: AV.dead :: AV.dead :: AV.dead :: y; let y:=AV.dead :: AV.dead :: AV.dead :: AV.dead :: AV.dead :: AV.dead :: y; AV.dead :: AV.dead :: AV.dead :: AV.dead :: AV.dead :: y; let y:=let y:=AV.imm (.int .i64 (s.length:Int)) :: AV.imm (.bool (decide (i < (s.length:Int)))) :: AV.dead :: AV.dead :: AV.dead :: AV.dead :: y; AV.dead :: AV.dead :: AV.dead :: AV.dead :: AV.imm (.int .i64 i) :: AV.imm (.str s) :: y; let y:=AV.imm (.int .i64 i) :: AV.dead :: AV.dead :: AV.dead :: AV.dead :: AV.dead :: y; AV.imm (.str s) :: AV.dead :: AV.imm (.str []) :: AV.imm (.int .i64 0) :: AV.imm (.bool false) :: y) [] (0:Nat) []) = (K [.imm (.str []),.imm (.int .i64 0),.imm (.bool false)]):=by kernel_rfl
attribute [local irreducible] evCode evSpec loopB loopK norm
theorem letters_le (s:List UInt8):letters s≤s.length:=by unfold letters; exact (List.takeWhile_sublist _).length_le
theorem pfx60 (s:List UInt8):(∃ r,s = 60 :: r∧pfx s [60] = true)∨(pfx s [60] = false∧parse s = parseP s):=by
 cases s with
 | nil=>exact .inr ⟨rfl,rfl⟩
 | cons b r =>
  by_cases h:b = 60
  ·subst h; exact .inl ⟨r,rfl,by simp [pfx]⟩
  ·right
   refine ⟨by
    rw [pfx_eq]
    simp [h],by simp [parse,h]⟩
def p8:Plan:=⟨[],[true,false,true,true,true,true,true],[]⟩
theorem f8_ev (s:List UInt8) (hs:s.length≤9223372036854775800) (K:List AV→Prop) (hK:K [st (parse s).1,i64 (parse s).2.1,bo (parse s).2.2]):evSpec C4 Tryz.f59 [.imm (.str s)] K:=by
 rw [f8_in]
 unfold st i64 bo at hK
 refine brn_intro (fun h=>?_) (fun h=>?_)
 ·rcases pfx60 s with ⟨r,rfl,hp⟩ | ⟨hp,_⟩
  case inr=>rw [hp] at h; cases h
  have e:(if pfx (60 :: r) [60] = true then List.drop (List.length [(60:UInt8)]) (60 :: r) else (60 :: r)) = r:=by rw [if_pos hp]; first | done | rfl
  simp only [e]
  have hpar:parse (60 :: r) = parseQ r:=by simp [parse]
  rw [hpar] at hK
  simp only [List.length_cons] at hs
  refine ⟨by decide,by decide,?_⟩
  have hidx:idx r 62 = if place r 62 < r.length then (place r 62:Int) else -1:=rfl
  rw [hidx]
  unfold parseQ at hK
  by_cases hl:place r 62 < r.length
  ·rw [if_pos hl] at hK ⊢
   simp only [Int.toNat_natCast,Nat.sub_zero,List.drop_zero]
   refine brn_intro (fun h=>?_) (fun _=>?_)
   ·simp at h; omega
   refine ⟨by omega,by omega,by simp; omega,?_⟩
   refine brn_intro (fun h=>?_) (fun h=>?_)
   ·rw [Bool.not_eq_true'] at h
    rw [h] at hK
    exact hK
   ·rw [Bool.not_eq_false'] at h
    rw [h,if_pos rfl] at hK
    rw [wrap64 (by omega) (by omega)]
    exact hK
  ·rw [if_neg hl] at hK ⊢
   exact hK
 ·rcases pfx60 s with ⟨r,rfl,hp⟩ | ⟨hp,hpar⟩
  ·rw [hp] at h; cases h
  rw [hpar] at hK
  unfold parseP at hK
  unfold LoopI
  refine loop_rule (fun n:Nat=>h8 s n) (fun n=>n≤s.length∧letters s = n + letters (s.drop n)) (fun n=>s.length - n) (fun n hP K' hnorm hexit=>?_) rfl 0 p8 _ ⟨Nat.zero_le _,by simp⟩ (by kernel_rfl)
  obtain ⟨hle,hl⟩:=hP
  rw [f8_lp]
  refine ⟨fun _=>by omega,fun h=>by simpa using h,brn_intro (fun h=>?_) (fun h=>?_)⟩
  ·simp only [Bool.and_eq_true,decide_eq_true_eq,Int.toNat_natCast] at h
   have hlt:n < s.length:=by omega
   have e:IntKind.wrap .i64 ((n:Int) + 1) = ((n + 1:Nat):Int):=by rw [wrap64 (by omega) (by omega)]; first | done | rfl
   refine hnorm (n + 1) p8 _ ⟨hlt,?_⟩ (by omega) (by rw [← e]; kernel_rfl)
   rw [hl,getD_drop hlt]
   have:alphaB (s.getD n 0) = true:=h.2
   simp only [letters,List.takeWhile_cons,this,if_true,List.length_cons]
   omega
  ·refine hexit _ _ (by simp) ?_
   have hz:letters (s.drop n) = 0:=by
    by_cases hlt:n < s.length
    ·have h2:alphaB (s.getD n 0) = false:=by
      simp only [Bool.and_eq_false_iff,decide_eq_false_iff_not,Int.toNat_natCast] at h
      rcases h with h | h
      ·omega
      ·exact h
     rw [getD_drop hlt]
     rw [letters,List.takeWhile_cons,h2]; first | done | rfl
    ·rw [List.drop_eq_nil_of_le (by omega)]; first | done | rfl
   have hn:letters s = n:=by omega
   rw [hn] at hK
   refine Eq.mpr (f8_out s (n:Int) K) ?_
   refine ⟨by omega,by omega,by simp; omega,?_⟩
   simp only [Int.toNat_natCast,Nat.sub_zero,List.drop_zero]
   refine brn_intro (fun h=>?_) (fun h=>?_)
   ·rw [Bool.not_eq_true'] at h
    rw [h] at hK
    exact hK
   ·rw [Bool.not_eq_false'] at h
    rw [h,if_pos rfl] at hK
    exact hK
def p9:Plan:=⟨[],[true,false,true,true,true,true],[]⟩
theorem place_cons (b:UInt8) (r:List UInt8) (c:UInt8):place (b :: r) c = if b = c then 0 else place r c + 1:=by
 unfold place
 by_cases h:b = c <;> simp [List.takeWhile_cons,h]
theorem parse60 (r:List UInt8):parse (60 :: r) = parseQ r:=by simp [parse]
theorem t60:(60:UInt8).toNat = 60:=rfl
theorem t62:(62:UInt8).toNat = 62:=rfl
theorem f9_ev (s:List UInt8) (hs:s.length≤9223372036854775800) (K:List AV→Prop) (hK:K [st (parse s).1,i64 (parse s).2.1,bo (parse s).2.2]):evSpec C4 Tryz.f42 [.imm (.str s)] K:=by
 rw [f9_in]
 unfold st i64 bo at hK
 refine ⟨fun _=>by omega,fun h=>by simpa using h,brn_intro (fun h=>?_) (fun h=>?_)⟩
 ·obtain ⟨r,rfl⟩:∃ r,s = 60 :: r:=by
   cases s with
   | nil=>simp at h
   | cons b r =>
    simp at h
    exact ⟨r,by rw [show b = 60 from UInt8.toNat_inj.1 (by rw [t60]; omega)]⟩
  clear h
  rw [parse60] at hK
  simp only [List.length_cons] at hs
  unfold LoopI
  refine loop_rule (fun m:Nat=>h9 (60 :: r) ((m + 1:Nat):Int)) (fun m=>m≤r.length∧place r 62 = m + place (r.drop m) 62) (fun m=>r.length - m) (fun m hP K' hnorm hexit=>?_) rfl 0 p9 _ ⟨Nat.zero_le _,by simp⟩ (by kernel_rfl)
  obtain ⟨hle,hl⟩:=hP
  rw [f9_lp]
  refine brn_intro (fun h=>?_) (fun h=>?_)
  ·have hlt:m < r.length:=by simp at h; omega
   rw [getD_drop hlt,place_cons] at hl
   have hg:(60 :: r).getD ((m + 1:Nat):Int).toNat 0 = r.getD m 0:=by rw [Int.toNat_natCast,List.getD_cons_succ]
   have hcut:List.take (Int.toNat ((m + 1:Nat):Int) - Int.toNat 1) (List.drop (Int.toNat 1) (60 :: r)) = r.take m:=by
    rw [Int.toNat_natCast]; first | done | rfl
   rw [hg]
   refine ⟨by omega,by simp; omega,brn_intro (fun h=>?_) (fun h=>?_)⟩
   ·have h62:r.getD m 0 = 62:=by
     have h':((r.getD m 0).toNat:Int) = 62:=beq_iff_eq.1 h
     exact UInt8.toNat_inj.1 (by rw [t62]; omega)
    rw [h62,if_pos rfl] at hl
    have hpl:place r 62 = m:=by omega
    unfold parseQ at hK
    rw [hpl,if_pos hlt] at hK
    refine ⟨by omega,by omega,by simp; omega,by rw [hcut]; simp; omega,brn_intro (fun h=>?_) (fun h=>?_)⟩
    ·rw [hcut,Bool.not_eq_true'] at h
     rw [h] at hK
     refine hexit _ _ (by simp) ?_
     exact Eq.mp (by kernel_rfl) hK
    ·rw [hcut,Bool.not_eq_false'] at h
     rw [h,if_pos rfl] at hK
     refine ⟨by omega,by omega,by simp; omega,?_⟩
     refine hexit _ _ (by simp) ?_
     have e2:IntKind.wrap .i64 (((m + 1:Nat):Int) + 1) = (m:Int) + 2:=by rw [wrap64 (by omega) (by omega)]; omega
     simp only [] at hK
     rw [← hcut,← e2] at hK
     exact Eq.mp (by kernel_rfl) hK
   ·have h62:r.getD m 0≠62:=by
     intro e
     rw [e] at h
     simp at h
    rw [if_neg h62] at hl
    have e:IntKind.wrap .i64 (((m + 1:Nat):Int) + 1) = ((m + 1 + 1:Nat):Int):=by rw [wrap64 (by omega) (by omega)]; omega
    refine hnorm (m + 1) p9 _ ⟨hlt,by omega⟩ (by omega) (by rw [← e]; kernel_rfl)
  ·have hge:¬ m < r.length:=by simp at h; omega
   refine hexit _ _ (by simp) ?_
   refine Eq.mpr (f9_out _ _ K) ?_
   unfold parseQ at hK
   rw [hl,List.drop_eq_nil_of_le (by omega)] at hK
   have:place [] 62 = 0:=rfl
   rw [this,if_neg (by omega)] at hK
   exact hK
 ·have hpar:parse s = parseP s:=by
   cases s with
   | nil=>rfl
   | cons b r =>
    by_cases hb:b = 60
    ·subst hb; simp at h
    ·simp [parse,hb]
  rw [hpar] at hK
  unfold parseP at hK
  have hle:=letters_le s
  refine ⟨by omega,by omega,by omega,by simp; omega,?_⟩
  simp only [Int.toNat_natCast,Nat.sub_zero,List.drop_zero]
  refine brn_intro (fun h=>?_) (fun h=>?_)
  ·rw [Bool.not_eq_true'] at h
   rw [h] at hK
   exact hK
  ·rw [Bool.not_eq_false'] at h
   rw [h,if_pos rfl] at hK
   exact ⟨by omega,by omega,hK⟩
theorem ok8:∀ args pres res,sParse args = some (pres,res)→SpecOK Tryz.prog G0 59 args pres res:=by
 intro args pres res h
 unfold sParse at h
 split at h
 case h_2=>cases h
 cases h
 exact mk okE4 at8 (by decide) rfl (fun hp K hK=>f8_ev _ (hp _ (by simp)) K hK)
theorem ok9:∀ args pres res,sParse args = some (pres,res)→SpecOK Tryz.prog G0 42 args pres res:=by
 intro args pres res h
 unfold sParse at h
 split at h
 case h_2=>cases h
 cases h
 exact mk okE4 at9 (by decide) rfl (fun hp K hK=>f9_ev _ (hp _ (by simp)) K hK)
theorem okE5:EOK Tryz.prog E5 G0:=addE_ok (addE_ok okE4 ok8) ok9
end P7
set_option maxRecDepth 100000
namespace P9
open Go Go.AE Go.Proofs
attribute [local irreducible] loopK evCode evSpec loopB norm
theorem at9:Tryz.prog.funcs[39]? = some Tryz.f39:=by kernel_rfl
theorem at11:Tryz.prog.funcs[71]? = some Tryz.f71:=by kernel_rfl
theorem at15:Tryz.prog.funcs[84]? = some Tryz.f84:=by kernel_rfl
theorem at22:Tryz.prog.funcs[61]? = some Tryz.f61:=by kernel_rfl
theorem at23:Tryz.prog.funcs[65]? = some Tryz.f65:=by kernel_rfl
theorem at28:Tryz.prog.funcs[97]? = some Tryz.f97:=by kernel_rfl
theorem at34:Tryz.prog.funcs[103]? = some Tryz.f103:=by kernel_rfl
theorem at35:Tryz.prog.funcs[104]? = some Tryz.f104:=by kernel_rfl
theorem mk {E:FuncId→List AV→Option (List Prop×List AV)} (hE:EOK Tryz.prog E G0) {f:FuncId} {fn:Func} {args res:List AV} {pres:List Prop} (hf:Tryz.prog.funcs[f]? = some fn) (hn:(fn.name == "runtime.NumGoroutine") = false) (hb:fn.body.isNone = false)
  (h:(∀ p,p ∈ pres→p)→∀ K:List AV→Prop,K res→evSpec (cx E) fn args K):SpecOK Tryz.prog G0 f args pres res :=
 spec_ok (C:=cx E) hE noCall_ok hf hn hb (fun hp=>h hp _ rfl)
theorem okF0:EOK Tryz.prog F0 G0:=addE_ok (addE_ok P7.okE5 P8.ok9) P8.ok10
theorem wrap64 {n:Int} (h1:-9223372036854775808≤n) (h2:n≤9223372036854775807):IntKind.wrap .i64 n = n:=P8.wrap64 h1 h2
theorem nat_of {n:Int} (h:0≤n):∃ i:Nat,n = (i:Int):=⟨n.toNat,by omega⟩
theorem take_rest (s:List UInt8) (i:Nat):(s.drop i).take (s.length - i) = s.drop i:=by
 rw [List.take_of_length_le]; simp
theorem ok22:∀ args pres res,sSide args = some (pres,res)→SpecOK Tryz.prog G0 61 args pres res:=by
 intro args pres res h
 unfold sSide at h
 split at h
 case h_2=>cases h
 cases h
 exact mk okF0 at22 (by decide) rfl (fun _ K hK=>by rw [show cx F0 = C0 from rfl,f22_in]; exact hK)
theorem digit_read {l:List UInt8} {n:Nat}:(decide ((n:Int) < (l.length:Int)) && decide (((l.getD n 0).toNat:Int)≥48) && decide (((l.getD n 0).toNat:Int)≤57)) = (P8.digit l n).2:=by
 rw [P8.digit_eq,Bool.eq_iff_iff]
 have hb:=P8.isD_iff (l.getD n 0)
 simp only [Bool.and_eq_true,decide_eq_true_eq]
 by_cases h1:n < l.length
 ·rw [if_pos h1]
  by_cases h2:P8.isD (l.getD n 0) = true
  ·rw [if_pos h2]; simp only [iff_true]; have:=hb.1 h2; omega
  ·rw [if_neg h2]; simp only [Bool.false_eq_true,iff_false]; rw [hb] at h2; omega
 ·rw [if_neg h1]; simp only [Bool.false_eq_true,iff_false]; omega
theorem digit_val {l:List UInt8} {n:Nat} (h:(P8.digit l n).2 = true):n < l.length∧48≤(l.getD n 0).toNat∧(l.getD n 0).toNat≤57∧(P8.digit l n).1 = (l.getD n 0).toNat - 48:=by
 rw [P8.digit_eq] at h ⊢
 by_cases h1:n < l.length
 ·rw [if_pos h1] at h ⊢
  by_cases h2:P8.isD (l.getD n 0) = true
  ·rw [if_pos h2]
   have:=(P8.isD_iff _).1 h2
   exact ⟨h1,this.1,this.2,rfl⟩
  ·rw [if_neg h2] at h; cases h
 ·rw [if_neg h1] at h; cases h
theorem w8sub {x:Int} (h1:48≤x) (h2:x≤57):IntKind.wrap .i64 (IntKind.wrap .u8 (x - 48)) = x - 48:=by
 rw [P8.wrap8 (by omega) (by omega),wrap64 (by omega) (by omega)]
def p34:Plan:=⟨[],[true,false,true,true,true,true,true],[]⟩
theorem f34_ev (s:List UInt8) (hs:(s.length:Int)≤big) (K:List AV→Prop) (hK:K [i64 (number s).1,i64 (number s).2.1,bo (number s).2.2]):evSpec C0 Tryz.f103 [.imm (.str s)] K:=by
 unfold big at hs
 rw [f34_in]
 unfold LoopI
 have hrl:=P8.run_le s
 refine loop_rule (fun j:Nat=>h34 s (P8.num ((P8.runD s).take j)) (j:Int)) (fun j=>j≤3∧j≤(P8.runD s).length) (fun j=>(P8.runD s).length - j)
  (fun j hP K' hnorm hexit=>?_) rfl 0 p34 _ ⟨by omega,by omega⟩ (by kernel_rfl)
 obtain ⟨h3,hle⟩:=hP
 have hd:=P8.run_digit s j hle
 have hnl:=P8.num_le s j hle
 have hn9:P8.num ((P8.runD s).take j) < 1000:=by
  have:10 ^ j≤10 ^ 3:=Nat.pow_le_pow_right (by decide) h3
  omega
 have ej:IntKind.wrap .i64 ((j:Int) + 1) = ((j + 1:Nat):Int):=by rw [wrap64 (by omega) (by omega)]; omega
 unfold number at hK
 rw [f34_lp (hc:=rfl)]
 refine ⟨fun h=>by omega,fun h=>by simpa using h,fun h=>by omega,fun h=>?_,brn_intro (fun h=>?_) (fun h=>?_)⟩
 ·rw [Bool.and_eq_true] at h; simpa using h.1
 ·have h':(P8.digit s j).2 = true:=by rw [← digit_read]; exact h
  have hlt:j < (P8.runD s).length:=by
   by_cases hlt:j < (P8.runD s).length
   ·exact hlt
   ·rw [hd,if_neg hlt] at h'; cases h'
  obtain ⟨v1,v2,v3,v4⟩:=digit_val h'
  refine brn_intro (fun h4=>?_) (fun h4=>?_)
  ·have h4':j = 3:=by simp only [beq_iff_eq] at h4; omega
   rw [if_neg (by omega)] at hK
   refine hexit _ _ (by simp) ?_
   exact Eq.mp (by kernel_rfl) hK
  ·have h4':¬ j = 3:=by intro e; rw [e] at h4; simp at h4
   refine ⟨by omega,by omega,hnorm (j + 1) p34 _ ⟨by omega,hlt⟩ (by omega) ?_⟩
   have e2:((P8.num ((P8.runD s).take (j + 1)):Nat):Int) = IntKind.wrap .i64 (IntKind.wrap .i64 (((P8.num ((P8.runD s).take j):Nat):Int) * 10) + IntKind.wrap .i64 (IntKind.wrap .u8 (((s.getD (Int.toNat (j:Int)) 0).toNat:Int) - 48))):=by
    rw [P8.num_succ _ _ hlt]
    rw [hd,if_pos hlt] at v4
    simp only at v4
    rw [v4,Int.toNat_natCast,w8sub (by omega) (by omega),wrap64 (n:=((P8.num ((P8.runD s).take j):Nat):Int) * 10) (by omega) (by omega),wrap64 (by omega) (by omega)]
    omega
   rw [e2,← ej]
   show _ = _
   kernel_rfl
 ·have h':(P8.digit s j).2 = false:=by rw [← digit_read]; exact h
  have hj:j = (P8.runD s).length:=by
   by_cases hlt:j < (P8.runD s).length
   ·rw [hd,if_pos hlt] at h'; cases h'
   ·omega
  refine hexit _ _ (by simp) ?_
  rw [if_pos (by omega),← hj] at hK
  have e1:P8.num (P8.runD s) = P8.num ((P8.runD s).take j):=by rw [hj,List.take_length]
  rw [e1] at hK
  have e2:decide (0 < j) = decide ((j:Int) > 0):=by rw [Bool.eq_iff_iff]; simp only [decide_eq_true_eq]; omega
  rw [e2] at hK
  exact Eq.mp (by kernel_rfl) hK
theorem ok34:∀ args pres res,sNumber args = some (pres,res)→SpecOK Tryz.prog G0 103 args pres res:=by
 intro args pres res h
 unfold sNumber at h
 split at h
 case h_2=>cases h
 cases h
 rename_i s
 exact mk okF0 at34 (by decide) rfl (fun hp K hK=>f34_ev s (hp _ (List.mem_cons_self ..)) K hK)
theorem ok23:∀ args pres res,sValidDay args = some (pres,res)→SpecOK Tryz.prog G0 65 args pres res:=by
 intro args pres res h
 unfold sValidDay at h
 split at h
 case h_2=>cases h
 cases h
 rename_i k d m w e t
 refine mk okF0 at23 (by decide) rfl (fun _ K hK=>?_)
 refine Eq.mpr (f23_in k d m w e t K) ?_
 have fin:∀ b,b = validDay k d m w e t→K [.imm (.bool b)]:=fun b hb=>by rw [hb]; exact hK
 unfold validDay at fin
 refine brn_intro (fun h=>fin _ ?_) (fun h=>brn_intro (fun h1=>brn_intro (fun _=>fin _ ?_) (fun h2=>brn_intro (fun h3=>fin _ ?_) (fun h3=>fin _ ?_))) (fun h1=>brn_intro (fun h2=>fin _ ?_) (fun h2=>brn_intro (fun h3=>fin _ ?_) (fun h3=>fin _ ?_))))
 all_goals
  rw [Bool.eq_iff_iff]
  simp only [Bool.or_eq_true,Bool.and_eq_true,decide_eq_true_eq,beq_iff_eq,Bool.or_eq_false_iff,decide_eq_false_iff_not,beq_eq_false_iff_ne,ne_eq,Bool.false_eq_true,false_iff,iff_false] at *
  omega
theorem ok11:∀ args pres res,sValidDay args = some (pres,res)→SpecOK Tryz.prog G0 71 args pres res:=by
 intro args pres res h
 unfold sValidDay at h
 split at h
 case h_2=>cases h
 cases h
 rename_i k d m w e t
 refine mk okF0 at11 (by decide) rfl (fun _ K hK=>?_)
 refine Eq.mpr (f11_in k d m w e t K) ?_
 have fin:∀ b,b = validDay k d m w e t→K [.imm (.bool b)]:=fun b hb=>by rw [hb]; exact hK
 unfold validDay at fin
 refine brn_intro (fun h=>fin _ ?_) (fun h=>brn_intro (fun h1=>fin _ ?_) (fun h1=>brn_intro (fun h2=>fin _ ?_) (fun h2=>fin _ ?_)))
 all_goals
  rw [Bool.eq_iff_iff]
  simp only [Bool.or_eq_true,Bool.and_eq_true,decide_eq_true_eq,beq_iff_eq,Bool.or_eq_false_iff,decide_eq_false_iff_not,beq_eq_false_iff_ne,ne_eq,Bool.false_eq_true,false_iff,iff_false] at *
  omega
theorem okF1:EOK Tryz.prog F1 G0:=addE_ok (addE_ok (addE_ok (addE_ok okF0 ok22) ok34) ok23) ok11
theorem number_n (s:List UInt8):∃ v n:Nat,(number s).1 = (v:Int)∧(number s).2.1 = (n:Int)∧n≤s.length∧n≤3∧v < 1000:=by
 unfold number
 have:=P8.run_le s
 by_cases h:(P8.runD s).length≤3
 ·rw [if_pos h]
  have hn:=P8.num_le s (P8.runD s).length (Nat.le_refl _)
  rw [List.take_length] at hn
  have:10 ^ (P8.runD s).length≤10 ^ 3:=Nat.pow_le_pow_right (by decide) h
  exact ⟨_,(P8.runD s).length,rfl,rfl,by omega,h,by omega⟩
 ·rw [if_neg h]; exact ⟨0,0,rfl,rfl,by omega,by omega,by omega⟩
theorem after_n (s:List UInt8) (i:Nat) (c:UInt8):∃ v n:Nat,(after s i c).1 = (v:Int)∧(after s i c).2.1 = (n:Int)∧n≤s.length∧v < 1000:=by
 unfold after
 have hl:(s.drop i).length = s.length - i:=List.length_drop
 cases h:s.drop i with
 | nil=>exact ⟨0,0,rfl,rfl,by omega,by omega⟩
 | cons b r =>
  rw [h,List.length_cons] at hl
  simp only
  by_cases hb:b = c
  ·rw [if_pos hb]
   obtain ⟨v,n,e1,e2,h3,_,h5⟩:=number_n r
   refine ⟨v,i + 1 + n,e1,?_,by omega,h5⟩
   rw [e2]
   simp
  ·rw [if_neg hb]; exact ⟨0,0,rfl,rfl,by omega,by omega⟩
theorem u8_int {c:Int} (h0:0≤c) (h1:c≤255):((u8 c).toNat:Int) = c:=by
 unfold u8
 simp [UInt8.toNat_ofNat']
 omega
theorem f35_ev (s:List UInt8) (i:Nat) (c:Int) (hs:(s.length:Int)≤big) (hi:(i:Int)≤big) (h0:0≤c) (h1:c≤255) (K:List AV→Prop) (hK:K [i64 (after s i (u8 c)).1,i64 (after s i (u8 c)).2.1,bo (after s i (u8 c)).2.2]) :
  evSpec C1 Tryz.f104 [.imm (.str s),.imm (.int .i64 i),.imm (.int .u8 c)] K:=by
 have hb:big = 9223372036854774000:=rfl
 rw [f35_in]
 have e1:IntKind.wrap .i64 ((i:Int) + 1) = ((i + 1:Nat):Int):=by rw [wrap64 (by omega) (by omega)]; first | done | rfl
 rw [e1]
 simp only [Int.toNat_natCast,take_rest]
 refine ⟨fun h=>by omega,fun h=>by simpa using h,brn_intro (fun h=>?_) (fun h=>?_)⟩
 ·have:after s i (u8 c) = (0,0,false):=by
   unfold after
   by_cases hlt:i < s.length
   ·rw [P8.getD_drop hlt]
    simp only
    rw [if_neg]
    intro e
    rw [e,u8_int h0 h1] at h
    simp at h
    omega
   ·rw [List.drop_eq_nil_of_le (by omega)]
  rw [this] at hK
  exact hK
 ·simp only [Bool.or_eq_false_iff,decide_eq_false_iff_not,bne_eq_false_iff_eq] at h
  have hlt:i < s.length:=by omega
  have hc:s.getD i 0 = u8 c:=UInt8.toNat_inj.1 (by have:=u8_int h0 h1; omega)
  obtain ⟨v,n,g1,g2,g3,g4,_⟩:=number_n (s.drop (i + 1))
  have hl:(s.drop (i + 1)).length = s.length - (i + 1):=List.length_drop
  have e:after s i (u8 c) = ((number (s.drop (i + 1))).1,((i + 1:Nat):Int) + (number (s.drop (i + 1))).2.1,(number (s.drop (i + 1))).2.2):=by
   unfold after
   rw [P8.getD_drop hlt]
   simp only
   rw [if_pos hc]
  rw [e] at hK
  have w:IntKind.wrap .i64 (((i + 1:Nat):Int) + (number (s.drop (i + 1))).2.1) = ((i + 1:Nat):Int) + (number (s.drop (i + 1))).2.1:=by rw [g2,wrap64 (by omega) (by omega)]
  rw [w]
  exact ⟨by omega,by omega,by omega,hK⟩
theorem ok35:∀ args pres res,sAfter args = some (pres,res)→SpecOK Tryz.prog G0 104 args pres res:=by
 intro args pres res h
 unfold sAfter at h
 split at h
 case h_2=>cases h
 cases h
 rename_i s n c
 refine mk okF1 at35 (by decide) rfl (fun hp K hK=>?_)
 have h1:=hp _ (List.mem_cons_self ..)
 have h2:=hp _ (List.mem_cons_of_mem _ (List.mem_cons_self ..))
 have h3:=hp _ (List.mem_cons_of_mem _ (List.mem_cons_of_mem _ (List.mem_cons_self ..)))
 have h4:=hp _ (List.mem_cons_of_mem _ (List.mem_cons_of_mem _ (List.mem_cons_of_mem _ (List.mem_cons_self ..))))
 have h5:=hp _ (List.mem_cons_of_mem _ (List.mem_cons_of_mem _ (List.mem_cons_of_mem _ (List.mem_cons_of_mem _ (List.mem_cons_self ..)))))
 obtain ⟨i,rfl⟩:=nat_of h2
 simp only [Int.toNat_natCast] at hK
 exact f35_ev s i c h1 h3 h4 h5 K hK
theorem okF2:EOK Tryz.prog F2 G0:=addE_ok okF1 ok35
theorem f28_ev (s:List UInt8) (hs:(s.length:Int)≤big - 10) (K:List AV→Prop) (hK:K [dayAV (date s).k (date s).d (date s).m (date s).w (date s).e 0,i64 (date s).n,bo (date s).ok]):evSpec C2 Tryz.f97 [.imm (.str s)] K:=by
 have hb:big = 9223372036854774000:=rfl
 rw [f28_in (hm:=rfl)]
 refine brn_intro (fun h=>?_) (fun h=>?_)
 ·have:s = []:=by simpa using h
  subst this
  exact hK
 ·have hne:s≠[]:=by simpa using h
  obtain ⟨b,r,rfl⟩:∃ b r,s = b :: r:=by
   cases s with
   | nil=>exact absurd rfl hne
   | cons b r=>exact ⟨b,r,rfl⟩
  have et:∀ l:List UInt8,List.take ((b :: r).length - Int.toNat 1) (List.drop (Int.toNat 1) (b :: r)) = r:=fun _=>by
   show List.take (r.length + 1 - 1) r = r
   rw [Nat.add_sub_cancel,List.take_length]
  have et':=et []
  rw [et']
  obtain ⟨v,n,g1,g2,g3,g4,g5⟩:=number_n r
  have w1:IntKind.wrap .i64 ((number r).2.1 + 1) = ((n + 1:Nat):Int):=by rw [g2,wrap64 (by simp at hs; omega) (by simp at hs; omega)]; first | done | rfl
  rw [w1]
  simp only [Int.toNat_natCast]
  have hl:((b :: r).length:Int) = (r.length:Int) + 1:=by simp
  refine ⟨by decide,by omega,brn_intro (fun h1=>?_) (fun h1=>?_)⟩
  ·have hb74:b = 74:=by
    have:(b.toNat:Int) = 74:=by simpa using h1
    exact UInt8.toNat_inj.1 (by show b.toNat = 74; omega)
   subst hb74
   have e:date (74 :: r) = ⟨1,(number r).1,0,0,0,(number r).2.1 + 1,(number r).2.2⟩:=rfl
   rw [e] at hK
   have e2:(number r).2.1 + 1 = ((n + 1:Nat):Int):=by rw [g2]; first | done | rfl
   simp only at hK
   rw [e2] at hK
   exact ⟨by decide,by omega,by omega,hK⟩
  ·have hb74:b≠74:=by rintro rfl; simp at h1
   refine brn_intro (fun h2=>?_) (fun h2=>?_)
   ·have hb77:b = 77:=by
     have:(b.toNat:Int) = 77:=by simpa using h2
     exact UInt8.toNat_inj.1 (by show b.toNat = 77; omega)
    subst hb77
    have e:date (77 :: r) = dateM (77 :: r):=rfl
    rw [e] at hK
    unfold dateM at hK
    have e1:(77 :: r:List UInt8).drop 1 = r:=rfl
    rw [e1,g2,Int.toNat_natCast] at hK
    rw [show u8 46 = 46 from rfl]
    obtain ⟨v2,n2,a1,a2,a3,_⟩:=after_n (77 :: r) (n + 1) 46
    obtain ⟨v3,n3,b1,b2,b3,_⟩:=after_n (77 :: r) n2 46
    refine ⟨by decide,by omega,by omega,brn_intro (fun h3=>?_) (fun h3=>?_)⟩
    ·have h3':(number r).2.2 = false:=by simpa using h3
     rw [if_neg (by rw [h3']; simp)] at hK
     exact hK
    ·have h3':(number r).2.2 = true:=by simpa using h3
     rw [if_pos h3'] at hK
     refine ⟨by omega,by omega,by omega,by decide,by decide,brn_intro (fun h4=>?_) (fun h4=>?_)⟩
     ·have h4':(after (77 :: r) (n + 1) 46).2.2 = false:=by simpa using h4
      rw [if_neg (by rw [h4']; simp)] at hK
      exact hK
     ·have h4':(after (77 :: r) (n + 1) 46).2.2 = true:=by simpa using h4
      rw [if_pos h4'] at hK
      rw [a2] at hK ⊢
      rw [Int.toNat_natCast] at hK ⊢
      exact ⟨by omega,by omega,by omega,by decide,by decide,hK⟩
   ·have hb77:b≠77:=by rintro rfl; simp at h2
    have e:date (b :: r) = ⟨2,(number (b :: r)).1,0,0,0,(number (b :: r)).2.1,(number (b :: r)).2.2⟩:=by
     show (if b = 74 then _ else if b = 77 then _ else _) = _
     rw [if_neg hb74,if_neg hb77]
    rw [e] at hK
    exact ⟨by omega,hK⟩
theorem ok28:∀ args pres res,sDate args = some (pres,res)→SpecOK Tryz.prog G0 97 args pres res:=by
 intro args pres res h
 unfold sDate at h
 split at h
 case h_2=>cases h
 cases h
 rename_i s
 exact mk okF2 at28 (by decide) rfl (fun hp K hK=>f28_ev s (hp _ (List.mem_cons_self ..)) K hK)
theorem okF3:EOK Tryz.prog F3 G0:=addE_ok okF2 ok28
theorem date_n (s:List UInt8):∃ n:Nat,(date s).n = (n:Int)∧n≤s.length:=by
 unfold date
 cases s with
 | nil=>exact ⟨0,rfl,Nat.le_refl _⟩
 | cons b r =>
  obtain ⟨v,n,g1,g2,g3,g4,g5⟩:=number_n r
  obtain ⟨v',n',g1',g2',g3',_⟩:=number_n (b :: r)
  simp only
  split
  ·exact ⟨n + 1,by show (number r).2.1 + 1 = _; rw [g2]; rfl,by simp; omega⟩
  ·split
   ·unfold dateM
    split
    ·split
     ·obtain ⟨_,n3,_,b2,b3,_⟩:=after_n (b :: r) (after (b :: r) ((number ((b :: r).drop 1)).2.1.toNat + 1) 46).2.1.toNat 46
      exact ⟨n3,b2,b3⟩
     ·exact ⟨0,rfl,Nat.zero_le _⟩
    ·exact ⟨0,rfl,Nat.zero_le _⟩
   ·exact ⟨n',g2',g3'⟩
theorem parse_n (s:List UInt8):∃ n:Nat,(P8.parse s).2.1 = (n:Int)∧n≤s.length:=by
 unfold P8.parse
 split
 ·rename_i h
  obtain ⟨n,e,hn,_⟩:=P8.hours_le s (P8.off s) (P8.off_le_len s) h
  obtain ⟨_,_,n',e',_,h'⟩:=P8.fields_b s n hn
  refine ⟨n',?_,h'⟩
  simp only
  rw [e,Int.toNat_natCast,e']
 ·exact ⟨0,rfl,Nat.zero_le _⟩
theorem f15_ev (s:List UInt8) (hs:(s.length:Int)≤big - 20) (K:List AV→Prop) (hK:K [dayAV (day s).k (day s).d (day s).m (day s).w (day s).e (day s).t,i64 (day s).n,bo (day s).ok]):evSpec C3 Tryz.f84 [.imm (.str s)] K:=by
 have hb:big = 9223372036854774000:=rfl
 have hb8:P8.big = 9223372036854775000:=rfl
 rw [f15_in]
 obtain ⟨n,en,hn⟩:=date_n s
 have w1:IntKind.wrap .i64 ((date s).n + 1) = ((n + 1:Nat):Int):=by rw [en,wrap64 (by omega) (by omega)]; first | done | rfl
 rw [w1]
 simp only [Int.toNat_natCast,take_rest]
 have tail:∀ (t:Int) (m:Int) (ok:Bool),(K [dayAV (dayT (date s) t m ok).k (dayT (date s) t m ok).d (dayT (date s) t m ok).m (dayT (date s) t m ok).w (dayT (date s) t m ok).e (dayT (date s) t m ok).t,i64 (dayT (date s) t m ok).n,bo (dayT (date s) t m ok).ok]) →
   brn (!ok || !validDay (date s).k (date s).d (date s).m (date s).w (date s).e t) (K [dayAV 0 0 0 0 0 0,i64 0,bo false]) (K [dayAV (date s).k (date s).d (date s).m (date s).w (date s).e t,i64 m,bo true]):=by
  intro t m ok h
  unfold dayT at h
  refine brn_intro (fun h1=>?_) (fun h1=>?_)
  ·rw [if_neg] at h
   ·exact h
   ·simp only [Bool.or_eq_true,Bool.not_eq_true'] at h1
    simp only [Bool.and_eq_true,not_and,Bool.not_eq_true]
    rcases h1 with h1 | h1
    ·intro h2; rw [h1] at h2; cases h2
    ·intro _; exact h1
  ·rw [if_pos] at h
   ·exact h
   ·simp only [Bool.or_eq_false_iff,Bool.not_eq_false'] at h1
    rw [h1.1,h1.2]; first | done | rfl
 refine ⟨by omega,fun _=>by omega,fun h=>?_,brn_intro (fun h=>?_) (fun h=>?_)⟩
 ·rw [Bool.and_eq_true] at h; simpa using h.2
 ·have hsl:slash s (date s) = true:=by
   unfold slash
   simp only [Bool.and_eq_true,decide_eq_true_eq,beq_iff_eq] at h ⊢
   refine ⟨h.1,?_⟩
   have:=h.2
   exact UInt8.toNat_inj.1 (by show _ = 47; omega)
  have hlt:n < s.length:=by
   simp only [Bool.and_eq_true,decide_eq_true_eq] at h
   omega
  unfold day at hK
  rw [if_pos hsl,en,Int.toNat_natCast] at hK
  obtain ⟨m,em,hm⟩:=parse_n (s.drop (n + 1))
  have hl:(s.drop (n + 1)).length = s.length - (n + 1):=List.length_drop
  have w2:IntKind.wrap .i64 (((n + 1:Nat):Int) + (P8.parse (s.drop (n + 1))).2.1) = (n:Int) + 1 + (P8.parse (s.drop (n + 1))).2.1:=by rw [em,wrap64 (by omega) (by omega)]; omega
  rw [w2]
  exact ⟨by omega,by omega,by omega,tail _ _ _ hK⟩
 ·have hsl:slash s (date s) = false:=by
   cases hc:slash s (date s) with
   | false=>rfl
   | true =>
    unfold slash at hc
    simp only [Bool.and_eq_true,decide_eq_true_eq,beq_iff_eq] at hc
    have:((date s).ok && decide ((date s).n < (s.length:Int)) && (((s.getD (Int.toNat (date s).n) 0).toNat:Int) == 47)) = true:=by
     simp only [Bool.and_eq_true,decide_eq_true_eq,beq_iff_eq]
     refine ⟨hc.1,?_⟩
     rw [hc.2]
     first | done | rfl
    rw [this] at h
    cases h
  unfold day at hK
  rw [if_neg (by rw [hsl]; simp)] at hK
  exact tail _ _ _ hK
theorem ok15:∀ args pres res,sDay args = some (pres,res)→SpecOK Tryz.prog G0 84 args pres res:=by
 intro args pres res h
 unfold sDay at h
 split at h
 case h_2=>cases h
 cases h
 rename_i s
 exact mk okF3 at15 (by decide) rfl (fun hp K hK=>f15_ev s (hp _ (List.mem_cons_self ..)) K hK)
theorem dd_len (n:Nat):1≤(dd n).length∧(dd n).length≤3:=P8.dd_len n
theorem okF4:EOK Tryz.prog F4 G0:=addE_ok okF3 ok15
theorem f9_in (a:List UInt8) (o:Int) (h:Bool) (b:List UInt8) (p:Int) (k:Int) (d:Int) (m:Int) (w:Int) (e:Int) (t:Int) (k':Int) (d':Int) (m':Int) (w':Int) (e':Int) (t':Int) (K:List AV→Prop):evSpec C4 Tryz.f39 [ruleAV a o h b p k d m w e t k' d' m' w' e' t'] K = (a.length≤9223372036854775807∧brn (!P7.valid a || !side o) (K [bo false]) (brn (!h) (K [bo (decide (a = a) && (o == o && (h == false && (decide (b = []) && (p == 0 && (k == 0 && (d == 0 && (m == 0 && (w == 0 && (e == 0 && (t == 0 && true))))) && (k' == 0 && (d' == 0 && (m' == 0 && (w' == 0 && (e' == 0 && (t' == 0 && true))))) && true)))))))]) (b.length≤9223372036854775807∧K [bo (P7.valid b && side p && validDay k d m w e t && validDay k' d' m' w' e' t')]))):=by kernel_rfl
theorem f8_a (s:List UInt8) (k:AX→St→Prop):evCode C5 a8 (e8 s) k = (k AX.normal (St.mk (lapp [st s,AV.dead,AV.ptr (0:Nat) (0:Nat),AV.ptr (1:Nat) (0:Nat),AV.ptr (2:Nat) (0:Nat),AV.ptr (3:Nat) (0:Nat),st s,AV.agg [st s,i64 0],AV.ptr (3:Nat) (0:Nat)] (dN 31)) [((0:Nat),Ob.mk true (0:Nat) (AObj.cells (R8 [] 0))),((1:Nat),Ob.mk true (0:Nat) (AObj.cells [i64 0])),((2:Nat),Ob.mk true (0:Nat) (AObj.cells [i64 0])),((3:Nat),Ob.mk true (0:Nat) (AObj.cells [st s,i64 0]))] (4:Nat) [])):=by kernel_rfl
theorem f8_n (s:List UInt8) (i:Int) (a:List UInt8) (o:Int) (x:AV) (y:AV) (z:AV) (t:Nat→AV) (k:AX→St→Prop):evCode C5 (c8 [Dir.r,Dir.r,Dir.r,Dir.l]) (S8 s i (R8 a o) x y z t) k = ((0:Int)≤i∧i≤(s.length:Int)∧(List.take (s.length - i.toNat) (List.drop i.toNat s)).length≤9223372036854775800∧brn (!(P7.parse (List.take (s.length - i.toNat) (List.drop i.toNat s))).2.2) (k (AX.panic (AV.ifc (77:Nat) (.agg [i64 i]))) (St.mk (lapp [st s,.dead,.ptr 0 0,.ptr 1 0,.ptr 2 0,.ptr 3 0,x,y,z,AV.fn (34:Nat) [] [.ptr 0 0,.ptr 1 0,.ptr 2 0],.ptr 3 0] (tlR t 11 40)) [(0,Ob.mk true 0 (AObj.cells (R8 a o))),(1,Ob.mk true 0 (AObj.cells [i64 0])),(2,Ob.mk true 0 (AObj.cells [i64 0])),(3,Ob.mk true 0 (AObj.cells [st s,i64 i]))] (4:Nat) [.ptr 0 0,.ptr 1 0,.ptr 2 0])) (k AX.normal (St.mk (lapp [st s,.dead,.ptr 0 0,.ptr 1 0,.ptr 2 0,.ptr 3 0,x,y,z,AV.fn (34:Nat) [] [.ptr 0 0,.ptr 1 0,.ptr 2 0],.ptr 3 0,st (P7.parse (List.take (s.length - i.toNat) (List.drop i.toNat s))).1,.ptr 0 0] (tlR t 13 40)) [(0,Ob.mk true 0 (AObj.cells (R8 (P7.parse (List.take (s.length - i.toNat) (List.drop i.toNat s))).1 o))),(1,Ob.mk true 0
 (AObj.cells [i64 0])),(2,Ob.mk true 0 (AObj.cells [i64 0])),(3,Ob.mk true 0 (AObj.cells [st s,i64 (IntKind.wrap .i64 (i + (P7.parse (List.take (s.length - i.toNat) (List.drop i.toNat s))).2.1))]))] (4:Nat) [.ptr 0 0,.ptr 1 0,.ptr 2 0]))):=by kernel_rfl
theorem f8_o (s:List UInt8) (i:Int) (a:List UInt8) (o:Int) (x:AV) (y:AV) (z:AV) (t:Nat→AV) (k:AX→St→Prop):evCode C5 (c8 [Dir.r,Dir.r,Dir.r,Dir.r,Dir.l]) (S8 s i (R8 a o) x y z t) k = ((0:Int)≤i∧i≤(s.length:Int)∧(↑(List.take (s.length - i.toNat) (List.drop i.toNat s)).length:Int)≤P8.big∧brn (!((P8.parse (List.take (s.length - i.toNat) (List.drop i.toNat s))).2.2 && side (P8.parse (List.take (s.length - i.toNat) (List.drop i.toNat s))).1)) (k (AX.panic (AV.ifc (77:Nat) (.agg [i64 i]))) (St.mk (lapp [st s,.dead,.ptr 0 0,.ptr 1 0,.ptr 2 0,.ptr 3 0,x,y,z,AV.fn (34:Nat) [] [.ptr 0 0,.ptr 1 0,.ptr 2 0],t 10,t 11,t 12,.ptr 3 0] (tlR t 14 40)) [(0,Ob.mk true 0 (AObj.cells (R8 a o))),(1,Ob.mk true 0 (AObj.cells [i64 0])),(2,Ob.mk true 0 (AObj.cells [i64 0])),(3,Ob.mk true 0 (AObj.cells [st s,i64 i]))] (4:Nat) [.ptr 0 0,.ptr 1 0,.ptr 2 0])) (k AX.normal (St.mk (lapp [st s,.dead,.ptr 0 0,.ptr 1 0,.ptr 2 0,.ptr 3 0,x,y,z,AV.fn (34:Nat) [] [.ptr 0 0,.ptr 1 0,.ptr 2 0],t 10,t 11,t 12,.ptr 3 0,i64 (IntKind.wrap .i64 ((0:Int) - (P8.parse (List.take (s.length - i.toNat) (List.drop i.toNat s))).1)),.ptr
 0 1] (tlR t 16 40)) [(0,Ob.mk true 0 (AObj.cells (R8 a (IntKind.wrap .i64 ((0:Int) - (P8.parse (List.take (s.length - i.toNat) (List.drop i.toNat s))).1))))),(1,Ob.mk true 0 (AObj.cells [i64 0])),(2,Ob.mk true 0 (AObj.cells [i64 0])),(3,Ob.mk true 0 (AObj.cells [st s,i64 (IntKind.wrap .i64 (i + (P8.parse (List.take (s.length - i.toNat) (List.drop i.toNat s))).2.1))]))] (4:Nat) [.ptr 0 0,.ptr 1 0,.ptr 2 0]))):=by kernel_rfl
theorem d_1 (s:List UInt8) (i:Int) (R0:List AV) (R2:List AV) (a:List UInt8) (o:Int) (h:Bool) (b:List UInt8) (p:Int) (k:Int) (d:Int) (m:Int) (w:Int) (e:Int) (t:Int) (k':Int) (d':Int) (m':Int) (w':Int) (e':Int) (t':Int) (x:AV) (y:AV) (OUT:List AV) (T:Nat→AV) (K:AX→St→Prop):evCode C4i (c19 [Dir.r,Dir.l]) (S19 s i R0 (R17 a o h b p k d m w e t k' d' m' w' e' t') R2 x y OUT T) K = (((0:Int)≤i∧i≤(s.length:Int)∧(List.take (s.length - i.toNat) (List.drop i.toNat s)).length≤9223372036854775800∧brn (!(P7.parse (List.take (s.length - i.toNat) (List.drop i.toNat s))).2.2) (K (AX.panic (AV.ifc (77:Nat) (.agg [i64 i]))) (St.mk (lapp [.ptr 3 0,x,y,.ptr 4 0,.ptr 5 0,T 5,T 6,T 7,.ptr 3 0,T 9,.ptr 4 1] (tlR T 11 45)) [(0,Ob.mk true 0 (AObj.cells R0)),(1,Ob.mk true 0 (AObj.cells [i64 0])),(2,Ob.mk true 0 (AObj.cells [i64 0])),(3,Ob.mk true 0 (AObj.cells [st s,i64 i])),(4,Ob.mk true 0 (AObj.cells (R17 a o h b p k d m w e t k' d' m' w' e' t'))),(5,Ob.mk true 0 (AObj.cells R2))] (6:Nat) OUT)) (K AX.normal (St.mk (lapp [.ptr 3 0,x,y,.ptr 4 0,.ptr 5 0,T 5,T 6,T 7,.ptr 3 0,st (P7.parse (List.take
 (s.length - i.toNat) (List.drop i.toNat s))).1,.ptr 4 1,i64 o,i64 (IntKind.wrap .i64 (o + 3600)),.ptr 4 2,.ptr 4 3,.ptr 4 4] (tlR T 16 45)) [(0,Ob.mk true 0 (AObj.cells R0)),(1,Ob.mk true 0 (AObj.cells [i64 0])),(2,Ob.mk true 0 (AObj.cells [i64 0])),(3,Ob.mk true 0 (AObj.cells [st s,i64 (IntKind.wrap .i64 (i + (P7.parse (List.take (s.length - i.toNat) (List.drop i.toNat s))).2.1))])),(4,Ob.mk true 0 (AObj.cells (R17 a o true (P7.parse (List.take (s.length - i.toNat) (List.drop i.toNat s))).1 (IntKind.wrap .i64 (o + 3600)) k d m w e t k' d' m' w' e' t'))),(5,Ob.mk true 0 (AObj.cells R2))] (6:Nat) OUT)))∧(0:Int)≤i∧i≤(s.length:Int)∧(List.take (s.length - i.toNat) (List.drop i.toNat s)).length≤9223372036854775800∧brn (!(P7.parse (List.take (s.length - i.toNat) (List.drop i.toNat s))).2.2) (K (AX.panic (AV.ifc (77:Nat) (.agg [i64 i]))) (St.mk (lapp [.ptr 3 0,x,y,.ptr 4 0,.ptr 5 0,T 5,T 6,T 7,.ptr 3 0,T 9,.ptr 4 1,i64 o,i64 (IntKind.wrap .i64 (o + 3600)),.ptr 4 2] (tlR T 14 45)) [(0,Ob.mk true 0 (AObj.cells R0)),(1,Ob.mk true 0 (AObj.cells [i64 0])),(2,Ob.mk true 0 (AObj.cells [i64 0])),(3,Ob.mk true 0 (AObj.cells [st s,i64
 i])),(4,Ob.mk true 0 (AObj.cells (R17 a o h b p k d m w e t k' d' m' w' e' t'))),(5,Ob.mk true 0 (AObj.cells R2))] (6:Nat) OUT)) (K AX.normal (St.mk (lapp [.ptr 3 0,x,y,.ptr 4 0,.ptr 5 0,T 5,T 6,T 7,.ptr 3 0,st (P7.parse (List.take (s.length - i.toNat) (List.drop i.toNat s))).1,.ptr 4 1,i64 o,i64 (IntKind.wrap .i64 (o + 3600)),.ptr 4 2,.ptr 4 3,.ptr 4 4] (tlR T 16 45)) [(0,Ob.mk true 0 (AObj.cells R0)),(1,Ob.mk true 0 (AObj.cells [i64 0])),(2,Ob.mk true 0 (AObj.cells [i64 0])),(3,Ob.mk true 0 (AObj.cells [st s,i64 (IntKind.wrap .i64 (i + (P7.parse (List.take (s.length - i.toNat) (List.drop i.toNat s))).2.1))])),(4,Ob.mk true 0 (AObj.cells (R17 a o true (P7.parse (List.take (s.length - i.toNat) (List.drop i.toNat s))).1 (IntKind.wrap .i64 (o + 3600)) k d m w e t k' d' m' w' e' t'))),(5,Ob.mk true 0 (AObj.cells R2))] (6:Nat) OUT))):=by kernel_rfl
theorem d_2 (s:List UInt8) (i:Int) (R0:List AV) (R2:List AV) (a:List UInt8) (o:Int) (h:Bool) (b:List UInt8) (p:Int) (k:Int) (d:Int) (m:Int) (w:Int) (e:Int) (t:Int) (k':Int) (d':Int) (m':Int) (w':Int) (e':Int) (t':Int) (x:AV) (y:AV) (OUT:List AV) (T:Nat→AV) (K:AX→St→Prop) (Z:Int×Int×Bool) (hZ:Z = P8.parse (List.take (s.length - i.toNat) (List.drop i.toNat s))):evCode C4i (c19 [Dir.r,Dir.r,Dir.l]) (S19 s i R0 (R17 a o h b p k d m w e t k' d' m' w' e' t') R2 x y OUT T) K = ((0:Int)≤i∧i≤(s.length:Int)∧(↑(List.take (s.length - i.toNat) (List.drop i.toNat s)).length:Int)≤P8.big∧brn (Prod.snd Z).2 ((0:Int)≤i∧i≤(s.length:Int)∧(↑(List.take (s.length - i.toNat) (List.drop i.toNat s)).length:Int)≤P8.big∧brn (!((Prod.snd Z).2 && side (Prod.fst Z))) (K (AX.panic (AV.ifc (77:Nat) (.agg [i64 i]))) (St.mk (lapp [.ptr 3 0,x,y,.ptr 4 0,.ptr 5 0,i64 (Prod.fst Z),i64 (Prod.snd Z).1,bo (Prod.snd Z).2] (lapp (tlR T 8 16) (lapp [.tup [i64 (Prod.fst Z),i64 (Prod.snd Z).1,bo (Prod.snd Z).2],.ptr 3 0,.ptr 3 0,.ptr 3 0,st s,.ptr 3 0,.ptr 3 0,.ptr 3 1,i64 i,st (List.take (s.length -
 i.toNat) (List.drop i.toNat s)),.tup [i64 (Prod.fst Z),i64 (Prod.snd Z).1,bo (Prod.snd Z).2],i64 (Prod.fst Z),i64 (Prod.snd Z).1,bo (Prod.snd Z).2,bo (Prod.snd Z).2,.ptr 3 0] (tlR T 32 45)))) [(0,Ob.mk true 0 (AObj.cells R0)),(1,Ob.mk true 0 (AObj.cells [i64 0])),(2,Ob.mk true 0 (AObj.cells [i64 0])),(3,Ob.mk true 0 (AObj.cells [st s,i64 i])),(4,Ob.mk true 0 (AObj.cells (R17 a o h b p k d m w e t k' d' m' w' e' t'))),(5,Ob.mk true 0 (AObj.cells R2))] (6:Nat) OUT)) (K AX.normal (St.mk (lapp [.ptr 3 0,x,y,.ptr 4 0,.ptr 5 0,i64 (Prod.fst Z),i64 (Prod.snd Z).1,bo (Prod.snd Z).2] (lapp (tlR T 8 16) (lapp [.tup [i64 (Prod.fst Z),i64 (Prod.snd Z).1,bo (Prod.snd Z).2],.ptr 3 0,.ptr 3 0,.ptr 3 0,st s,.ptr 3 0,.ptr 3 0,.ptr 3 1,i64 i,st (List.take (s.length - i.toNat) (List.drop i.toNat s)),.tup [i64 (Prod.fst Z),i64 (Prod.snd Z).1,bo (Prod.snd Z).2],i64 (Prod.fst Z),i64 (Prod.snd Z).1,bo (Prod.snd Z).2,bo (Prod.snd Z).2,.ptr 3 0,i64 (IntKind.wrap .i64 ((0:Int) - Prod.fst Z)),.ptr 4 4] (tlR T 34 45)))) [(0,Ob.mk true 0 (AObj.cells R0)),(1,Ob.mk true 0 (AObj.cells [i64 0])),(2,Ob.mk true 0 (AObj.cells [i64 0])),(3,Ob.mk true 0
 (AObj.cells [st s,i64 (IntKind.wrap .i64 (i + (Prod.snd Z).1))])),(4,Ob.mk true 0 (AObj.cells (R17 a o h b (IntKind.wrap .i64 ((0:Int) - Prod.fst Z)) k d m w e t k' d' m' w' e' t'))),(5,Ob.mk true 0 (AObj.cells R2))] (6:Nat) OUT))) (K AX.normal (St.mk (lapp [.ptr 3 0,x,y,.ptr 4 0,.ptr 5 0,i64 (Prod.fst Z),i64 (Prod.snd Z).1,bo (Prod.snd Z).2] (lapp (tlR T 8 16) (lapp [.tup [i64 (Prod.fst Z),i64 (Prod.snd Z).1,bo (Prod.snd Z).2],.ptr 3 0,.ptr 3 0,.ptr 3 0,st s,.ptr 3 0,.ptr 3 0,.ptr 3 1,i64 i,st (List.take (s.length - i.toNat) (List.drop i.toNat s)),.tup [i64 (Prod.fst Z),i64 (Prod.snd Z).1,bo (Prod.snd Z).2],i64 (Prod.fst Z),i64 (Prod.snd Z).1,bo (Prod.snd Z).2,bo (Prod.snd Z).2] (tlR T 31 45)))) [(0,Ob.mk true 0 (AObj.cells R0)),(1,Ob.mk true 0 (AObj.cells [i64 0])),(2,Ob.mk true 0 (AObj.cells [i64 0])),(3,Ob.mk true 0 (AObj.cells [st s,i64 i])),(4,Ob.mk true 0 (AObj.cells (R17 a o h b p k d m w e t k' d' m' w' e' t'))),(5,Ob.mk true 0 (AObj.cells R2))] (6:Nat) OUT))):=by subst hZ; kernel_rfl
theorem d_3 (s:List UInt8) (i:Int) (R0:List AV) (R2:List AV) (a:List UInt8) (o:Int) (h:Bool) (b:List UInt8) (p:Int) (k:Int) (d:Int) (m:Int) (w:Int) (e:Int) (t:Int) (k':Int) (d':Int) (m':Int) (w':Int) (e':Int) (t':Int) (x:AV) (y:AV) (OUT:List AV) (T:Nat→AV) (K:AX→St→Prop):evCode C4i (c19 [Dir.r,Dir.r,Dir.r,Dir.l]) (S19 s i R0 (R17 a o h b p k d m w e t k' d' m' w' e' t') R2 x y OUT T) K = ((decide (i < (s.length:Int)) = true→(0:Int)≤i)∧(decide (i < (s.length:Int)) = true→i < (s.length:Int))∧brn (!(decide (i < (s.length:Int)) && (↑(UInt8.toNat (List.getD s i.toNat (0:UInt8))):Int) == 44)) (K (AX.panic (AV.ifc (77:Nat) (.agg [i64 i]))) (St.mk (lapp [.ptr 3 0,x,y,.ptr 4 0,.ptr 5 0] (lapp (tlR T 5 34) (lapp [.ptr 3 0] (tlR T 35 45)))) [(0,Ob.mk true 0 (AObj.cells R0)),(1,Ob.mk true 0 (AObj.cells [i64 0])),(2,Ob.mk true 0 (AObj.cells [i64 0])),(3,Ob.mk true 0 (AObj.cells [st s,i64 i])),(4,Ob.mk true 0 (AObj.cells (R17 a o h b p k d m w e t k' d' m' w' e' t'))),(5,Ob.mk true 0 (AObj.cells R2))] (6:Nat) OUT)) (K AX.normal (St.mk (lapp [.ptr 3 0,x,y,.ptr 4 0,.ptr 5 0] (lapp (tlR T 5
 34) (lapp [.ptr 3 0,.tup []] (tlR T 36 45)))) [(0,Ob.mk true 0 (AObj.cells R0)),(1,Ob.mk true 0 (AObj.cells [i64 0])),(2,Ob.mk true 0 (AObj.cells [i64 0])),(3,Ob.mk true 0 (AObj.cells [st s,i64 (IntKind.wrap .i64 (i + 1))])),(4,Ob.mk true 0 (AObj.cells (R17 a o h b p k d m w e t k' d' m' w' e' t'))),(5,Ob.mk true 0 (AObj.cells R2))] (6:Nat) OUT))):=by kernel_rfl
theorem d_4 (s:List UInt8) (i:Int) (R0:List AV) (R2:List AV) (a:List UInt8) (o:Int) (h:Bool) (b:List UInt8) (p:Int) (k:Int) (d:Int) (m:Int) (w:Int) (e:Int) (t:Int) (k':Int) (d':Int) (m':Int) (w':Int) (e':Int) (t':Int) (x:AV) (y:AV) (OUT:List AV) (T:Nat→AV) (K:AX→St→Prop) (D:Dy) (hD:D = day (List.take (s.length - i.toNat) (List.drop i.toNat s))) (N:Prop) (hN:N = K AX.normal (St.mk (lapp [.ptr 3 0,x,y,.ptr 4 0,.ptr 5 0] (lapp (tlR T 5 36) (lapp [.ptr 3 0,dayAV (Dy.k D) (Dy.d D) (Dy.m D) (Dy.w D) (Dy.e D) (Dy.t D),.ptr 4 5] (tlR T 39 45)))) [(0,Ob.mk true 0 (AObj.cells R0)),(1,Ob.mk true 0 (AObj.cells [i64 0])),(2,Ob.mk true 0 (AObj.cells [i64 0])),(3,Ob.mk true 0 (AObj.cells [st s,i64 (IntKind.wrap .i64 (i + Dy.n D))])),(4,Ob.mk true 0 (AObj.cells (R17 a o h b p (Dy.k D) (Dy.d D) (Dy.m D) (Dy.w D) (Dy.e D) (Dy.t D) k' d' m' w' e' t'))),(5,Ob.mk true 0 (AObj.cells R2)),(6,Ob.mk true 0 (AObj.cells [i64 (Dy.k D),i64 (Dy.d D),i64 (Dy.m D),i64 (Dy.w D),i64 (Dy.e D),i64 (Dy.t D)])),(7,Ob.mk true 0 (AObj.cells [i64 (Dy.k D),i64 (Dy.d D),i64 (Dy.m D),i64 (Dy.w D),i64 (Dy.e D),i64 (Dy.t D)]))] (8
 : Nat) OUT)) (Q:Prop) (hQ:Q = K (AX.panic (AV.ifc (77:Nat) (.agg [i64 i]))) (St.mk (lapp [.ptr 3 0,x,y,.ptr 4 0,.ptr 5 0] (lapp (tlR T 5 36) (lapp [.ptr 3 0] (tlR T 37 45)))) [(0,Ob.mk true 0 (AObj.cells R0)),(1,Ob.mk true 0 (AObj.cells [i64 0])),(2,Ob.mk true 0 (AObj.cells [i64 0])),(3,Ob.mk true 0 (AObj.cells [st s,i64 i])),(4,Ob.mk true 0 (AObj.cells (R17 a o h b p k d m w e t k' d' m' w' e' t'))),(5,Ob.mk true 0 (AObj.cells R2)),(6,Ob.mk true 0 (AObj.cells [i64 0,i64 0,i64 0,i64 0,i64 0,i64 0])),(7,Ob.mk true 0 (AObj.cells [i64 (Dy.k D),i64 (Dy.d D),i64 (Dy.m D),i64 (Dy.w D),i64 (Dy.e D),i64 (Dy.t D)]))] (8:Nat) OUT)):evCode C4i (c19 [Dir.r,Dir.r,Dir.r,Dir.r,Dir.l]) (S19 s i R0 (R17 a o h b p k d m w e t k' d' m' w' e' t') R2 x y OUT T) K = ((0:Int)≤i∧i≤(s.length:Int)∧((↑(List.take (s.length - i.toNat) (List.drop i.toNat s)).length:Int)≤big - 20∧brn (!Dy.ok D) Q N∧brn (!Dy.ok D) Q N)∧(↑(List.take (s.length - i.toNat) (List.drop i.toNat s)).length:Int)≤big - 20∧brn (!Dy.ok D) Q N):=by subst hQ; subst hN; subst hD; kernel_rfl
theorem d_5 (s:List UInt8) (i:Int) (R0:List AV) (R2:List AV) (a:List UInt8) (o:Int) (h:Bool) (b:List UInt8) (p:Int) (k:Int) (d:Int) (m:Int) (w:Int) (e:Int) (t:Int) (k':Int) (d':Int) (m':Int) (w':Int) (e':Int) (t':Int) (x:AV) (y:AV) (OUT:List AV) (X:List AV) (Y:List AV) (T:Nat→AV) (K:AX→St→Prop):evCode C4i (c19 [Dir.r,Dir.r,Dir.r,Dir.r,Dir.r,Dir.l]) (S19b s i R0 (R17 a o h b p k d m w e t k' d' m' w' e' t') R2 x y OUT X Y T) K = ((decide (i < (s.length:Int)) = true→(0:Int)≤i)∧(decide (i < (s.length:Int)) = true→i < (s.length:Int))∧brn (!(decide (i < (s.length:Int)) && (↑(UInt8.toNat (List.getD s i.toNat (0:UInt8))):Int) == 44)) (K (AX.panic (AV.ifc (77:Nat) (.agg [i64 i]))) (St.mk (lapp [.ptr 3 0,x,y,.ptr 4 0,.ptr 5 0] (lapp (tlR T 5 39) (lapp [.ptr 3 0] (tlR T 40 45)))) [(0,Ob.mk true 0 (AObj.cells R0)),(1,Ob.mk true 0 (AObj.cells [i64 0])),(2,Ob.mk true 0 (AObj.cells [i64 0])),(3,Ob.mk true 0 (AObj.cells [st s,i64 i])),(4,Ob.mk true 0 (AObj.cells (R17 a o h b p k d m w e t k' d' m' w' e' t'))),(5,Ob.mk true 0 (AObj.cells R2)),(6,Ob.mk true 0 (AObj.cells X)),(7,Ob.mk
 true 0 (AObj.cells Y))] (8:Nat) OUT)) (K AX.normal (St.mk (lapp [.ptr 3 0,x,y,.ptr 4 0,.ptr 5 0] (lapp (tlR T 5 39) (lapp [.ptr 3 0,.tup []] (tlR T 41 45)))) [(0,Ob.mk true 0 (AObj.cells R0)),(1,Ob.mk true 0 (AObj.cells [i64 0])),(2,Ob.mk true 0 (AObj.cells [i64 0])),(3,Ob.mk true 0 (AObj.cells [st s,i64 (IntKind.wrap .i64 (i + 1))])),(4,Ob.mk true 0 (AObj.cells (R17 a o h b p k d m w e t k' d' m' w' e' t'))),(5,Ob.mk true 0 (AObj.cells R2)),(6,Ob.mk true 0 (AObj.cells X)),(7,Ob.mk true 0 (AObj.cells Y))] (8:Nat) OUT))):=by kernel_rfl
theorem d_6 (s:List UInt8) (i:Int) (R0:List AV) (R2:List AV) (a:List UInt8) (o:Int) (h:Bool) (b:List UInt8) (p:Int) (k:Int) (d:Int) (m:Int) (w:Int) (e:Int) (t:Int) (k':Int) (d':Int) (m':Int) (w':Int) (e':Int) (t':Int) (x:AV) (y:AV) (OUT:List AV) (X:List AV) (Y:List AV) (T:Nat→AV) (K:AX→St→Prop) (D:Dy) (hD:D = day (List.take (s.length - i.toNat) (List.drop i.toNat s))) (N:Prop) (hN:N = K AX.normal (St.mk (lapp [.ptr 3 0,x,y,.ptr 4 0,.ptr 5 0] (lapp (tlR T 5 41) [.ptr 3 0,dayAV (Dy.k D) (Dy.d D) (Dy.m D) (Dy.w D) (Dy.e D) (Dy.t D),.ptr 4 11,T 44])) [(0,Ob.mk true 0 (AObj.cells R0)),(1,Ob.mk true 0 (AObj.cells [i64 0])),(2,Ob.mk true 0 (AObj.cells [i64 0])),(3,Ob.mk true 0 (AObj.cells [st s,i64 (IntKind.wrap .i64 (i + Dy.n D))])),(4,Ob.mk true 0 (AObj.cells (R17 a o h b p k d m w e t (Dy.k D) (Dy.d D) (Dy.m D) (Dy.w D) (Dy.e D) (Dy.t D)))),(5,Ob.mk true 0 (AObj.cells R2)),(6,Ob.mk true 0 (AObj.cells X)),(7,Ob.mk true 0 (AObj.cells Y)),(8,Ob.mk true 0 (AObj.cells [i64 (Dy.k D),i64 (Dy.d D),i64 (Dy.m D),i64 (Dy.w D),i64 (Dy.e D),i64 (Dy.t D)])),(9,Ob.mk true 0 (AObj.cells [i64 (Dy.k D),
 i64 (Dy.d D),i64 (Dy.m D),i64 (Dy.w D),i64 (Dy.e D),i64 (Dy.t D)]))] (10:Nat) OUT)) (Q:Prop) (hQ:Q = K (AX.panic (AV.ifc (77:Nat) (.agg [i64 i]))) (St.mk (lapp [.ptr 3 0,x,y,.ptr 4 0,.ptr 5 0] (lapp (tlR T 5 41) [.ptr 3 0,T 42,T 43,T 44])) [(0,Ob.mk true 0 (AObj.cells R0)),(1,Ob.mk true 0 (AObj.cells [i64 0])),(2,Ob.mk true 0 (AObj.cells [i64 0])),(3,Ob.mk true 0 (AObj.cells [st s,i64 i])),(4,Ob.mk true 0 (AObj.cells (R17 a o h b p k d m w e t k' d' m' w' e' t'))),(5,Ob.mk true 0 (AObj.cells R2)),(6,Ob.mk true 0 (AObj.cells X)),(7,Ob.mk true 0 (AObj.cells Y)),(8,Ob.mk true 0 (AObj.cells [i64 0,i64 0,i64 0,i64 0,i64 0,i64 0])),(9,Ob.mk true 0 (AObj.cells [i64 (Dy.k D),i64 (Dy.d D),i64 (Dy.m D),i64 (Dy.w D),i64 (Dy.e D),i64 (Dy.t D)]))] (10:Nat) OUT)):evCode C4i (c19 [Dir.r,Dir.r,Dir.r,Dir.r,Dir.r,Dir.r,Dir.l]) (S19b s i R0 (R17 a o h b p k d m w e t k' d' m' w' e' t') R2 x y OUT X Y T) K = ((0:Int)≤i∧i≤(s.length:Int)∧((↑(List.take (s.length - i.toNat) (List.drop i.toNat s)).length:Int)≤big - 20∧brn (!Dy.ok D) Q N∧brn (!Dy.ok D) Q N)∧(↑(List.take (s.length - i.toNat) (List.drop i.toNat s)).length:Int) ≤
 big - 20∧brn (!Dy.ok D) Q N):=by subst hQ; subst hN; subst hD; kernel_rfl
theorem d_0 (s:List UInt8) (i:Int) (R0:List AV) (a:List UInt8) (o:Int) (h:Bool) (b:List UInt8) (p:Int) (k:Int) (d:Int) (m:Int) (w:Int) (e:Int) (t:Int) (k':Int) (d':Int) (m':Int) (w':Int) (e':Int) (t':Int) (OUT:List AV) (K:AX→St→Prop):evCode C4i (c19 [Dir.l]) (St.mk (lapp [.ptr 3 0,ruleAV a o h b p k d m w e t k' d' m' w' e' t'] (lrepl (43:Nat) AV.dead)) (o8 s i R0) (4:Nat) OUT) K = (K AX.normal (St.mk (lapp [.ptr 3 0,.agg (R17 a o h b p k d m w e t k' d' m' w' e' t'),.dead,.ptr 4 0,.ptr 5 0] (dN 40)) [(0,Ob.mk true 0 (AObj.cells R0)),(1,Ob.mk true 0 (AObj.cells [i64 0])),(2,Ob.mk true 0 (AObj.cells [i64 0])),(3,Ob.mk true 0 (AObj.cells [st s,i64 i])),(4,Ob.mk true 0 (AObj.cells (R17 a o h b p k d m w e t k' d' m' w' e' t'))),(5,Ob.mk true 0 (AObj.cells (R8 [] 0)))] (6:Nat) OUT)):=by kernel_rfl
theorem d_7 (s:List UInt8) (i:Int) (R0:List AV) (a:List UInt8) (o:Int) (h:Bool) (b:List UInt8) (p:Int) (k:Int) (d:Int) (m:Int) (w:Int) (e:Int) (t:Int) (k':Int) (d':Int) (m':Int) (w':Int) (e':Int) (t':Int) (x:AV) (y:AV) (OUT:List AV) (X:List AV) (Y:List AV) (Z:List AV) (W:List AV) (T:Nat→AV) (K:AX→St→Prop):evCode C4i (c19 [Dir.r,Dir.r,Dir.r,Dir.r,Dir.r,Dir.r,Dir.r]) (S19c s i R0 (R17 a o h b p k d m w e t k' d' m' w' e' t') zRule x y OUT X Y Z W T) K = (K AX.ret (St.mk (lapp [.ptr 3 0,x,y,.ptr 4 0,.ptr 5 0] (lapp (tlR T 5 44) [.agg (R17 a o h b p k d m w e t k' d' m' w' e' t')])) [(0,Ob.mk true 0 (AObj.cells R0)),(1,Ob.mk true 0 (AObj.cells [i64 0])),(2,Ob.mk true 0 (AObj.cells [i64 0])),(3,Ob.mk true 0 (AObj.cells [st s,i64 i])),(4,Ob.mk true 0 (AObj.cells (R17 a o h b p k d m w e t k' d' m' w' e' t'))),(5,Ob.mk true 0 (AObj.cells (R17 a o h b p k d m w e t k' d' m' w' e' t'))),(6,Ob.mk true 0 (AObj.cells X)),(7,Ob.mk true 0 (AObj.cells Y)),(8,Ob.mk true 0 (AObj.cells Z)),(9,Ob.mk true 0 (AObj.cells W))] (10:Nat) OUT)):=by kernel_rfl
theorem f8_v (s:List UInt8) (i:Int) (a:List UInt8) (o:Int) (h:Bool) (b:List UInt8) (p:Int) (k:Int) (d:Int) (m:Int) (w:Int) (e:Int) (t:Int) (k':Int) (d':Int) (m':Int) (w':Int) (e':Int) (t':Int) (x:AV) (y:AV) (z:AV) (T:Nat→AV) (K:AX→St→Prop):evCode C5 (c8 [Dir.r,Dir.r,Dir.r,Dir.r,Dir.r,Dir.r,Dir.l]) (S8 s i (R17 a o h b p k d m w e t k' d' m' w' e' t') x y z T) K = (((i == (s.length:Int)) = true→a.length≤9223372036854775807)∧((i == (s.length:Int)) = true→b.length≤9223372036854775807)∧brn (!(i == (s.length:Int) && validRule a o h b p k d m w e t k' d' m' w' e' t')) (K (AX.panic (AV.ifc (77:Nat) (.agg [i64 i]))) (St.mk [st s,.dead,.ptr 0 0,.ptr 1 0,.ptr 2 0,.ptr 3 0,(clean1 x),(clean1 y),(clean1 z),AV.fn (34:Nat) [] [.ptr 0 0,.ptr 1 0,.ptr 2 0],(clean1 (T 10)),(clean1 (T 11)),(clean1 (T 12)),(clean1 (T 13)),(clean1 (T 14)),(clean1 (T 15)),(clean1 (T 16)),(clean1 (T 17)),(clean1 (T 18)),(clean1 (T 19)),(clean1 (T 20)),(clean1 (T 21)),(clean1 (T 22)),(clean1 (T 23)),(clean1 (T 24)),(clean1 (T 25)),.ptr 3 0,.ptr 3 0,.ptr 3 0,.ptr 3 1,i64 i,st s,i64 (s.length:Int),bo (i
 == (s.length:Int)),bo (i == (s.length:Int)),.opt [((34:Nat),true)] (.agg (R17 a o h b p k d m w e t k' d' m' w' e' t')),.opt [((34:Nat),true)] (bo (validRule a o h b p k d m w e t k' d' m' w' e' t')),bo (i == (s.length:Int) && validRule a o h b p k d m w e t k' d' m' w' e' t'),(clean1 (T 38)),(clean1 (T 39))] [(0,Ob.mk true 0 (AObj.cells (R17 a o h b p k d m w e t k' d' m' w' e' t'))),(1,Ob.mk true 0 (AObj.cells [i64 0])),(2,Ob.mk true 0 (AObj.cells [i64 0])),(3,Ob.mk true 0 (AObj.cells [st s,i64 i]))] (4:Nat) [.ptr 0 0,.ptr 1 0,.ptr 2 0])) (K AX.normal (St.mk [st s,.dead,.ptr 0 0,.ptr 1 0,.ptr 2 0,.ptr 3 0,(clean1 x),(clean1 y),(clean1 z),AV.fn (34:Nat) [] [.ptr 0 0,.ptr 1 0,.ptr 2 0],(clean1 (T 10)),(clean1 (T 11)),(clean1 (T 12)),(clean1 (T 13)),(clean1 (T 14)),(clean1 (T 15)),(clean1 (T 16)),(clean1 (T 17)),(clean1 (T 18)),(clean1 (T 19)),(clean1 (T 20)),(clean1 (T 21)),(clean1 (T 22)),(clean1 (T 23)),(clean1 (T 24)),(clean1 (T 25)),.ptr 3 0,.ptr 3 0,.ptr 3 0,.ptr 3 1,i64 i,st s,i64 (s.length:Int),bo (i == (s.length:Int)),bo (i == (s.length:Int)),.opt [((34:Nat),true)] (.agg (R17 a o h b p k d m w e t
 k' d' m' w' e' t')),.opt [((34:Nat),true)] (bo (validRule a o h b p k d m w e t k' d' m' w' e' t')),bo (i == (s.length:Int) && validRule a o h b p k d m w e t k' d' m' w' e' t'),.tup [],(clean1 (T 39))] [(0,Ob.mk true 0 (AObj.cells (R17 a o h b p k d m w e t k' d' m' w' e' t'))),(1,Ob.mk true 0 (AObj.cells [i64 0])),(2,Ob.mk true 0 (AObj.cells [i64 0])),(3,Ob.mk true 0 (AObj.cells [st s,i64 (IntKind.wrap .i64 (i + 0))]))] (4:Nat) [.ptr 0 0,.ptr 1 0,.ptr 2 0]))):=by kernel_rfl
theorem f8_vc (s:List UInt8) (i:Int) (a:List UInt8) (o:Int) (h:Bool) (b:List UInt8) (p:Int) (k:Int) (d:Int) (m:Int) (w:Int) (e:Int) (t:Int) (k':Int) (d':Int) (m':Int) (w':Int) (e':Int) (t':Int) (x:AV) (y:AV) (z:AV) (R4:List AV) (R5:List AV) (X:List AV) (Y:List AV) (Z:List AV) (W:List AV) (T:Nat→AV) (K:AX→St→Prop):evCode C5 (c8 [Dir.r,Dir.r,Dir.r,Dir.r,Dir.r,Dir.r,Dir.l]) (S8c s i (R17 a o h b p k d m w e t k' d' m' w' e' t') x y z R4 R5 X Y Z W T) K = (((i == (s.length:Int)) = true→a.length≤9223372036854775807)∧((i == (s.length:Int)) = true→b.length≤9223372036854775807)∧brn (!(i == (s.length:Int) && validRule a o h b p k d m w e t k' d' m' w' e' t')) (K (AX.panic (AV.ifc (77:Nat) (.agg [i64 i]))) (St.mk [st s,.dead,.ptr 0 0,.ptr 1 0,.ptr 2 0,.ptr 3 0,(clean1 x),(clean1 y),(clean1 z),AV.fn (34:Nat) [] [.ptr 0 0,.ptr 1 0,.ptr 2 0],(clean1 (T 10)),(clean1 (T 11)),(clean1 (T 12)),(clean1 (T 13)),(clean1 (T 14)),(clean1 (T 15)),(clean1 (T 16)),(clean1 (T 17)),(clean1 (T 18)),(clean1 (T 19)),(clean1 (T 20)),(clean1 (T 21)),(clean1 (T 22)),(clean1 (T 23)),(clean1 (T
 24)),(clean1 (T 25)),.ptr 3 0,.ptr 3 0,.ptr 3 0,.ptr 3 1,i64 i,st s,i64 (s.length:Int),bo (i == (s.length:Int)),bo (i == (s.length:Int)),.opt [((34:Nat),true)] (.agg (R17 a o h b p k d m w e t k' d' m' w' e' t')),.opt [((34:Nat),true)] (bo (validRule a o h b p k d m w e t k' d' m' w' e' t')),bo (i == (s.length:Int) && validRule a o h b p k d m w e t k' d' m' w' e' t'),(clean1 (T 38)),(clean1 (T 39))] [(0,Ob.mk true 0 (AObj.cells (R17 a o h b p k d m w e t k' d' m' w' e' t'))),(1,Ob.mk true 0 (AObj.cells [i64 0])),(2,Ob.mk true 0 (AObj.cells [i64 0])),(3,Ob.mk true 0 (AObj.cells [st s,i64 i])),(4,Ob.mk true 0 (AObj.cells R4)),(5,Ob.mk true 0 (AObj.cells R5)),(6,Ob.mk true 0 (AObj.cells X)),(7,Ob.mk true 0 (AObj.cells Y)),(8,Ob.mk true 0 (AObj.cells Z)),(9,Ob.mk true 0 (AObj.cells W))] (10:Nat) [.ptr 0 0,.ptr 1 0,.ptr 2 0])) (K AX.normal (St.mk [st s,.dead,.ptr 0 0,.ptr 1 0,.ptr 2 0,.ptr 3 0,(clean1 x),(clean1 y),(clean1 z),AV.fn (34:Nat) [] [.ptr 0 0,.ptr 1 0,.ptr 2 0],(clean1 (T 10)),(clean1 (T 11)),(clean1 (T 12)),(clean1 (T 13)),(clean1 (T 14)),(clean1 (T 15)),(clean1 (T 16)),(clean1 (T 17)),(clean1 (T
 18)),(clean1 (T 19)),(clean1 (T 20)),(clean1 (T 21)),(clean1 (T 22)),(clean1 (T 23)),(clean1 (T 24)),(clean1 (T 25)),.ptr 3 0,.ptr 3 0,.ptr 3 0,.ptr 3 1,i64 i,st s,i64 (s.length:Int),bo (i == (s.length:Int)),bo (i == (s.length:Int)),.opt [((34:Nat),true)] (.agg (R17 a o h b p k d m w e t k' d' m' w' e' t')),.opt [((34:Nat),true)] (bo (validRule a o h b p k d m w e t k' d' m' w' e' t')),bo (i == (s.length:Int) && validRule a o h b p k d m w e t k' d' m' w' e' t'),.tup [],(clean1 (T 39))] [(0,Ob.mk true 0 (AObj.cells (R17 a o h b p k d m w e t k' d' m' w' e' t'))),(1,Ob.mk true 0 (AObj.cells [i64 0])),(2,Ob.mk true 0 (AObj.cells [i64 0])),(3,Ob.mk true 0 (AObj.cells [st s,i64 (IntKind.wrap .i64 (i + 0))])),(4,Ob.mk true 0 (AObj.cells R4)),(5,Ob.mk true 0 (AObj.cells R5)),(6,Ob.mk true 0 (AObj.cells X)),(7,Ob.mk true 0 (AObj.cells Y)),(8,Ob.mk true 0 (AObj.cells Z)),(9,Ob.mk true 0 (AObj.cells W))] (10:Nat) [.ptr 0 0,.ptr 1 0,.ptr 2 0]))):=by kernel_rfl
theorem f8_z (s:List UInt8) (i:Int) (a:List UInt8) (o:Int) (h:Bool) (b:List UInt8) (p:Int) (k:Int) (d:Int) (m:Int) (w:Int) (e:Int) (t:Int) (k':Int) (d':Int) (m':Int) (w':Int) (e':Int) (t':Int) (x:AV) (y:AV) (z:AV) (T:Nat→AV) (K:AX→St→Prop):evCode C5 (c8 [Dir.r,Dir.r,Dir.r,Dir.r,Dir.r,Dir.r,Dir.r]) (S8 s i (R17 a o h b p k d m w e t k' d' m' w' e' t') x y z T) K = (K AX.ret (St.mk (lapp [st s,.dead,.ptr 0 0,.ptr 1 0,.ptr 2 0,.ptr 3 0,x,y,z,AV.fn (34:Nat) [] [.ptr 0 0,.ptr 1 0,.ptr 2 0]] (lapp (tlR T 10 39) [.agg (R17 a o h b p k d m w e t k' d' m' w' e' t')])) [(0,Ob.mk true 0 (AObj.cells (R17 a o h b p k d m w e t k' d' m' w' e' t'))),(1,Ob.mk true 0 (AObj.cells [i64 0])),(2,Ob.mk true 0 (AObj.cells [i64 0])),(3,Ob.mk true 0 (AObj.cells [st s,i64 i]))] (4:Nat) [.ptr 0 0,.ptr 1 0,.ptr 2 0])):=by kernel_rfl
theorem f8_zc (s:List UInt8) (i:Int) (a:List UInt8) (o:Int) (h:Bool) (b:List UInt8) (p:Int) (k:Int) (d:Int) (m:Int) (w:Int) (e:Int) (t:Int) (k':Int) (d':Int) (m':Int) (w':Int) (e':Int) (t':Int) (x:AV) (y:AV) (z:AV) (R4:List AV) (R5:List AV) (X:List AV) (Y:List AV) (Z:List AV) (W:List AV) (T:Nat→AV) (K:AX→St→Prop):evCode C5 (c8 [Dir.r,Dir.r,Dir.r,Dir.r,Dir.r,Dir.r,Dir.r]) (S8c s i (R17 a o h b p k d m w e t k' d' m' w' e' t') x y z R4 R5 X Y Z W T) K = (K AX.ret (St.mk (lapp [st s,.dead,.ptr 0 0,.ptr 1 0,.ptr 2 0,.ptr 3 0,x,y,z,AV.fn (34:Nat) [] [.ptr 0 0,.ptr 1 0,.ptr 2 0]] (lapp (tlR T 10 39) [.agg (R17 a o h b p k d m w e t k' d' m' w' e' t')])) [(0,Ob.mk true 0 (AObj.cells (R17 a o h b p k d m w e t k' d' m' w' e' t'))),(1,Ob.mk true 0 (AObj.cells [i64 0])),(2,Ob.mk true 0 (AObj.cells [i64 0])),(3,Ob.mk true 0 (AObj.cells [st s,i64 i])),(4,Ob.mk true 0 (AObj.cells R4)),(5,Ob.mk true 0 (AObj.cells R5)),(6,Ob.mk true 0 (AObj.cells X)),(7,Ob.mk true 0 (AObj.cells Y)),(8,Ob.mk true 0 (AObj.cells Z)),(9,Ob.mk true 0 (AObj.cells W))] (10:Nat) [.ptr 0 0,.ptr 1 0,.ptr 2 0])):=by kernel_rfl
theorem f16_n (R:List AV) (K:AX→St→Prop):evCode C16 (c16 [Dir.r]) (E16 R nilV) K = (K AX.normal (St.mk (lapp [AV.ptr (0:Nat) (0:Nat),AV.ptr (1:Nat) (0:Nat),AV.ptr (2:Nat) (0:Nat),AV.imm (IV.val Value.nilIface),AV.dead,AV.dead,AV.imm (IV.val Value.nilIface),AV.imm (IV.val Value.nilIface),bo false] (dN 10)) [((0:Nat),Ob.mk true (0:Nat) (AObj.cells R)),((1:Nat),Ob.mk true (0:Nat) (AObj.cells [i64 0])),((2:Nat),Ob.mk true (0:Nat) (AObj.cells [i64 0]))] (3:Nat) [AV.ptr (0:Nat) (0:Nat),AV.ptr (1:Nat) (0:Nat),AV.ptr (2:Nat) (0:Nat)])):=by kernel_rfl
theorem f16_s (r0:AV) (r1:AV) (r2:AV) (r3:AV) (r4:AV) (r5:AV) (r6:AV) (r7:AV) (r8:AV) (r9:AV) (r10:AV) (r11:AV) (r12:AV) (r13:AV) (r14:AV) (r15:AV) (r16:AV) (j:Int) (K:AX→St→Prop) (Z:St) (hZ:Z = St.mk [AV.ptr (0:Nat) (0:Nat),AV.ptr (1:Nat) (0:Nat),AV.ptr (2:Nat) (0:Nat),AV.ifc (77:Nat) (AV.agg [i64 j]),AV.ptr (3:Nat) (0:Nat),bo true,AV.ifc (77:Nat) (AV.agg [i64 j]),AV.ifc (77:Nat) (AV.agg [i64 j]),bo true,AV.tup [AV.agg [i64 j],bo true],AV.ifc (77:Nat) (AV.agg [i64 j]),AV.tup [AV.agg [i64 j],bo true],AV.agg [i64 j],bo true,bo true,AV.agg (R8 [] 0),AV.ptr (3:Nat) (0:Nat),i64 j,AV.dead] [((0:Nat),Ob.mk true (0:Nat) (AObj.cells (R8 [] 0))),((1:Nat),Ob.mk true (0:Nat) (AObj.cells [i64 14])),((2:Nat),Ob.mk true (0:Nat) (AObj.cells [i64 j])),((3:Nat),Ob.mk true (0:Nat) (AObj.cells [i64 j]))] (4:Nat) [AV.ptr (0:Nat) (0:Nat),AV.ptr (1:Nat) (0:Nat),AV.ptr (2:Nat) (0:Nat)]):evCode C16 (c16 [Dir.r]) (E16 [r0,r1,r2,r3,r4,r5,r6,r7,r8,r9,r10,r11,r12,r13,r14,r15,r16] (AV.ifc (77:TypeId) (AV.agg [i64 j]))) K = ((K AX.ret Z∧K AX.ret Z∧K AX.ret
 Z)∧K AX.ret Z):=by subst hZ; kernel_rfl
theorem f9_ev (a:List UInt8) (o:Int) (h:Bool) (b:List UInt8) (p k d m w e t k' d' m' w' e' t':Int) (ha:a.length≤9223372036854775807) (hb:b.length≤9223372036854775807)
  (K:List AV→Prop) (hK:K [bo (validRule a o h b p k d m w e t k' d' m' w' e' t')]):evSpec C4 Tryz.f39 [ruleAV a o h b p k d m w e t k' d' m' w' e' t'] K:=by
 rw [f9_in]
 unfold validRule at hK
 refine ⟨ha,brn_intro (fun h1=>?_) (fun h1=>brn_intro (fun h2=>?_) (fun h2=>⟨hb,?_⟩))⟩
 ·have:(P7.valid a && side o) = false:=by
   cases hx:P7.valid a <;> cases hy:side o <;> simp_all
  rw [this,Bool.false_and] at hK
  exact hK
 ·have:(P7.valid a && side o) = true:=by
   cases hx:P7.valid a <;> cases hy:side o <;> simp_all
  rw [this,Bool.true_and] at hK
  have hh:h = false:=by simpa using h2
  subst hh
  simp only [Bool.false_eq_true,if_false] at hK
  simpa [bo,Bool.and_assoc] using hK
 ·have:(P7.valid a && side o) = true:=by
   cases hx:P7.valid a <;> cases hy:side o <;> simp_all
  rw [this,Bool.true_and] at hK
  have hh:h = true:=by simpa using h2
  subst hh
  simp only [if_true] at hK
  exact hK
theorem ok9:∀ args pres res,sValidRule args = some (pres,res)→SpecOK Tryz.prog G0 39 args pres res:=by
 intro args pres res h
 unfold sValidRule at h
 split at h
 case h_2=>cases h
 cases h
 exact mk okF4 at9 (by decide) rfl (fun hp K hK=>f9_ev _ _ _ _ _ _ _ _ _ _ _ _ _ _ _ _ _ (hp _ (List.mem_cons_self ..)) (hp _ (List.mem_cons_of_mem _ (List.mem_cons_self ..))) K hK)
theorem okF5:EOK Tryz.prog F5 G0:=addE_ok okF4 ok9
structure Dv where
 k:Int
 d:Int
 m:Int
 w:Int
 e:Int
 t:Int
deriving DecidableEq
structure Ru where
 a:List UInt8
 o:Int
 h:Bool
 b:List UInt8
 p:Int
 S:Dv
 E:Dv
deriving DecidableEq
def zD:Dv:=⟨0,0,0,0,0,0⟩
def zR:Ru:=⟨[],0,false,[],0,zD,zD⟩
def Ru.cells (r:Ru):List AV:=R17 r.a r.o r.h r.b r.p r.S.k r.S.d r.S.m r.S.w r.S.e r.S.t r.E.k r.E.d r.E.m r.E.w r.E.e r.E.t
def validRu (r:Ru):Bool:=validRule r.a r.o r.h r.b r.p r.S.k r.S.d r.S.m r.S.w r.S.e r.S.t r.E.k r.E.d r.E.m r.E.w r.E.e r.E.t
def Dy.dv (x:Dy):Dv:=⟨x.k,x.d,x.m,x.w,x.e,x.t⟩
inductive Out where
 | stop (j:Nat)
 | rule (r:Ru)
deriving DecidableEq
def nameQ (s:List UInt8) (i:Nat) (F:List UInt8→Nat→Out):Out :=
 if (P7.parse (s.drop i)).2.2 then F (P7.parse (s.drop i)).1 (i + (P7.parse (s.drop i)).2.1.toNat) else .stop i
def offQ (s:List UInt8) (i:Nat) (F:Int→Nat→Out):Out :=
 if (P8.parse (s.drop i)).2.2 && side (P8.parse (s.drop i)).1 then F (0 - (P8.parse (s.drop i)).1) (i + (P8.parse (s.drop i)).2.1.toNat) else .stop i
def comma (s:List UInt8) (i:Nat):Bool:=match s.drop i with
 | b :: _=>b == 44
 | []=>false
def commaQ (s:List UInt8) (i:Nat) (F:Nat→Out):Out:=if comma s i then F (i + 1) else .stop i
def dayQ (s:List UInt8) (i:Nat) (F:Dv→Nat→Out):Out :=
 if (day (s.drop i)).ok then F (day (s.drop i)).dv (i + (day (s.drop i)).n.toNat) else .stop i
def dstOffQ (s:List UInt8) (i:Nat) (o:Int) (F:Int→Nat→Out):Out :=
 if (P8.parse (s.drop i)).2.2 then offQ s i F else F (o + 3600) i
def dstQ (s:List UInt8) (i:Nat) (a:List UInt8) (o:Int) (F:Ru→Nat→Out):Out :=
 nameQ s i fun b i=>dstOffQ s i o fun p i=>commaQ s i fun i=>dayQ s i fun S i=>commaQ s i fun i=>dayQ s i fun E i=>F ⟨a,o,true,b,p,S,E⟩ i
def endP (s:List UInt8) (r:Ru) (i:Nat):Out:=if i = s.length then (if validRu r then .rule r else .stop i) else .stop i
def stdR (a:List UInt8) (o:Int):Ru:=⟨a,o,false,[],0,zD,zD⟩
def parse9 (s:List UInt8):Out :=
 nameQ s 0 fun a i=>offQ s i fun o i=>if i < s.length then dstQ s i a o (endP s) else endP s (stdR a o) i
theorem parse7_n (s:List UInt8):∃ n:Nat,(P7.parse s).2.1 = (n:Int)∧n≤s.length∧(P7.parse s).1.length≤s.length:=by
 have hP:∀ s,∃ n:Nat,(P7.parseP s).2.1 = (n:Int)∧n≤s.length∧(P7.parseP s).1.length≤s.length:=by
  intro s
  unfold P7.parseP
  split
  ·exact ⟨P7.letters s,rfl,P7.letters_le s,by simp; omega⟩
  ·exact ⟨0,rfl,Nat.zero_le _,by simp⟩
 unfold P7.parse
 split
 ·rename_i b r
  split
  ·unfold P7.parseQ
   split
   ·rename_i hp
    split
    ·exact ⟨P7.place r 62 + 2,by simp,by simp only [List.length_cons]; omega,by simp; omega⟩
    ·exact ⟨0,rfl,Nat.zero_le _,by simp⟩
   ·exact ⟨0,rfl,Nat.zero_le _,by simp⟩
  ·exact hP _
 ·exact hP _
theorem day_n (s:List UInt8):∃ n:Nat,(day s).n = (n:Int)∧n≤s.length:=by
 obtain ⟨i,hi,hl⟩:=date_n s
 have hT:∀ (t:Int) (n:Nat) (ok:Bool),n≤s.length→∃ m:Nat,(dayT (date s) t (n:Int) ok).n = (m:Int)∧m≤s.length:=by
  intro t n ok hn
  unfold dayT
  split
  ·exact ⟨n,rfl,hn⟩
  ·exact ⟨0,rfl,Nat.zero_le _⟩
 unfold day
 split
 ·rename_i hsl
  have hlt:i < s.length:=by
   unfold slash at hsl
   simp only [Bool.and_eq_true,decide_eq_true_eq] at hsl
   omega
  obtain ⟨n,hn,hnl⟩:=parse_n (s.drop ((date s).n.toNat + 1))
  rw [hn,show ((date s).n + 1 + (n:Int)) = ((i + 1 + n:Nat):Int) by omega]
  refine hT _ _ _ ?_
  rw [List.length_drop,hi,Int.toNat_natCast] at hnl
  omega
 ·rw [hi]; exact hT _ _ _ hl
theorem side_b {n:Int} (h:side n = true):-89999≤n∧n≤89999:=by
 unfold side at h
 simpa only [Bool.and_eq_true,decide_eq_true_eq] using h
theorem comma_eq (s:List UInt8) (i:Nat):comma s i = (decide (i < s.length) && (s.getD i 0 == 44)):=by
 unfold comma
 rcases Nat.lt_or_ge i s.length with h | h
 ·rw [List.drop_eq_getElem_cons h]
  simp [h,List.getD_eq_getElem?_getD]
 ·rw [List.drop_of_length_le h]
  simp [Nat.not_lt.2 h]
end P9
set_option maxRecDepth 100000
namespace P9
open Go Go.AE Go.Proofs
attribute [local irreducible] loopK evCode evSpec loopB norm
def Ok0 (R0:List AV) (st:St):Prop:=∃ r,st.objs = (0,⟨true,0,.cells R0⟩) :: (1,⟨true,0,.cells [i64 0]⟩) :: (2,⟨true,0,.cells [i64 0]⟩) :: r
def Stops (G:Out→Prop) (R0:List AV) (OUT:List AV) (K:AX→St→Prop):Prop:=∀ (j:Nat) st,G (.stop j)→Ok0 R0 st→st.outer = OUT→K (.panic (.ifc 77 (.agg [i64 (j:Nat)]))) st
def Is19 (s:List UInt8) (j:Nat) (R0:List AV) (r:Ru) (OUT:List AV) (st':St):Prop :=
 st' = S19 s (j:Nat) R0 r.cells zRule (nth .dead st'.tmps 1) (nth .dead st'.tmps 2) OUT (fun j=>nth .dead st'.tmps j)
def cellsAt (st:St) (id:Nat):List AV:=match lookup st.objs id with
 | some ⟨_,_,.cells l⟩=>l
 | _=>[]
def Is19b (s:List UInt8) (j:Nat) (R0:List AV) (r:Ru) (OUT:List AV) (st':St):Prop :=
 st' = S19b s (j:Nat) R0 r.cells zRule (nth .dead st'.tmps 1) (nth .dead st'.tmps 2) OUT (cellsAt st' 6) (cellsAt st' 7) (fun j=>nth .dead st'.tmps j)
def Is19c (s:List UInt8) (j:Nat) (R0:List AV) (r:Ru) (OUT:List AV) (st':St):Prop :=
 st' = S19c s (j:Nat) R0 r.cells zRule (nth .dead st'.tmps 1) (nth .dead st'.tmps 2) OUT (cellsAt st' 6) (cellsAt st' 7) (cellsAt st' 8) (cellsAt st' 9) (fun j=>nth .dead st'.tmps j)
variable {s:List UInt8} {i:Nat} {G:Out→Prop} {R0 OUT:List AV} {K:AX→St→Prop} {r:Ru}
theorem w1 {F:List UInt8→Nat→Out} (hs:Stops G R0 OUT K) (hi:i≤s.length) (hl:s.length≤1000000000000000000) (ho:-89999≤r.o∧r.o≤89999) (hG:G (nameQ s i F)) (st:St) (hst:Is19 s i R0 r OUT st)
  (hk:∀ b j st',G (F b j)→i≤j→j≤s.length→b.length≤s.length→Is19 s j R0 { r with h:=true,b:=b,p:=r.o + 3600 } OUT st'→K .normal st'):evCode C4i (c19 [.r,.l]) st K:=by
 rw [hst]
 generalize nth .dead st.tmps 1 = x
 generalize nth .dead st.tmps 2 = y
 generalize (fun j=>nth .dead st.tmps j) = T
 unfold Ru.cells
 rw [d_1]
 simp only [Int.toNat_natCast,take_rest]
 obtain ⟨n,hn,hnl,hbl⟩:=parse7_n (s.drop i)
 rw [List.length_drop] at hnl hbl
 have e1:IntKind.wrap .i64 ((i:Int) + (n:Int)) = ((i + n:Nat):Int):=by rw [wrap64 (by omega) (by omega)]; omega
 have e2:IntKind.wrap .i64 (r.o + 3600) = r.o + 3600:=wrap64 (by omega) (by omega)
 simp only [hn,e1,e2]
 unfold nameQ at hG
 rw [hn,Int.toNat_natCast] at hG
 have stop:(P7.parse (s.drop i)).2.2 = false→G (.stop i):=fun h=>by rw [h] at hG; exact hG
 have go:(P7.parse (s.drop i)).2.2 = true→G (F (P7.parse (s.drop i)).1 (i + n)):=fun h=>by rw [if_pos h] at hG; exact hG
 have hdl:(s.drop i).length≤9223372036854775800:=by rw [List.length_drop]; omega
 refine ⟨⟨by omega,by omega,hdl,brn_intro (fun h=>hs i _ (stop (by simpa using h)) ⟨_,rfl⟩ rfl) (fun h=>?_)⟩,by omega,by omega,hdl,brn_intro (fun h=>hs i _ (stop (by simpa using h)) ⟨_,rfl⟩ rfl) (fun h=>?_)⟩
 ·exact hk _ (i + n) _ (go (by simpa using h)) (by omega) (by omega) (by omega) (by show _ = _; kernel_rfl)
 ·exact hk _ (i + n) _ (go (by simpa using h)) (by omega) (by omega) (by omega) (by show _ = _; kernel_rfl)
theorem w2 {F:Int→Nat→Out} (hs:Stops G R0 OUT K) (hi:i≤s.length) (hl:s.length≤1000000000000000000) (hp:r.p = r.o + 3600) (hG:G (dstOffQ s i r.o F)) (st:St) (hst:Is19 s i R0 r OUT st)
  (hk:∀ p j st',G (F p j)→i≤j→j≤s.length→Is19 s j R0 { r with p:=p } OUT st'→K .normal st'):evCode C4i (c19 [.r,.r,.l]) st K:=by
 rw [hst]
 generalize nth .dead st.tmps 1 = x
 generalize nth .dead st.tmps 2 = y
 generalize (fun j=>nth .dead st.tmps j) = T
 unfold Ru.cells
 rw [d_2 (hZ:=rfl)]
 simp only [Int.toNat_natCast,take_rest]
 obtain ⟨n,hn,hnl⟩:=parse_n (s.drop i)
 rw [List.length_drop] at hnl
 have e1:IntKind.wrap .i64 ((i:Int) + (n:Int)) = ((i + n:Nat):Int):=by rw [wrap64 (by omega) (by omega)]; omega
 simp only [hn,e1]
 unfold dstOffQ offQ at hG
 rw [hn,Int.toNat_natCast] at hG
 have hdl:((s.drop i).length:Int)≤P8.big:=by rw [List.length_drop]; simp only [P8.big]; omega
 refine ⟨by omega,by omega,hdl,brn_intro (fun h1=>⟨by omega,by omega,hdl,brn_intro (fun h2=>?_) (fun h2=>?_)⟩) (fun h1=>?_)⟩
 ·rw [if_pos h1] at hG
  refine hs i _ ?_ ⟨_,rfl⟩ rfl
  rw [if_neg (by rw [Bool.not_eq_true'] at h2; rw [h2]; decide)] at hG
  exact hG
 ·rw [if_pos h1] at hG
  have h2':((P8.parse (s.drop i)).2.2 && side (P8.parse (s.drop i)).1) = true:=by simpa using h2
  rw [if_pos h2'] at hG
  have hsd:=side_b (by rw [Bool.and_eq_true] at h2'; exact h2'.2)
  have e3:IntKind.wrap .i64 (0 - (P8.parse (s.drop i)).1) = 0 - (P8.parse (s.drop i)).1:=wrap64 (by omega) (by omega)
  simp only [e3]
  exact hk _ (i + n) _ hG (by omega) (by omega) (by show _ = _; kernel_rfl)
 ·rw [if_neg (by simpa using h1)] at hG
  have hh:{ r with p:=r.o + 3600 } = r:=by rw [← hp]
  refine hk _ i _ hG (by omega) (by omega) ?_
  rw [hh]
  show _ = _
  kernel_rfl
theorem comma_int (s:List UInt8) (i:Nat):(decide ((i:Int) < (s.length:Int)) && ((s.getD i 0).toNat:Int) == 44) = comma s i:=by
 rw [comma_eq,Bool.eq_iff_iff]
 simp only [Bool.and_eq_true,decide_eq_true_eq,beq_iff_eq]
 have:∀ b:UInt8,((b.toNat:Int) = 44↔b = 44):=fun b=>by
  constructor
  ·intro h; apply UInt8.toNat_inj.1; have:b.toNat = 44:=by omega
   simpa using this
  ·rintro rfl; rfl
 rw [this]
 constructor <;> rintro ⟨a,b⟩ <;> exact ⟨by omega,b⟩
theorem w3 {F:Nat→Out} (hs:Stops G R0 OUT K) (hi:i≤s.length) (hl:s.length≤1000000000000000000) (hG:G (commaQ s i F)) (st:St) (hst:Is19 s i R0 r OUT st)
  (hk:∀ st',G (F (i + 1))→i + 1≤s.length→Is19 s (i + 1) R0 r OUT st'→K .normal st'):evCode C4i (c19 [.r,.r,.r,.l]) st K:=by
 rw [hst]
 generalize nth .dead st.tmps 1 = x
 generalize nth .dead st.tmps 2 = y
 generalize (fun j=>nth .dead st.tmps j) = T
 unfold Ru.cells
 rw [d_3]
 simp only [Int.toNat_natCast]
 have e1:IntKind.wrap .i64 ((i:Int) + 1) = ((i + 1:Nat):Int):=by rw [wrap64 (by omega) (by omega)]; omega
 simp only [e1]
 rw [comma_int]
 unfold commaQ at hG
 refine ⟨fun _=>by omega,fun h=>by simpa using h,brn_intro (fun h=>hs i _ ?_ ⟨_,rfl⟩ rfl) (fun h=>?_)⟩
 ·rw [if_neg (by simpa using h)] at hG; exact hG
 ·have h':comma s i = true:=by simpa using h
  rw [if_pos h'] at hG
  have hlt:i < s.length:=by rw [comma_eq] at h'; simp at h'; exact h'.1
  exact hk _ hG (by omega) (by show _ = _; kernel_rfl)
theorem w4 {F:Dv→Nat→Out} (hs:Stops G R0 OUT K) (hi:i≤s.length) (hl:s.length≤1000000000000000000) (hG:G (dayQ s i F)) (st:St) (hst:Is19 s i R0 r OUT st)
  (hk:∀ S j st',G (F S j)→i≤j→j≤s.length→Is19b s j R0 { r with S:=S } OUT st'→K .normal st'):evCode C4i (c19 [.r,.r,.r,.r,.l]) st K:=by
 rw [hst]
 generalize nth .dead st.tmps 1 = x
 generalize nth .dead st.tmps 2 = y
 generalize (fun j=>nth .dead st.tmps j) = T
 unfold Ru.cells
 rw [d_4 (hD:=rfl) (hN:=rfl) (hQ:=rfl)]
 simp only [Int.toNat_natCast,take_rest]
 obtain ⟨n,hn,hnl⟩:=day_n (s.drop i)
 rw [List.length_drop] at hnl
 have e1:IntKind.wrap .i64 ((i:Int) + (n:Int)) = ((i + n:Nat):Int):=by rw [wrap64 (by omega) (by omega)]; omega
 simp only [hn,e1]
 unfold dayQ at hG
 rw [hn,Int.toNat_natCast] at hG
 have hdl:((s.drop i).length:Int)≤big - 20:=by rw [List.length_drop]; simp only [big]; omega
 have stop:(day (s.drop i)).ok = false→G (.stop i):=fun h=>by rw [h] at hG; exact hG
 have go:(day (s.drop i)).ok = true→G (F (day (s.drop i)).dv (i + n)):=fun h=>by rw [if_pos h] at hG; exact hG
 have fin:∀ (st':St),(!(day (s.drop i)).ok) = false→Is19b s (i + n) R0 { r with S:=(day (s.drop i)).dv } OUT st'→K .normal st':=fun st' h hI=>hk _ (i + n) st' (go (by simpa using h)) (by omega) (by omega) hI
 have bad:∀ st',(!(day (s.drop i)).ok) = true→Ok0 R0 st'→st'.outer = OUT→K (.panic (.ifc 77 (.agg [i64 (i:Nat)]))) st':=fun st' h h1 h2=>hs i st' (stop (by simpa using h)) h1 h2
 repeat' first | (exact brn_intro (fun h=>bad _ h ⟨_,rfl⟩ rfl) (fun h=>fin _ h (by show _ = _; kernel_rfl))) | refine And.intro ?_ ?_
 all_goals first | exact hdl | omega
theorem w5 {F:Nat→Out} (hs:Stops G R0 OUT K) (hi:i≤s.length) (hl:s.length≤1000000000000000000) (hG:G (commaQ s i F)) (st:St) (hst:Is19b s i R0 r OUT st)
  (hk:∀ st',G (F (i + 1))→i + 1≤s.length→Is19b s (i + 1) R0 r OUT st'→K .normal st'):evCode C4i (c19 [.r,.r,.r,.r,.r,.l]) st K:=by
 rw [hst]
 generalize nth .dead st.tmps 1 = x
 generalize nth .dead st.tmps 2 = y
 generalize cellsAt st 6 = X
 generalize cellsAt st 7 = Y
 generalize (fun j=>nth .dead st.tmps j) = T
 unfold Ru.cells
 rw [d_5]
 simp only [Int.toNat_natCast]
 have e1:IntKind.wrap .i64 ((i:Int) + 1) = ((i + 1:Nat):Int):=by rw [wrap64 (by omega) (by omega)]; omega
 simp only [e1]
 rw [comma_int]
 unfold commaQ at hG
 refine ⟨fun _=>by omega,fun h=>by simpa using h,brn_intro (fun h=>hs i _ ?_ ⟨_,rfl⟩ rfl) (fun h=>?_)⟩
 ·rw [if_neg (by simpa using h)] at hG; exact hG
 ·have h':comma s i = true:=by simpa using h
  rw [if_pos h'] at hG
  have hlt:i < s.length:=by rw [comma_eq] at h'; simp at h'; exact h'.1
  exact hk _ hG (by omega) (by show _ = _; kernel_rfl)
theorem w6 {F:Dv→Nat→Out} (hs:Stops G R0 OUT K) (hi:i≤s.length) (hl:s.length≤1000000000000000000) (hG:G (dayQ s i F)) (st:St) (hst:Is19b s i R0 r OUT st)
  (hk:∀ S j st',G (F S j)→i≤j→j≤s.length→Is19c s j R0 { r with E:=S } OUT st'→K .normal st'):evCode C4i (c19 [.r,.r,.r,.r,.r,.r,.l]) st K:=by
 rw [hst]
 generalize nth .dead st.tmps 1 = x
 generalize nth .dead st.tmps 2 = y
 generalize cellsAt st 6 = X
 generalize cellsAt st 7 = Y
 generalize (fun j=>nth .dead st.tmps j) = T
 unfold Ru.cells
 rw [d_6 (hD:=rfl) (hN:=rfl) (hQ:=rfl)]
 simp only [Int.toNat_natCast,take_rest]
 obtain ⟨n,hn,hnl⟩:=day_n (s.drop i)
 rw [List.length_drop] at hnl
 have e1:IntKind.wrap .i64 ((i:Int) + (n:Int)) = ((i + n:Nat):Int):=by rw [wrap64 (by omega) (by omega)]; omega
 simp only [hn,e1]
 unfold dayQ at hG
 rw [hn,Int.toNat_natCast] at hG
 have hdl:((s.drop i).length:Int)≤big - 20:=by rw [List.length_drop]; simp only [big]; omega
 have stop:(day (s.drop i)).ok = false→G (.stop i):=fun h=>by rw [h] at hG; exact hG
 have go:(day (s.drop i)).ok = true→G (F (day (s.drop i)).dv (i + n)):=fun h=>by rw [if_pos h] at hG; exact hG
 have fin:∀ (st':St),(!(day (s.drop i)).ok) = false→Is19c s (i + n) R0 { r with E:=(day (s.drop i)).dv } OUT st'→K .normal st':=fun st' h hI=>hk _ (i + n) st' (go (by simpa using h)) (by omega) (by omega) hI
 have bad:∀ st',(!(day (s.drop i)).ok) = true→Ok0 R0 st'→st'.outer = OUT→K (.panic (.ifc 77 (.agg [i64 (i:Nat)]))) st':=fun st' h h1 h2=>hs i st' (stop (by simpa using h)) h1 h2
 repeat' first | (exact brn_intro (fun h=>bad _ h ⟨_,rfl⟩ rfl) (fun h=>fin _ h (by show _ = _; kernel_rfl))) | refine And.intro ?_ ?_
 all_goals first | exact hdl | omega
end P9
set_option maxRecDepth 100000
namespace P9
open Go Go.AE Go.Proofs
attribute [local irreducible] loopK evCode evSpec loopB norm
variable {s:List UInt8} {i:Nat} {G:Out→Prop} {R0 OUT:List AV} {K:AX→St→Prop} {r:Ru}
theorem cut19_0 (st:St) (K:AX→St→Prop):evCode C4i (c19 []) st K = evCode C4i (c19 [.l]) st (fun x st=>match x with | .normal=>evCode C4i (c19 [.r]) st K | x=>K x st):=by kernel_rfl
theorem cut19_1 (st:St) (K:AX→St→Prop):evCode C4i (c19 [.r]) st K = evCode C4i (c19 [.r,.l]) st (fun x st=>match x with | .normal=>evCode C4i (c19 [.r,.r]) st K | x=>K x st):=by kernel_rfl
theorem cut19_2 (st:St) (K:AX→St→Prop):evCode C4i (c19 [.r,.r]) st K = evCode C4i (c19 [.r,.r,.l]) st (fun x st=>match x with | .normal=>evCode C4i (c19 [.r,.r,.r]) st K | x=>K x st):=by kernel_rfl
theorem cut19_3 (st:St) (K:AX→St→Prop):evCode C4i (c19 [.r,.r,.r]) st K = evCode C4i (c19 [.r,.r,.r,.l]) st (fun x st=>match x with | .normal=>evCode C4i (c19 [.r,.r,.r,.r]) st K | x=>K x st):=by kernel_rfl
theorem cut19_4 (st:St) (K:AX→St→Prop):evCode C4i (c19 [.r,.r,.r,.r]) st K = evCode C4i (c19 [.r,.r,.r,.r,.l]) st (fun x st=>match x with | .normal=>evCode C4i (c19 [.r,.r,.r,.r,.r]) st K | x=>K x st):=by kernel_rfl
theorem cut19_5 (st:St) (K:AX→St→Prop):evCode C4i (c19 [.r,.r,.r,.r,.r]) st K = evCode C4i (c19 [.r,.r,.r,.r,.r,.l]) st (fun x st=>match x with | .normal=>evCode C4i (c19 [.r,.r,.r,.r,.r,.r]) st K | x=>K x st):=by kernel_rfl
theorem cut19_6 (st:St) (K:AX→St→Prop):evCode C4i (c19 [.r,.r,.r,.r,.r,.r]) st K = evCode C4i (c19 [.r,.r,.r,.r,.r,.r,.l]) st (fun x st=>match x with | .normal=>evCode C4i (c19 [.r,.r,.r,.r,.r,.r,.r]) st K | x=>K x st):=by kernel_rfl
def E19 (s:List UInt8) (i:Nat) (R0:List AV) (r:Ru) (OUT:List AV):St:=⟨lapp [.ptr 3 0,.agg r.cells] (lrepl 43 .dead),o8 s i R0,4,OUT⟩
theorem dst19 {F:Ru→Nat→Out} (hs:Stops G R0 OUT K) (hi:i≤s.length) (hl:s.length≤1000000000000000000) (ho:-89999≤r.o∧r.o≤89999) (hG:G (dstQ s i r.a r.o F)) (hr:r.S = zD∧r.E = zD)
  (hk:∀ (b:List UInt8) p S E j st',G (F ⟨r.a,r.o,true,b,p,S,E⟩ j)→j≤s.length→b.length≤s.length→Is19c s j R0 ⟨r.a,r.o,true,b,p,S,E⟩ OUT st'→evCode C4i (c19 [.r,.r,.r,.r,.r,.r,.r]) st' K) :
  evCode C4i (bodyOf Tryz.f37) (E19 s i R0 r OUT) K:=by
 show evCode C4i (c19 []) _ K
 rw [cut19_0]
 unfold E19 Ru.cells
 show evCode C4i (c19 [.l]) (⟨lapp [.ptr 3 0,ruleAV r.a r.o r.h r.b r.p r.S.k r.S.d r.S.m r.S.w r.S.e r.S.t r.E.k r.E.d r.E.m r.E.w r.E.e r.E.t] (lrepl 43 .dead),o8 s i R0,4,OUT⟩:St) _
 rw [d_0]
 have step1:∀ st',Is19 s i R0 r OUT st'→evCode C4i (c19 [.r]) st' K:=by
  intro st' h
  rw [cut19_1]
  refine w1 ?_ hi hl ho hG st' h (fun b j st2 hG2 hij hj hb h2=>?_)
  ·exact fun j st a b c=>hs j st a b c
  rw [cut19_2]
  refine w2 (r:={ r with h:=true,b:=b,p:=r.o + 3600 }) ?_ hj hl rfl hG2 st2 h2 (fun p j3 st3 hG3 _ hj3 h3=>?_)
  ·exact fun j st a b c=>hs j st a b c
  rw [cut19_3]
  refine w3 ?_ hj3 hl hG3 st3 h3 (fun st4 hG4 hj4 h4=>?_)
  ·exact fun j st a b c=>hs j st a b c
  rw [cut19_4]
  refine w4 ?_ hj4 hl hG4 st4 h4 (fun S j5 st5 hG5 _ hj5 h5=>?_)
  ·exact fun j st a b c=>hs j st a b c
  rw [cut19_5]
  refine w5 ?_ hj5 hl hG5 st5 h5 (fun st6 hG6 hj6 h6=>?_)
  ·exact fun j st a b c=>hs j st a b c
  rw [cut19_6]
  refine w6 ?_ hj6 hl hG6 st6 h6 (fun E j7 st7 hG7 _ hj7 h7=>?_)
  ·exact fun j st a b c=>hs j st a b c
  exact hk b p S E j7 st7 hG7 hj7 hb h7
 exact step1 _ (by show _ = _; kernel_rfl)
end P9
set_option maxRecDepth 100000
namespace P9
open Go Go.AE Go.Proofs
attribute [local irreducible] loopK evCode evSpec loopB norm
variable {s:List UInt8} {i:Nat} {G:Out→Prop} {K:AX→St→Prop} {r:Ru}
def Stops8 (G:Out→Prop) (K:AX→St→Prop):Prop:=∀ (j:Nat) st,G (.stop j)→(∃ R,R.length = 17∧Ok0 R st)→st.outer = P3→K (.panic (.ifc 77 (.agg [i64 (j:Nat)]))) st
def Done8 (G:Out→Prop) (K:AX→St→Prop):Prop:=∀ (r:Ru) st,G (.rule r)→Ok0 r.cells st→st.outer = P3→nth .dead st.tmps 2 = .ptr 0 0→nth .dead st.tmps 3 = .ptr 1 0→nth .dead st.tmps 4 = .ptr 2 0→K .ret st
def Is8 (s:List UInt8) (j:Nat) (r:Ru) (st':St):Prop :=
 st' = S8 s (j:Nat) r.cells (nth .dead st'.tmps 6) (nth .dead st'.tmps 7) (nth .dead st'.tmps 8) (fun j=>nth .dead st'.tmps j)
def Is8c (s:List UInt8) (j:Nat) (r:Ru) (st':St):Prop :=
 st' = S8c s (j:Nat) r.cells (nth .dead st'.tmps 6) (nth .dead st'.tmps 7) (nth .dead st'.tmps 8) (cellsAt st' 4) (cellsAt st' 5) (cellsAt st' 6) (cellsAt st' 7) (cellsAt st' 8) (cellsAt st' 9) (fun j=>nth .dead st'.tmps j)
theorem v1 {F:List UInt8→Nat→Out} (hs:Stops8 G K) (hi:i≤s.length) (hl:s.length≤1000000000000000000) (a:List UInt8) (o:Int) (hG:G (nameQ s i F)) (st:St) (hst:Is8 s i (stdR a o) st)
  (hk:∀ b j st',G (F b j)→i≤j→j≤s.length→b.length≤s.length→Is8 s j (stdR b o) st'→K .normal st'):evCode C5 (c8 [.r,.r,.r,.l]) st K:=by
 rw [hst]
 generalize nth .dead st.tmps 6 = x
 generalize nth .dead st.tmps 7 = y
 generalize nth .dead st.tmps 8 = z
 generalize (fun j=>nth .dead st.tmps j) = T
 show evCode C5 (c8 [.r,.r,.r,.l]) (S8 s i (R8 a o) x y z T) K
 rw [f8_n]
 simp only [Int.toNat_natCast,take_rest]
 obtain ⟨n,hn,hnl,hbl⟩:=parse7_n (s.drop i)
 rw [List.length_drop] at hnl hbl
 have e1:IntKind.wrap .i64 ((i:Int) + (n:Int)) = ((i + n:Nat):Int):=by rw [wrap64 (by omega) (by omega)]; omega
 simp only [hn,e1]
 unfold nameQ at hG
 rw [hn,Int.toNat_natCast] at hG
 have stop:(P7.parse (s.drop i)).2.2 = false→G (.stop i):=fun h=>by rw [h] at hG; exact hG
 have go:(P7.parse (s.drop i)).2.2 = true→G (F (P7.parse (s.drop i)).1 (i + n)):=fun h=>by rw [if_pos h] at hG; exact hG
 have hdl:(s.drop i).length≤9223372036854775800:=by rw [List.length_drop]; omega
 refine ⟨by omega,by omega,hdl,brn_intro (fun h=>hs i _ (stop (by simpa using h)) ⟨_,rfl,_,rfl⟩ rfl) (fun h=>?_)⟩
 exact hk _ (i + n) _ (go (by simpa using h)) (by omega) (by omega) (by omega) (by show _ = _; kernel_rfl)
theorem v2 {F:Int→Nat→Out} (hs:Stops8 G K) (hi:i≤s.length) (hl:s.length≤1000000000000000000) (a:List UInt8) (o:Int) (hG:G (offQ s i F)) (st:St) (hst:Is8 s i (stdR a o) st)
  (hk:∀ p j st',G (F p j)→-89999≤p→p≤89999→i≤j→j≤s.length→Is8 s j (stdR a p) st'→K .normal st'):evCode C5 (c8 [.r,.r,.r,.r,.l]) st K:=by
 rw [hst]
 generalize nth .dead st.tmps 6 = x
 generalize nth .dead st.tmps 7 = y
 generalize nth .dead st.tmps 8 = z
 generalize (fun j=>nth .dead st.tmps j) = T
 show evCode C5 (c8 [.r,.r,.r,.r,.l]) (S8 s i (R8 a o) x y z T) K
 rw [f8_o]
 simp only [Int.toNat_natCast,take_rest]
 obtain ⟨n,hn,hnl⟩:=parse_n (s.drop i)
 rw [List.length_drop] at hnl
 have e1:IntKind.wrap .i64 ((i:Int) + (n:Int)) = ((i + n:Nat):Int):=by rw [wrap64 (by omega) (by omega)]; omega
 simp only [hn,e1]
 unfold offQ at hG
 rw [hn,Int.toNat_natCast] at hG
 have hdl:((s.drop i).length:Int)≤P8.big:=by rw [List.length_drop]; simp only [P8.big]; omega
 refine ⟨by omega,by omega,hdl,brn_intro (fun h2=>?_) (fun h2=>?_)⟩
 ·refine hs i _ ?_ ⟨_,rfl,_,rfl⟩ rfl
  rw [if_neg (by rw [Bool.not_eq_true'] at h2; rw [h2]; decide)] at hG
  exact hG
 ·have h2':((P8.parse (s.drop i)).2.2 && side (P8.parse (s.drop i)).1) = true:=by simpa using h2
  rw [if_pos h2'] at hG
  have hsd:=side_b (by rw [Bool.and_eq_true] at h2'; exact h2'.2)
  have e3:IntKind.wrap .i64 (0 - (P8.parse (s.drop i)).1) = 0 - (P8.parse (s.drop i)).1:=wrap64 (by omega) (by omega)
  simp only [e3]
  exact hk _ (i + n) _ hG (by omega) (by omega) (by omega) (by omega) (by show _ = _; kernel_rfl)
theorem cut8_3 (st:St) (K:AX→St→Prop):evCode C5 (c8 [.r,.r,.r]) st K = evCode C5 (c8 [.r,.r,.r,.l]) st (fun x st=>match x with | .normal=>evCode C5 (c8 [.r,.r,.r,.r]) st K | x=>K x st):=by kernel_rfl
theorem cut8_4 (st:St) (K:AX→St→Prop):evCode C5 (c8 [.r,.r,.r,.r]) st K = evCode C5 (c8 [.r,.r,.r,.r,.l]) st (fun x st=>match x with | .normal=>evCode C5 (c8 [.r,.r,.r,.r,.r]) st K | x=>K x st):=by kernel_rfl
theorem cut8_5 (st:St) (K:AX→St→Prop):evCode C5 (c8 [.r,.r,.r,.r,.r]) st K = evCode C5 (c8 [.r,.r,.r,.r,.r,.l]) st (fun x st=>match x with | .normal=>evCode C5 (c8 [.r,.r,.r,.r,.r,.r]) st K | x=>K x st):=by kernel_rfl
theorem cut8_6 (st:St) (K:AX→St→Prop):evCode C5 (c8 [.r,.r,.r,.r,.r,.r]) st K = evCode C5 (c8 [.r,.r,.r,.r,.r,.r,.l]) st (fun x st=>match x with | .normal=>evCode C5 (c8 [.r,.r,.r,.r,.r,.r,.r]) st K | x=>K x st):=by kernel_rfl
def opsOf:Code→Array Oper
 | .region _ ops _=>ops
 | _=>#[]
noncomputable def ops6:Array Oper:=opsOf (c8 [.r,.r,.r,.r,.r,.l,.r,.l])
noncomputable def k6 (k:AX→St→Prop):List AV→St→Prop:=fun vs st'=>evOps C5 false ops6 (fun v st=>k (.panic v) st) (ldrop 3 ops6.toList) [] (st'.put (some 25) (resAV vs)) (fun st=>k .normal st)
def T6 (r:Ru) (T:Nat→AV):Nat→AV:=fun j=>bif Nat.beq j 23 then .ptr 3 0 else bif Nat.beq j 24 then .agg r.cells else T j
theorem f8_dg (call:FuncId→List AV→St→(AV→St→Prop)→(AV→St→Prop)→Prop) (s:List UInt8) (i:Int) (r:Ru) (x y z:AV) (T:Nat→AV) (k:AX→St→Prop):evCode ⟨Tryz.prog,F5,call,G0,0⟩ (c8 [.r,.r,.r,.r,.r,.l,.r,.l]) (S8 s i r.cells x y z T) k =
  call 37 [.ptr 3 0,.agg r.cells] (S8 s i r.cells x y z (T6 r T)) (fun v st'=>evOps ⟨Tryz.prog,F5,call,G0,0⟩ false ops6 (fun v st=>k (.panic v) st) (ldrop 3 ops6.toList) [] (st'.put (some 25) v) (fun st=>k .normal st)) (fun v st'=>k (.panic v) st'):=by kernel_rfl
theorem inl36 (args:List AV) (st:St) (k:AV→St→Prop) (kp:AV→St→Prop):inl inlF Tryz.prog F5 G0 0 4 37 args st k kp = evFunc C4i Tryz.f37 args st (fun vs st'=>k (resAV vs) st') kp:=by
 show (match inlF 37 with | some fn=>evFunc C4i fn args st (fun vs st'=>k (resAV vs) st') kp | none=>False) = _
 have:inlF 37 = some Tryz.f37:=rfl
 rw [this]
theorem f8_d (s:List UInt8) (i:Int) (r:Ru) (x y z:AV) (T:Nat→AV) (k:AX→St→Prop):evCode C5 (c8 [.r,.r,.r,.r,.r,.l,.r,.l]) (S8 s i r.cells x y z T) k =
  evFunc C4i Tryz.f37 [.ptr 3 0,.agg r.cells] (S8 s i r.cells x y z (T6 r T)) (k6 k) (fun v st'=>k (.panic v) st'):=(f8_dg _ s i r x y z T k).trans (inl36 ..)
theorem k6_ev (s:List UInt8) (i:Int) (r r':Ru) (x y z:AV) (R4 R5 X Y Z W:List AV) (T:Nat→AV) (k:AX→St→Prop):k6 k [.agg r'.cells] (S8c s i r.cells x y z R4 R5 X Y Z W T) =
  k .normal (S8c s i r'.cells x y z R4 R5 X Y Z W (fun j=>bif Nat.beq j 25 then .agg r'.cells else T j)):=by kernel_rfl
theorem cond8 (s:List UInt8) (i:Int) (r:Ru) (x y z:AV) (T:Nat→AV) (K:AX→St→Prop):evCode C5 (c8 [.r,.r,.r,.r,.r,.l]) (S8 s i r.cells x y z T) K = brn (decide (i < (s.length:Int))) (evCode C5 (c8 [.r,.r,.r,.r,.r,.l,.r,.l]) (S8 s i r.cells x y z (fun j=>bif Nat.ble 16 j then (bif Nat.ble j 22 then nth .dead [.ptr 3 0,.ptr 3 0,.ptr 3 1,i64 i,st s,i64 s.length,bo (decide (i < (s.length:Int)))] (j - 16) else T j) else T j)) K) (K .normal (S8 s i r.cells x y z (fun j=>bif Nat.ble 16 j then (bif Nat.ble j 22 then nth .dead [.ptr 3 0,.ptr 3 0,.ptr 3 1,i64 i,st s,i64 s.length,bo (decide (i < (s.length:Int)))] (j - 16) else T j) else T j))):=by kernel_rfl
end P9
set_option maxRecDepth 100000
namespace P9
open Go Go.AE Go.Proofs
attribute [local irreducible] loopK evCode evSpec loopB norm k6 evFunc
variable {s:List UInt8} {i:Nat} {G:Out→Prop} {K:AX→St→Prop} {r:Ru}
theorem endW (hs:Stops8 G K) (hd:Done8 G K) (hi:i≤s.length) (hl:s.length≤1000000000000000000) (ha:r.a.length≤s.length) (hb:r.b.length≤s.length) (hG:G (endP s r i)) (st:St) (hst:Is8 s i r st) :
  evCode C5 (c8 [.r,.r,.r,.r,.r,.r]) st K:=by
 rw [hst,cut8_6]
 generalize nth .dead st.tmps 6 = x
 generalize nth .dead st.tmps 7 = y
 generalize nth .dead st.tmps 8 = z
 generalize (fun j=>nth .dead st.tmps j) = T
 have fin:∀ st',G (.rule r)→Is8 s i r st'→evCode C5 (c8 [.r,.r,.r,.r,.r,.r,.r]) st' K:=by
  intro st' h hst'
  rw [hst']
  generalize nth .dead st'.tmps 6 = x
  generalize nth .dead st'.tmps 7 = y
  generalize nth .dead st'.tmps 8 = z
  generalize (fun j=>nth .dead st'.tmps j) = T
  unfold Ru.cells
  rw [f8_z]
  exact hd r _ h ⟨_,rfl⟩ rfl rfl rfl rfl
 unfold Ru.cells
 rw [f8_v]
 have e1:IntKind.wrap .i64 ((i:Int) + 0) = (i:Int):=by rw [wrap64 (by omega) (by omega)]; omega
 simp only [e1]
 unfold endP at hG
 refine ⟨fun _=>by omega,fun _=>by omega,brn_intro (fun h=>hs i _ ?_ ⟨_,rfl,_,rfl⟩ rfl) (fun h=>?_)⟩
 ·have h':¬ (i = s.length∧validRu r = true):=by
   rintro ⟨h1,h2⟩
   unfold validRu at h2
   rw [h2,Bool.and_true] at h
   simp [h1] at h
  by_cases h1:i = s.length
  ·rw [if_pos h1,if_neg (fun h2=>h' ⟨h1,h2⟩)] at hG; exact hG
  ·rw [if_neg h1] at hG; exact hG
 ·have h2:(((i:Int) == (s.length:Int)) && validRu r) = true:=by
   unfold validRu
   rw [Bool.not_eq_false'] at h
   exact h
  rw [Bool.and_eq_true,beq_iff_eq] at h2
  rw [if_pos (by omega),if_pos h2.2] at hG
  exact fin _ hG (by show _ = _; kernel_rfl)
theorem endWc (hs:Stops8 G K) (hd:Done8 G K) (hi:i≤s.length) (hl:s.length≤1000000000000000000) (ha:r.a.length≤s.length) (hb:r.b.length≤s.length) (hG:G (endP s r i)) (st:St) (hst:Is8c s i r st) :
  evCode C5 (c8 [.r,.r,.r,.r,.r,.r]) st K:=by
 rw [hst,cut8_6]
 generalize nth .dead st.tmps 6 = x
 generalize nth .dead st.tmps 7 = y
 generalize nth .dead st.tmps 8 = z
 generalize cellsAt st 4 = R4
 generalize cellsAt st 5 = R5
 generalize cellsAt st 6 = X
 generalize cellsAt st 7 = Y
 generalize cellsAt st 8 = Z
 generalize cellsAt st 9 = W
 generalize (fun j=>nth .dead st.tmps j) = T
 have fin:∀ st',G (.rule r)→Is8c s i r st'→evCode C5 (c8 [.r,.r,.r,.r,.r,.r,.r]) st' K:=by
  intro st' h hst'
  rw [hst']
  generalize nth .dead st'.tmps 6 = x
  generalize nth .dead st'.tmps 7 = y
  generalize nth .dead st'.tmps 8 = z
  generalize cellsAt st' 4 = R4
  generalize cellsAt st' 5 = R5
  generalize cellsAt st' 6 = X
  generalize cellsAt st' 7 = Y
  generalize cellsAt st' 8 = Z
  generalize cellsAt st' 9 = W
  generalize (fun j=>nth .dead st'.tmps j) = T
  unfold Ru.cells
  rw [f8_zc]
  exact hd r _ h ⟨_,rfl⟩ rfl rfl rfl rfl
 unfold Ru.cells
 rw [f8_vc]
 have e1:IntKind.wrap .i64 ((i:Int) + 0) = (i:Int):=by rw [wrap64 (by omega) (by omega)]; omega
 simp only [e1]
 unfold endP at hG
 refine ⟨fun _=>by omega,fun _=>by omega,brn_intro (fun h=>hs i _ ?_ ⟨_,rfl,_,rfl⟩ rfl) (fun h=>?_)⟩
 ·have h':¬ (i = s.length∧validRu r = true):=by
   rintro ⟨h1,h2⟩
   unfold validRu at h2
   rw [h2,Bool.and_true] at h
   simp [h1] at h
  by_cases h1:i = s.length
  ·rw [if_pos h1,if_neg (fun h2=>h' ⟨h1,h2⟩)] at hG; exact hG
  ·rw [if_neg h1] at hG; exact hG
 ·have h2:(((i:Int) == (s.length:Int)) && validRu r) = true:=by
   unfold validRu
   rw [Bool.not_eq_false'] at h
   exact h
  rw [Bool.and_eq_true,beq_iff_eq] at h2
  rw [if_pos (by omega),if_pos h2.2] at hG
  exact fin _ hG (by show _ = _; kernel_rfl)
def kf19 (n:Nat) (k:List AV→St→Prop) (kp:AV→St→Prop):AX→St→Prop:=fun x st1=>match x with
 | .normal=>match resOf Tryz.prog st1 Tryz.f37.results.toList with
  | some vs=>k vs (leave n st1)
  | none=>False
 | .ret=>match resOf Tryz.prog st1 Tryz.f37.results.toList with
  | some vs=>k vs (leave n st1)
  | none=>False
 | .panic v=>kp v (leave n st1)
 | .exit _=>False
def O8 (s:List UInt8) (i:Nat) (r:Ru) (x y z:AV) (T:Nat→AV):List AV:=lapp (S8 s i r.cells x y z T).tmps P3
theorem in19 (s:List UInt8) (i:Nat) (r:Ru) (x y z:AV) (T:Nat→AV) (k:List AV→St→Prop) (kp:AV→St→Prop):evFunc C4i Tryz.f37 [.ptr 3 0,.agg r.cells] (S8 s i r.cells x y z T) k kp =
  evCode C4i (bodyOf Tryz.f37) (E19 s i r.cells r (O8 s i r x y z T)) (kf19 40 k kp):=by kernel_rfl
theorem out19 (s:List UInt8) (i j:Nat) (r r':Ru) (x y z u v:AV) (X Y Z W:List AV) (T t:Nat→AV) (k:List AV→St→Prop) (kp:AV→St→Prop):kf19 40 k kp .ret ⟨lapp [.ptr 3 0,u,v,.ptr 4 0,.ptr 5 0] (lmap t (ldrop 5 (upto 45 []))),lapp (o8 s j r.cells) [(4,⟨true,0,.cells r'.cells⟩),(5,⟨true,0,.cells r'.cells⟩),(6,⟨true,0,.cells X⟩),(7,⟨true,0,.cells Y⟩),(8,⟨true,0,.cells Z⟩),(9,⟨true,0,.cells W⟩)],10,O8 s i r x y z T⟩ = k [.agg r'.cells] (S8c s j r.cells x y z r'.cells r'.cells X Y Z W T):=by kernel_rfl
end P9
set_option maxRecDepth 100000
namespace P9
open Go Go.AE Go.Proofs
attribute [local irreducible] loopK evCode evSpec loopB norm k6 evFunc
variable {s:List UInt8} {i:Nat} {G:Out→Prop} {K:AX→St→Prop} {r:Ru}
theorem out19' (s:List UInt8) (i j:Nat) (r r':Ru) (x y z:AV) (T:Nat→AV) (k:List AV→St→Prop) (kp:AV→St→Prop) (st2:St)
  (hst:st2 = ⟨lapp [.ptr 3 0,nth .dead st2.tmps 1,nth .dead st2.tmps 2,.ptr 4 0,.ptr 5 0] (lmap (fun j=>nth .dead st2.tmps j) (ldrop 5 (upto 45 []))),lapp (o8 s j r.cells) [(4,⟨true,0,.cells r'.cells⟩),(5,⟨true,0,.cells r'.cells⟩),(6,⟨true,0,.cells (cellsAt st2 6)⟩),(7,⟨true,0,.cells (cellsAt st2 7)⟩),(8,⟨true,0,.cells (cellsAt st2 8)⟩),(9,⟨true,0,.cells (cellsAt st2 9)⟩)],10,O8 s i r x y z T⟩)
  (hk:∀ X Y Z W,k [.agg r'.cells] (S8c s j r.cells x y z r'.cells r'.cells X Y Z W T)):kf19 40 k kp .ret st2:=by
 rw [hst,out19]
 exact hk _ _ _ _
theorem dst8 (hs:Stops8 G K) (hi:i≤s.length) (hl:s.length≤1000000000000000000) (ho:-89999≤r.o∧r.o≤89999) (hr:r.S = zD∧r.E = zD) {F:Ru→Nat→Out} (hG:G (dstQ s i r.a r.o F)) (x y z:AV) (T:Nat→AV)
  (hk:∀ (b:List UInt8) p S E j st',G (F ⟨r.a,r.o,true,b,p,S,E⟩ j)→j≤s.length→b.length≤s.length→Is8c s j ⟨r.a,r.o,true,b,p,S,E⟩ st'→K .normal st') :
  evCode C5 (c8 [.r,.r,.r,.r,.r,.l,.r,.l]) (S8 s i r.cells x y z T) K:=by
 rw [f8_d,in19]
 generalize T6 r T = T
 refine dst19 (R0:=r.cells) ?_ hi hl ho hG hr (fun b p S E j st' hG' hj hb h=>?_)
 ·intro j st g ok out
  obtain ⟨w,hw⟩:=ok
  exact hs j (leave 40 st) g ⟨r.cells,rfl,w,hw⟩ (by show ldrop 40 st.outer = P3; rw [out]; rfl)
 ·rw [h]
  generalize nth .dead st'.tmps 1 = u
  generalize nth .dead st'.tmps 2 = v
  generalize cellsAt st' 6 = X
  generalize cellsAt st' 7 = Y
  generalize cellsAt st' 8 = Z
  generalize cellsAt st' 9 = W
  generalize (fun j=>nth .dead st'.tmps j) = t
  show evCode C4i _ (S19c s j r.cells (R17 r.a r.o true b p S.k S.d S.m S.w S.e S.t E.k E.d E.m E.w E.e E.t) zRule u v (O8 s i r x y z T) X Y Z W t) _
  rw [d_7]
  refine out19' s i j r ⟨r.a,r.o,true,b,p,S,E⟩ x y z T (k6 K) _ _ (by show _ = _; kernel_rfl) (fun X Y Z W=>?_)
  rw [k6_ev]
  exact hk b p S E j _ hG' hj hb (by show _ = _; kernel_rfl)
theorem walk8 (hs:Stops8 G K) (hd:Done8 G K) (hl:s.length≤1000000000000000000) (hG:G (parse9 s)) (st:St) (hst:Is8 s 0 (stdR [] 0) st):evCode C5 (c8 [.r,.r,.r]) st K:=by
 rw [cut8_3]
 refine v1 ?_ (Nat.zero_le _) hl [] 0 hG st hst (fun a j1 st1 hG1 _ hj1 hla h1=>?_)
 ·exact fun j st a b c=>hs j st a b c
 show evCode C5 (c8 [.r,.r,.r,.r]) st1 K
 rw [cut8_4]
 refine v2 ?_ hj1 hl a 0 hG1 st1 h1 (fun o j2 st2 hG2 ho1 ho2 _ hj2 h2=>?_)
 ·exact fun j st a b c=>hs j st a b c
 show evCode C5 (c8 [.r,.r,.r,.r,.r]) st2 K
 rw [cut8_5,h2]
 generalize nth .dead st2.tmps 6 = x
 generalize nth .dead st2.tmps 7 = y
 generalize nth .dead st2.tmps 8 = z
 generalize (fun j=>nth .dead st2.tmps j) = T
 rw [cond8]
 generalize (fun j=>bif Nat.ble 16 j then (bif Nat.ble j 22 then nth .dead [.ptr 3 0,.ptr 3 0,.ptr 3 1,i64 j2,P9.st s,i64 s.length,bo (decide ((j2:Int) < (s.length:Int)))] (j - 16) else T j) else T j) = T'
 refine brn_intro (fun h=>?_) (fun h=>?_)
 ·have h':j2 < s.length:=by simpa using h
  rw [if_pos h'] at hG2
  refine dst8 (r:=stdR a o) ?_ hj2 hl ⟨ho1,ho2⟩ ⟨rfl,rfl⟩ hG2 x y z T' (fun b p S E j3 st3 hG3 hj3 hlb h3=>?_)
  ·exact fun j st a b c=>hs j st a b c
  exact endWc hs hd hj3 hl hla hlb hG3 st3 h3
 ·have h':¬ j2 < s.length:=by simpa using h
  rw [if_neg h'] at hG2
  show evCode C5 (c8 [.r,.r,.r,.r,.r,.r]) _ K
  exact endW hs hd hj2 hl hla (Nat.zero_le _) hG2 _ (by show _ = _; kernel_rfl)
end P9
set_option maxRecDepth 100000
namespace P9
open Go Go.AE Go.Proofs
attribute [local irreducible] loopK evCode evSpec loopB norm k6 evFunc
def three (R:List AV) (why n:Int):List (Nat×Ob):=[(0,⟨true,0,.cells R⟩),(1,⟨true,0,.cells [i64 why]⟩),(2,⟨true,0,.cells [i64 n]⟩)]
def Less (R R':List AV):Prop:=R'.length = R.length∧∀ (j:Nat) v,R'[j]? = some v→v = .dead∨(R[j]? = some v∧∃ x,v = .imm x)
theorem Less.imms {R:List AV} (h:∀ v,v ∈ R→∃ x,v = .imm x):Less R R:=⟨rfl,fun j v hv=>.inr ⟨hv,h v (List.mem_of_getElem? hv)⟩⟩
theorem gok_less {G:Nat→Option (List AV)} {w:World} {own own':Nat→Prop} (ho:∀ b,own' b→own b) (hk:GOK G w own):GOK G w own':=by
 intro n l hG
 obtain ⟨h1,c,T,fr,h2,h3,h4,h5⟩:=hk n l hG
 refine ⟨fun h=>h1 (ho n h),c,T,fr,h2,h3,fun j u hu=>?_,h5⟩
 have:=h4 j u hu
 unfold GRep at this ⊢
 split at this
 ·exact Rep.mono (Nat.le_refl _) (fun b _ h=>ho b h) (fun _ _ _=>rfl) this
 ·exact this
 ·exact this
theorem forget {b0:Nat} {w0:World} {R R':List AV} {why n:Int} {rest:List (Nat×Ob)} {next:Nat} {g:Gh} (hM:Mem G0 b0 w0 (three R why n ++ rest) next g) (hR:Less R R') :
  Mem G0 b0 w0 (three R' why n) 3 { g with objs:=three R' why n }∧(∀ x V,ARep g (.imm x) V→ARep { g with objs:=three R' why n } (.imm x) V) ∧
  ∀ id V,id < 3→ARep g (.ptr id 0) V→ARep { g with objs:=three R' why n } (.ptr id 0) V:=by
 have hsame:∀ {id},id < 3→(lookup g.objs id).isSome = true:=fun {id} h=>by
  rw [hM.same]
  match id,h with
  | 0,_=>rfl
  | 1,_=>rfl
  | 2,_=>rfl
 have hid:∀ {id},(lookup (three R' why n) id).isSome = true→id < 3:=fun {id} h=>by
  match id with
  | 0=>decide
  | 1=>decide
  | 2=>decide
  | m + 3 =>
   have:lookup (three R' why n) (m + 3) = none:=rfl
   rw [this] at h; cases h
 have hls:∀ {id},(lookup (three R' why n) id).isSome = true→(lookup g.objs id).isSome = true:=fun {id} h=>hsame (hid h)
 have hown:∀ b,({ g with objs:=three R' why n }:Gh).own b→g.own b:=fun b h=>by
  rcases h with h | ⟨id,h1,h2,h3⟩
  ·exact .inl h
  ·exact .inr ⟨id,hls h1,h2,h3⟩
 have himm:∀ x V,ARep g (.imm x) V→ARep { g with objs:=three R' why n } (.imm x) V:=fun x V h=>.imm (h.imm_inv.mono (Nat.le_refl _) (fun b _ h=>hown b h) (fun _ _ _=>rfl))
 refine ⟨⟨rfl,fun id ob h=>?_,fun id id' b h1 h2=>hM.uniq id id' b (hls h1) (hls h2),fun id h=>?_,hM.below,hM.size,fun b h=>⟨(hM.basel b h).1,fun id h1=>(hM.basel b h).2 id (hls h1)⟩,fun id b h1=>hM.above id b (hls h1),gok_less hown hM.glob⟩,himm,fun id V hi h=>?_⟩
 ·have hlt:=hid (by rw [h]; rfl:(lookup (three R' why n) id).isSome = true)
  have one:∀ (id:Nat) (l l':List AV),lookup g.objs id = some ⟨true,0,.cells l⟩→Less l l'→ObRep { g with objs:=three R' why n } (g.ex id) (g.ρ id) ⟨true,0,.cells l'⟩:=by
   intro id l l' hl hless
   have:=hM.each id _ hl
   generalize g.ρ id = P at this ⊢
   generalize g.ex id = e at this ⊢
   cases this with
   | @cells _ _ b _ c T fr h1 h2 h3 h4 h5 h6 =>
    refine .cells h1 h2 h3 (by rw [h4,hless.1]) (fun j v hv=>?_) h6 (.inl rfl)
    rcases hless.2 j v hv with rfl | ⟨hv',x,rfl⟩
    ·exact .dead
    ·exact himm x _ (h5 j _ hv')
  match id,hlt with
  | 0,_=>cases h; exact one 0 R R' (by rw [hM.same]; rfl) hR
  | 1,_=>cases h; exact one 1 [i64 why] [i64 why] (by rw [hM.same]; rfl) (.imms (fun v hv=>by rw [List.mem_singleton.1 hv]; exact ⟨_,rfl⟩))
  | 2,_=>cases h; exact one 2 [i64 n] [i64 n] (by rw [hM.same]; rfl) (.imms (fun v hv=>by rw [List.mem_singleton.1 hv]; exact ⟨_,rfl⟩))
 ·match id,h with
  | id + 3,_=>rfl
 ·cases h with
  | @ptr _ _ b ob h1 h2 =>
   have:∃ ob,lookup (three R' why n) id = some ob:=by
    match id,hi with
    | 0,_=>exact ⟨_,rfl⟩
    | 1,_=>exact ⟨_,rfl⟩
    | 2,_=>exact ⟨_,rfl⟩
   obtain ⟨ob',ho⟩:=this
   exact .ptr ho h2
theorem at16:Tryz.prog.funcs[34]? = some Tryz.f34:=by kernel_rfl
def K16 (Rf:List AV) (why n:Int):AX→St→Prop:=fun x st=>(x = .normal∨x = .ret)∧st.outer = P3∧∃ rest,st.objs = three Rf why n ++ rest
theorem n16 (R:List AV):evCode C16 (c16 [.r]) (E16 R nilV) (K16 R 0 0):=by
 rw [f16_n]
 exact ⟨.inl rfl,rfl,[],rfl⟩
theorem s16 (j:Int):evCode C16 (c16 [.r]) (E16 (lrepl 17 .dead) (.ifc 77 (.agg [i64 j]))) (K16 zRule 14 j):=by
 show evCode C16 (c16 [.r]) (E16 [.dead,.dead,.dead,.dead,.dead,.dead,.dead,.dead,.dead,.dead,.dead,.dead,.dead,.dead,.dead,.dead,.dead] (.ifc 77 (.agg [i64 j]))) _
 rw [f16_s (hZ:=rfl)]
 repeat' first | exact ⟨.inr rfl,rfl,_,rfl⟩ | refine And.intro ?_ ?_
theorem body16:Tryz.f34.body = some (.seq (c16 [.l]) (c16 [.r])):=by kernel_rfl
theorem op16:∃ oa ob id,c16 [.l] = .region id #[oa,ob] false∧oa.op = .call ⟨.builtin .recover,#[],#[]⟩∧oa.guard = none∧oa.dst = some 6∧ob.op = .assign (.tmp 6)∧ob.guard = none∧ob.dst = some 3 :=
 ⟨_,_,_,rfl,rfl,rfl,rfl,rfl,rfl,rfl⟩
theorem run_recover {o:Oper} (ho:o.op = .call ⟨.builtin .recover,#[],#[]⟩) (ρ:Operand→Value) (w:World):(execOp ρ o).run Tryz.prog w = .ok .recover w:=by
 simp [execOp,ho,resolve,invoke,builtin,Sem.run_bind,Sem.run_pure]
theorem run_assign {o:Oper} {x:Operand} (ho:o.op = .assign x) (ρ:Operand→Value) (w:World):(execOp ρ o).run Tryz.prog w = .ok (.value (ρ x)) w:=by
 simp [execOp,ho,Sem.run_pure]
noncomputable def act16 (V0 V1 V2 XV:Value):Act:=(({ tmps:=#[V0,V1,V2] ++ Array.replicate (Tryz.f34.ntmps - 3) undef,defers:=[] }:Act).put (some 6) XV).put (some 3) XV
theorem act16_eq (V0 V1 V2 XV:Value):(act16 V0 V1 V2 XV).tmps = #[V0,V1,V2,XV,undef,undef,XV,undef,undef,undef,undef,undef,undef,undef,undef,undef,undef,undef,undef]:=by kernel_rfl
theorem tr16 {g:Gh} {R0:List AV} {X:AV} {V0 V1 V2 XV:Value} (h0:ARep g (.ptr 0 0) V0) (h1:ARep g (.ptr 1 0) V1) (h2:ARep g (.ptr 2 0) V2) (hX:ARep g X XV):TmpsRep g (E16 R0 X).tmps (act16 V0 V1 V2 XV):=by
 unfold TmpsRep
 rw [act16_eq]
 refine ⟨rfl,fun t=>?_⟩
 match t with
 | 0=>exact h0
 | 1=>exact h1
 | 2=>exact h2
 | 3=>exact hX
 | 4=>exact .dead
 | 5=>exact .dead
 | 6=>exact hX
 | 7=>exact .dead
 | 8=>exact .dead
 | 9=>exact .dead
 | 10=>exact .dead
 | 11=>exact .dead
 | 12=>exact .dead
 | 13=>exact .dead
 | 14=>exact .dead
 | 15=>exact .dead
 | 16=>exact .dead
 | 17=>exact .dead
 | 18=>exact .dead
 | t + 19=>exact .dead
def Closed16 (b0:Nat) (w0:World) (g:Gh) (Rf:List AV) (why n:Int) (V0 V1 V2:Value) (w':World):Prop :=
 ∃ (g':Gh) (st':St),g'.w = w'∧g'.base = g.base∧Mem G0 b0 w0 st'.objs st'.next g'∧(∃ rest,st'.objs = three Rf why n ++ rest)∧ARep g' (.ptr 0 0) V0∧ARep g' (.ptr 1 0) V1∧ARep g' (.ptr 2 0) V2
theorem ev6 (V0 V1 V2 X:Value):(({ tmps:=#[V0,V1,V2] ++ Array.replicate (Tryz.f34.ntmps - 3) undef,defers:=[] }:Act).put (some 6) X).eval (.tmp 6) = X:=by kernel_rfl
theorem close16 {b0:Nat} {w0:World} {g:Gh} {R0 Rf:List AV} {X:AV} {why n:Int} {V0 V1 V2 XV:Value} {u u':FrameMode} (hev:evCode C16 (c16 [.r]) (E16 R0 X) (K16 Rf why n))
  (hM:Mem G0 b0 w0 (three R0 0 0) 3 g) (h0:ARep g (.ptr 0 0) V0) (h1:ARep g (.ptr 1 0) V1) (h2:ARep g (.ptr 2 0) V2) (hX:ARep g X XV)
  (hrec:∀ (c0:Frame) cs,c0.mode = u→(recoverD (c0 :: cs) = some (XV,{ c0 with mode:=u' } :: cs)∨(recoverD (c0 :: cs) = none∧XV = .nilIface∧u' = u))) :
  CallsD Tryz.prog 34 #[V0,V1,V2] u g.w (fun e v w'=>v = u'∧e = .returned (.tuple #[])∧Closed16 b0 w0 g Rf why n V0 V1 V2 w'):=by
 refine callsD_of_wpS at16 body16 (fun c0 cs hu=>?_)
 refine wpS_seq ?_
 obtain ⟨oa,ob,id,e,a1,a2,a3,b1,b2,b3⟩:=op16
 rw [e]
 refine wpS_region ?_
 have key:∀ cs',cs' = { c0 with mode:=u' } :: cs→(c16 [.r]).wpS Tryz.prog (bodyPostS Tryz.prog Tryz.f34 c0 cs (fun e v w'=>v = u'∧e = .returned (.tuple #[])∧Closed16 b0 w0 g Rf why n V0 V1 V2 w'))
   (act16 V0 V1 V2 XV) cs' g.w:=by
  intro cs' hcs
  refine wpS_of_wp ?_
  have hT:=tr16 (V0:=V0) (V1:=V1) (V2:=V2) (XV:=XV) (R0:=R0) h0 h1 h2 hX
  refine evCode_sound (T:=[]) (C:=C16) noE_ok noCall_ok (c16 [.r]) (noWC_nil _) (E16 R0 X) g _ _ _ hev hM hT (fun x st1 g1 a1 hk hM1 hO1 hK1=>?_)
  obtain ⟨hx,hout,hobjs⟩:=hk
  have hd:a1.defers = []:=hK1.1.1
  have img:=hO1.outer.2
  rw [hout] at img
  have fin:∃ v,v = u'∧cs' = { c0 with mode:=v } :: cs∧∃ r,(results Tryz.f34 a1.tmps).run Tryz.prog g1.w = .ok r g1.w∧(v = u'∧Ending.returned r = .returned (.tuple #[])∧Closed16 b0 w0 g Rf why n V0 V1 V2 g1.w):=by
   refine ⟨u',rfl,hcs,.tuple #[],?_,rfl,rfl,g1,st1,rfl,hO1.base,hM1,hobjs,(img 0).1 _ h0,(img 1).1 _ h1,(img 2).1 _ h2⟩
   exact results_eq Tryz.f34 _ _ _ [] rfl
  obtain ⟨v,rfl,f1,r,f2,f3⟩:=fin
  rcases hx with rfl | rfl
  ·exact fun _=>⟨hd,v,f1,r,f2,f3⟩
  ·exact fun _=>⟨hd,v,f1,r,f2,f3⟩
 have hw:∀ (o:Oper) f,o.guard = none→Region.wanted o f = true:=fun o f h=>wanted_none h f
 have e3:(#[V0,V1,V2]:Array Value).size = 3:=rfl
 rw [e3]
 unfold act16 at key
 have h6:=ev6 V0 V1 V2
 generalize ({ tmps:=#[V0,V1,V2] ++ Array.replicate (Tryz.f34.ntmps - 3) undef,defers:=[] }:Act) = A at key h6 ⊢
 generalize bodyPostS Tryz.prog Tryz.f34 c0 cs _ = Q at key ⊢
 rw [show List.range (#[oa,ob]:Array Oper).size = [0,1] from rfl]
 simp only [wpOpsS,List.getElem?_toArray,List.getElem?_cons_zero,List.getElem?_cons_succ,hw oa _ a2,hw ob _ b2,if_true,run_recover a1,run_assign b1,a3,b3]
 rcases hrec c0 cs hu with hr | ⟨hr,rfl,rfl⟩
 ·rw [hr]
  simp only [Oper.upon,b3]
  rw [h6]
  exact key _ rfl
 ·rw [hr]
  simp only [Oper.upon,b3]
  rw [h6]
  exact key _ (by rw [← hu])
def res9:Out→List AV
 | .stop j=>[.agg zR.cells,i64 14,i64 j]
 | .rule r=>[.agg r.cells,i64 0,i64 0]
def sParse9:List AV→Option (List Prop×List AV)
 | [.imm (.str s)]=>some ([(s.length:Int)≤1000000000000000000],res9 (parse9 s))
 | _=>none
theorem run_enter {P:Program} {f:FuncId} {fn:Func} {c:Code} (hf:P.funcs[f]? = some fn) (hname:(fn.name == "runtime.NumGoroutine") = false) (hb:fn.body = some c) (bs:Array Value) (w:World) :
  (invoke (.fn (.func f) bs) #[]).run P w = .ok (.enter f bs) w:=by
 have h1:fn.name ≠ "runtime.NumGoroutine" := by simpa using hname
 simp [invoke,callFunc,hf,h1,hb,Sem.run_bind,Sem.run_pure]
def rs8 (R:List AV) (why n:Int) (rest:List (Nat×Ob)) (nx:Nat) (out:List AV):St:=⟨lapp [.dead,.dead,.ptr 0 0,.ptr 1 0,.ptr 2 0] (lrepl 35 .dead),three R why n ++ rest,nx,out⟩
theorem res8 (r:Ru) (why n:Int) (rest:List (Nat×Ob)) (nx:Nat) (out:List AV):resOf Tryz.prog (rs8 r.cells why n rest nx out) Tryz.f17.results.toList = some [.agg r.cells,i64 why,i64 n]:=by kernel_rfl
theorem out8 (r:Ru) (why n:Int) (objs:List (Nat×Ob)):outRes objs [.agg r.cells,i64 why,i64 n] [] = some [.agg r.cells,i64 why,i64 n]:=by kernel_rfl
theorem leaves8 {b0:Nat} {w0:World} {g g1:Gh} {R0:List AV} {X:AV} {why n:Int} {r:Ru} {tmps:Array Value} {V0 V1 V2 XV:Value} {u u':FrameMode} (hev:evCode C16 (c16 [.r]) (E16 R0 X) (K16 r.cells why n))
  (hM:Mem G0 b0 w0 (three R0 0 0) 3 g1) (h0:ARep g1 (.ptr 0 0) V0) (h1:ARep g1 (.ptr 1 0) V1) (h2:ARep g1 (.ptr 2 0) V2) (hX:ARep g1 X XV)
  (hrec:∀ (c0:Frame) cs,c0.mode = u→(recoverD (c0 :: cs) = some (XV,{ c0 with mode:=u' } :: cs)∨(recoverD (c0 :: cs) = none∧XV = .nilIface∧u' = u)))
  (hu:u≠.run) (hset:settle u' = .returning) (hsz:tmps.size = 40) (t0:tmps.getD 2 undef = V0) (t1:tmps.getD 3 undef = V1) (t2:tmps.getD 4 undef = V2) (hbase:g1.base = g.base) :
  Leaves Tryz.prog Tryz.f17 tmps (FuncDone C5 b0 w0 st0 g (endsAs [.agg r.cells,i64 why,i64 n]) (fun _ _=>False)) [{ target:=.fn (.func 34) #[V0,V1,V2],args:=#[] }] u g1.w:=by
 refine leaves_cons hu (run_enter at16 (by decide) body16 _ _) ((close16 hev hM h0 h1 h2 hX hrec).mono ?_)
 rintro e v w' ⟨rfl,rfl,g4,st4,rfl,hb,hM4,⟨rest,ho⟩,k0,k1,k2⟩
 show Leaves _ _ _ _ [] (settle v) _
 rw [hset]
 have hT:TmpsRep g4 (rs8 r.cells why n rest st4.next []).tmps { tmps:=tmps,defers:=[] }:=by
  refine ⟨hsz,fun t=>?_⟩
  by_cases e2:t = 2
  ·subst e2; rw [t0]; exact k0
  ·by_cases e3:t = 3
   ·subst e3; rw [t1]; exact k1
   ·by_cases e4:t = 4
    ·subst e4; rw [t2]; exact k2
    ·have:nth .dead (rs8 r.cells why n rest st4.next []).tmps t = .dead:=by
      match t with
      | 0=>rfl
      | 1=>rfl
      | 2=>exact absurd rfl e2
      | 3=>exact absurd rfl e3
      | 4=>exact absurd rfl e4
      | t + 5 =>
       show nth .dead (lrepl 35 .dead) t = .dead
       rw [lrepl_eq,nth_eq,List.getD_eq_getElem?_getD,List.getElem?_replicate]
       split <;> rfl
     rw [this]
     exact .dead
 have hM4':Mem C5.G b0 w0 (rs8 r.cells why n rest st4.next []).objs (rs8 r.cells why n rest st4.next []).next g4:=by
  show Mem G0 b0 w0 (three r.cells why n ++ rest) st4.next g4
  rw [← ho]; exact hM4
 obtain ⟨Vs,q1,q2,q3⟩:=resOf_sound (C:=C5) hM4' hT (res8 r why n rest st4.next [])
 refine ⟨resV Vs,results_eq Tryz.f17 tmps Tryz.prog g4.w Vs q1,.inl ⟨_,⟨[],st4.objs,st4.next,[]⟩,g4,Vs,rfl,?_,hM4,rfl,?_,q2,q3⟩⟩
 ·unfold endsAs
  rw [out8]
 ·exact ⟨⟨rfl,fun t=>.dead g g4⟩,⟨rfl,fun t=>.dead g g4⟩,hb.trans hbase⟩
theorem at8:Tryz.prog.funcs[17]? = some Tryz.f17:=by kernel_rfl
theorem body8:Tryz.f17.body = some (.seq (c8 [.l]) (.seq (c8 [.r,.l]) (.seq (c8 [.r,.r,.l]) (c8 [.r,.r,.r])))):=by kernel_rfl
theorem nt8:Tryz.f17.ntmps = 40:=by kernel_rfl
theorem cut_a (st:St) (k:AX→St→Prop):evCode C5 a8 st k = evCode C5 (c8 [.l]) st (fun x st=>match x with | .normal=>evCode C5 (c8 [.r,.l]) st k | x=>k x st):=by kernel_rfl
theorem op8:∃ om od id,c8 [.r,.r,.l] = .region id #[om,od] false∧om.op = .makeFunc (.func 34) #[] #[.tmp 2,.tmp 3,.tmp 4]∧om.guard = none∧om.dst = some 9∧od.op = .defer ⟨.value (.tmp 9),#[],#[]⟩∧od.guard = none∧od.dst = none :=
 ⟨_,_,_,rfl,rfl,rfl,rfl,rfl,rfl,rfl⟩
theorem run_makeFunc {o:Oper} {f:FuncId} {cs:Array Operand} (ho:o.op = .makeFunc (.func f) #[] cs) (ρ:Operand→Value) (w:World):(execOp ρ o).run Tryz.prog w = .ok (.value (.func (.func f) #[] (cs.map ρ))) w:=by
 simp [execOp,ho,Instr.makeFunc]
theorem run_defer {o:Oper} {x:Operand} (ho:o.op = .defer ⟨.value x,#[],#[]⟩) (ρ:Operand→Value) (w:World) {fn:Fn} {cs:Array Value} (hx:ρ x = .func fn #[] cs) :
  (execOp ρ o).run Tryz.prog w = .ok (.defer { target:=.fn fn cs,args:=#[] }) w:=by
 simp [execOp,ho,resolve,Deferred.ofValue,hx,Sem.run_bind,Sem.run_pure]
def tm8 (s:List UInt8) (F:AV):List AV:=lapp [st s,.dead,.ptr 0 0,.ptr 1 0,.ptr 2 0,.ptr 3 0,st s,.agg [st s,i64 0],.ptr 3 0,F] (lrepl 30 .dead)
def F16:AV:=.fn 34 [] [.ptr 0 0,.ptr 1 0,.ptr 2 0]
def ob8 (s:List UInt8):List (Nat×Ob):=o8 s 0 zRule
def start8 (s:List UInt8):AX→St→Prop:=fun x st=>x = .normal∧st.tmps = tm8 s .dead∧st.objs = ob8 s∧st.next = 4
theorem start8_ev (s:List UInt8):evCode C5 (c8 [.l]) (e8 s) (fun x st=>match x with
  | .normal=>evCode C5 (c8 [.r,.l]) st (start8 s)
  | x=>start8 s x st):=by
 rw [← cut_a,f8_a]
 exact ⟨rfl,rfl,rfl,rfl⟩
def M8 (s:List UInt8):St:=⟨tm8 s F16,ob8 s,4,P3⟩
theorem M8_is (s:List UInt8):Is8 s 0 (stdR [] 0) (M8 s):=by
 show _ = _
 kernel_rfl
def K8 (s:List UInt8):AX→St→Prop:=fun x st=>st.outer = P3∧match x with
 | .ret=>∃ r:Ru,parse9 s = .rule r∧Ok0 r.cells st
 | .panic v=>∃ (j:Nat) (R:List AV),v = .ifc 77 (.agg [i64 j])∧parse9 s = .stop j∧R.length = 17∧Ok0 R st
 | _=>False
theorem K8_ev (s:List UInt8) (hs:s.length≤1000000000000000000):evCode C5 (c8 [.r,.r,.r]) (M8 s) (K8 s):=by
 refine walk8 (G:=fun o=>parse9 s = o) (fun j st h ok out=>?_) (fun r st h ok out _ _ _=>?_) hs rfl (M8 s) (M8_is s)
 ·obtain ⟨R,hR,ok⟩:=ok
  exact ⟨out,j,R,rfl,h,hR,ok⟩
 ·exact ⟨out,r,h,ok⟩
theorem noW8:noWC [2,3,4] (c8 [.r,.r,.r]) = true:=by kernel_rfl
theorem inlF_ok:∀ f fn,inlF f = some fn→Tryz.prog.funcs[f]? = some fn∧(fn.name == "runtime.NumGoroutine") = false:=by
 intro f fn h
 unfold inlF at h
 have one:∀ (m:Nat) (fm:Func),Nat.beq f m = true→some fm = some fn→Tryz.prog.funcs[m]? = some fm→(fm.name == "runtime.NumGoroutine") = false→Tryz.prog.funcs[f]? = some fn∧(fn.name == "runtime.NumGoroutine") = false:=by
  intro m fm hb e h1 h2
  have:=nbeq hb
  subst this
  cases e
  exact ⟨h1,h2⟩
 cases h1:Nat.beq f 35 with
 | true=>rw [h1,cond_true] at h; exact one 35 _ h1 h (by kernel_rfl) (by decide)
 | false =>
 rw [h1,cond_false] at h
 cases h1:Nat.beq f 36 with
 | true=>rw [h1,cond_true] at h; exact one 36 _ h1 h (by kernel_rfl) (by decide)
 | false =>
 rw [h1,cond_false] at h
 cases h1:Nat.beq f 37 with
 | true=>rw [h1,cond_true] at h; exact one 37 _ h1 h (by kernel_rfl) (by decide)
 | false =>
 rw [h1,cond_false] at h
 cases h1:Nat.beq f 38 with
 | true=>rw [h1,cond_true] at h; exact one 38 _ h1 h (by kernel_rfl) (by decide)
 | false =>
 rw [h1,cond_false] at h
 cases h1:Nat.beq f 62 with
 | true=>rw [h1,cond_true] at h; exact one 62 _ h1 h (by kernel_rfl) (by decide)
 | false =>
 rw [h1,cond_false] at h
 cases h1:Nat.beq f 63 with
 | true=>rw [h1,cond_true] at h; exact one 63 _ h1 h (by kernel_rfl) (by decide)
 | false=>rw [h1,cond_false] at h; cases h
theorem okC5:CallOK C5:=inl_ok okF5 inlF_ok 4
theorem body_end {b0:Nat} {w0:World} {g0 g:Gh} {s:List UInt8} {a2:Act} {V0 V1 V2:Value} (hs:s.length≤1000000000000000000) (hM:Mem G0 b0 w0 (ob8 s) 4 g) (hT:TmpsRep g (tm8 s F16) a2)
  (v0:a2.tmps.getD 2 undef = V0) (v1:a2.tmps.getD 3 undef = V1) (v2:a2.tmps.getD 4 undef = V2) (hd:a2.defers = [{ target:=.fn (.func 34) #[V0,V1,V2],args:=#[] }]) (hb:g.base = g0.base) :
  (c8 [.r,.r,.r]).wp Tryz.prog (bodyPostD Tryz.prog Tryz.f17 (FuncDone C5 b0 w0 st0 g0 (endsAs (res9 (parse9 s))) (fun _ _=>False))) a2 g.w:=by
 refine evCode_sound (T:=[2,3,4]) (C:=C5) okF5 okC5 (c8 [.r,.r,.r]) noW8 (M8 s) g a2 _ _ (K8_ev s hs) hM hT (fun x st1 g1 a1 hk hM1 hO1 hK1=>?_)
 obtain ⟨hout,hk⟩:=hk
 have hd1:a1.defers = [{ target:=.fn (.func 34) #[V0,V1,V2],args:=#[] }]:=by rw [hK1.1.1]; exact hd
 have hsz:a1.tmps.size = 40:=by rw [hK1.1.2]; exact hT.1
 have t0:a1.tmps.getD 2 undef = V0:=by rw [hK1.2 2 (by decide)]; exact v0
 have t1:a1.tmps.getD 3 undef = V1:=by rw [hK1.2 3 (by decide)]; exact v1
 have t2:a1.tmps.getD 4 undef = V2:=by rw [hK1.2 4 (by decide)]; exact v2
 have img:=hO1.outer.2
 rw [hout] at img
 have r0:ARep g1 (.ptr 0 0) V0:=(img 0).1 _ (by rw [← v0]; exact hT.2 2)
 have r1:ARep g1 (.ptr 1 0) V1:=(img 1).1 _ (by rw [← v1]; exact hT.2 3)
 have r2:ARep g1 (.ptr 2 0) V2:=(img 2).1 _ (by rw [← v2]; exact hT.2 4)
 have hb1:g1.base = g0.base:=by rw [hO1.base]; exact hb
 cases x with
 | normal=>exact hk.elim
 | exit id=>exact hk.elim
 | ret =>
  intro _
  obtain ⟨r,hp,rest,ho⟩:=hk
  have hM1':Mem G0 b0 w0 (three r.cells 0 0 ++ rest) st1.next g1:=by
   rw [show three r.cells 0 0 ++ rest = st1.objs from ho.symm]; exact hM1
  have hL:Less r.cells r.cells:=.imms (fun v hv=>by
   unfold Ru.cells R17 at hv
   simp only [List.mem_cons,List.not_mem_nil,or_false] at hv
   rcases hv with rfl | rfl | rfl | rfl | rfl | rfl | rfl | rfl | rfl | rfl | rfl | rfl | rfl | rfl | rfl | rfl | rfl <;> exact ⟨_,rfl⟩)
  obtain ⟨hM3,_,hptr⟩:=forget hM1' hL
  show Leaves _ _ _ _ _ .returning _
  rw [hd1,hp]
  exact leaves8 (g1:={ g1 with objs:=three r.cells 0 0 }) (X:=nilV) (XV:=.nilIface) (u':=.returning) (n16 r.cells) hM3 (hptr 0 _ (by decide) r0) (hptr 1 _ (by decide) r1) (hptr 2 _ (by decide) r2) (.imm (.val rfl))
   (fun c0 cs hu=>.inr ⟨by simp [recoverD,hu],rfl,rfl⟩) (by simp) rfl hsz t0 t1 t2 hb1
 | panic v =>
  intro V hV
  obtain ⟨j,R,rfl,hp,hR,rest,ho⟩:=hk
  have hM1':Mem G0 b0 w0 (three R 0 0 ++ rest) st1.next g1:=by
   rw [show three R 0 0 ++ rest = st1.objs from ho.symm]; exact hM1
  have hL:Less R (lrepl 17 .dead):=⟨by rw [hR]; rfl,fun k v hv=>.inl (by
   rw [lrepl_eq,List.getElem?_replicate] at hv
   split at hv
   ·cases hv; rfl
   ·cases hv)⟩
  obtain ⟨hM3,himm,hptr⟩:=forget hM1' hL
  have hX:ARep { g1 with objs:=three (lrepl 17 .dead) 0 0 } (.ifc 77 (.agg [i64 j])) V:=by
   cases hV with
   | ifc h =>
    cases h with
    | agg q1 q2 q3 =>
     refine .ifc (.agg q1 (fun k c hc=>?_) q3)
     match k with
     | 0=>simp only [List.getElem?_cons_zero,Option.some.injEq] at hc; subst hc; exact himm _ _ (q2 0 _ rfl)
     | k + 1=>simp at hc
  show Leaves _ _ _ _ _ (.panicking [{ v:=V,recovered:=false }]) _
  rw [hd1,hp]
  exact leaves8 (r:=zR) (g1:={ g1 with objs:=three (lrepl 17 .dead) 0 0 }) (u':=.panicking [{ v:=V,recovered:=true }]) (s16 j) hM3 (hptr 0 _ (by decide) r0) (hptr 1 _ (by decide) r1) (hptr 2 _ (by decide) r2) hX
   (fun c0 cs hu=>.inl (by simp [recoverD,hu])) (by simp) rfl hsz t0 t1 t2 hb1
theorem put_getD {a:Act} {t:Nat} (V:Value) (h:t < a.tmps.size):(a.put (some t) V).eval (.tmp t) = V:=by
 show (a.tmps.setIfInBounds t V).getD t undef = V
 simp [Array.getD_eq_getD_getElem?,Array.getElem?_setIfInBounds,h]
theorem put_other {a:Act} {t u:Nat} (V:Value) (h:t≠u):(a.put (some t) V).tmps.getD u undef = a.tmps.getD u undef:=by
 show (a.tmps.setIfInBounds t V).getD u undef = _
 simp only [Array.getD_eq_getD_getElem?,Array.getElem?_setIfInBounds_ne h]
theorem calls8 {b0:Nat} {w0:World} {g:Gh} {s:List UInt8} {vals:Array Value} (hs:s.length≤1000000000000000000) (hM:Mem G0 b0 w0 [] 0 g) (hsz:vals.size = 1) (hr:ARep g (st s) (vals.getD 0 undef)) :
  Calls Tryz.prog 17 vals g.w (FuncDone C5 b0 w0 st0 g (endsAs (res9 (parse9 s))) (fun _ _=>False)):=by
 refine calls_of_wp_defers at8 body8 ?_
 have hT0:TmpsRep g (e8 s).tmps { tmps:=vals ++ Array.replicate (Tryz.f17.ntmps - vals.size) undef,defers:=[] }:=by
  rw [nt8,hsz]
  refine ⟨by simp [hsz,e8,lapp_eq,lrepl_eq],fun t=>?_⟩
  match t with
  | 0 =>
   show ARep g (st s) _
   rw [Array.getD_eq_getD_getElem?,Array.getElem?_append,if_pos (by omega),← Array.getD_eq_getD_getElem?]
   exact hr
  | t + 1 =>
   have:nth .dead (e8 s).tmps (t + 1) = .dead:=by
    show nth .dead (lrepl 39 .dead) t = .dead
    rw [lrepl_eq,nth_eq,List.getD_eq_getElem?_getD,List.getElem?_replicate]
    split <;> rfl
   rw [this]
   exact .dead
 refine wp_seq ?_
 refine evCode_sound (T:=[]) (C:=C5) okF5 okC5 (c8 [.l]) (noWC_nil _) (e8 s) g _ _ _ (start8_ev s) hM hT0 (fun x st1 g1 a1 hk hM1 hO1 hK1=>?_)
 cases x with
 | exit id=>exact absurd hk.1 (by simp)
 | ret=>exact absurd hk.1 (by simp)
 | panic v=>exact absurd hk.1 (by simp)
 | normal =>
 intro hT1
 show Code.wp _ _ _ _ _
 refine wp_seq ?_
 refine evCode_sound (T:=[]) (C:=C5) okF5 okC5 (c8 [.r,.l]) (noWC_nil _) st1 g1 _ _ _ hk hM1 hT1 (fun x st2 g2 a2 hk hM2 hO2 hK2=>?_)
 cases x with
 | exit id=>exact absurd hk.1 (by simp)
 | ret=>exact absurd hk.1 (by simp)
 | panic v=>exact absurd hk.1 (by simp)
 | normal =>
 intro hT2
 obtain ⟨_,ht,ho,hn⟩:=hk
 rw [ht] at hT2
 rw [ho,hn] at hM2
 have hd2:a2.defers = []:=by rw [hK2.1.1,hK1.1.1]
 have hsz2:a2.tmps.size = 40:=hT2.1
 show Code.wp _ _ _ _ _
 refine wp_seq ?_
 obtain ⟨om,od,id,e,m1,m2,m3,d1,d2,d3⟩:=op8
 rw [e]
 refine wp_region_list ?_
 show wpList _ _ _ [om,od] _ _
 unfold wpList
 rw [if_pos (wanted_none m2 _)]
 left
 unfold Oper.wp
 have hmap:Array.map a2.eval #[.tmp 2,.tmp 3,.tmp 4] = #[a2.tmps.getD 2 undef,a2.tmps.getD 3 undef,a2.tmps.getD 4 undef]:=by simp [Act.eval]
 rw [run_makeFunc m1,Oper.upon_value,m3,hmap]
 unfold wpList
 rw [if_pos (wanted_none d2 _)]
 left
 unfold Oper.wp
 rw [run_defer d1 _ _ (put_getD _ (by rw [hsz2]; decide)),Oper.upon_defer,d3]
 show Code.wp _ _ _ _ _
 refine body_end (V0:=a2.tmps.getD 2 undef) (V1:=a2.tmps.getD 3 undef) (V2:=a2.tmps.getD 4 undef) hs hM2 ?_ (put_other _ (by decide)) (put_other _ (by decide)) (put_other _ (by decide)) ?_ ((hO2.base.trans hO1.base))
 ·refine ⟨by show (a2.tmps.setIfInBounds 9 _).size = _; rw [Array.size_setIfInBounds]; exact hT2.1,fun t=>?_⟩
  by_cases h9:t = 9
  ·subst h9
   have:((a2.put (some 9) (.func (.func 34) #[] #[a2.tmps.getD 2 undef,a2.tmps.getD 3 undef,a2.tmps.getD 4 undef])).tmps.getD 9 undef) = .func (.func 34) #[] #[a2.tmps.getD 2 undef,a2.tmps.getD 3 undef,a2.tmps.getD 4 undef]:=put_getD _ (by rw [hsz2]; decide)
   show ARep g2 F16 ((a2.put (some 9) (.func (.func 34) #[] #[a2.tmps.getD 2 undef,a2.tmps.getD 3 undef,a2.tmps.getD 4 undef])).tmps.getD 9 undef)
   rw [this]
   refine .fn rfl (fun j c hc=>by simp at hc) rfl (fun j c hc=>?_)
   match j with
   | 0=>cases hc; exact hT2.2 2
   | 1=>cases hc; exact hT2.2 3
   | 2=>cases hc; exact hT2.2 4
   | j + 3=>simp at hc
  ·show ARep g2 (nth .dead (tm8 s F16) t) ((a2.put (some 9) _).tmps.getD t undef)
   rw [put_other _ (fun h=>h9 h.symm)]
   have:nth .dead (tm8 s F16) t = nth .dead (tm8 s .dead) t:=by
    have:tm8 s F16 = setNth F16 (tm8 s .dead) 9:=rfl
    rw [this,setNth_eq,nth_eq,nth_eq,List.getD_eq_getElem?_getD,List.getElem?_set_ne (fun h=>h9 h.symm),List.getD_eq_getElem?_getD]
   rw [this]
   exact hT2.2 t
 ·show _ :: (a2.put _ _).defers = _
  rw [put_defers,hd2]
theorem ok8:∀ args pres res,sParse9 args = some (pres,res)→SpecOK Tryz.prog G0 17 args pres res:=by
 intro args pres res h
 unfold sParse9 at h
 split at h
 case h_2=>cases h
 cases h
 rename_i s
 refine spec_done (C:=C5) at8 (by decide) (by rw [body8]; rfl) (fun hp g b0 w0 vals hM hsz hr=>?_)
 have hl:=hp _ (List.mem_cons_self ..)
 exact calls8 (by omega) hM hsz (hr 0 _ rfl)
end P9
set_option maxRecDepth 100000
namespace P9
open Go Go.AE Go.Proofs
attribute [local irreducible] loopK evCode evSpec loopB norm
def ruOf:Out→Ru
 | .stop _=>zR
 | .rule r=>r
def whyOf:Out→Int
 | .stop _=>14
 | .rule _=>0
def atOf:Out→Int
 | .stop j=>j
 | .rule _=>0
def ruP (s:List UInt8):Ru:=ruOf (parse9 s)
def whyP (s:List UInt8):Int:=whyOf (parse9 s)
def atP (s:List UInt8):Int:=atOf (parse9 s)
theorem res9_eq (o:Out):res9 o = [.agg (ruOf o).cells,i64 (whyOf o),i64 (atOf o)]:=by cases o <;> rfl
def sParseP:List AV→Option (List Prop×List AV)
 | [.imm (.str s)]=>some ([(s.length:Int)≤1000000000000000000],[.agg (ruP s).cells,i64 (whyP s),i64 (atP s)])
 | _=>none
noncomputable def F6:=addE F5 17 sParseP
noncomputable def C6:Cx:=cx F6
def e4 (s t:List UInt8) (a b k d m w e u k' d' m' w' e' u':Int):St:=⟨lapp [st s,st t,i64 a,i64 b,dayAV k d m w e u,dayAV k' d' m' w' e' u'] (lrepl 114 .dead),[],0,[]⟩
def e5 (s:List UInt8) (a k d m w e u k' d' m' w' e' u':Int):St:=⟨lapp [st s,i64 a,dayAV k d m w e u,dayAV k' d' m' w' e' u'] (lrepl 110 .dead),[],0,[]⟩
theorem okP:∀ args pres res,sParseP args = some (pres,res)→SpecOK Tryz.prog G0 17 args pres res:=by
 intro args pres res h
 unfold sParseP at h
 split at h
 case h_2=>cases h
 cases h
 rename_i s
 refine ok8 _ _ _ ?_
 have:sParse9 [.imm (.str s)] = some ([(s.length:Int)≤1000000000000000000],res9 (parse9 s)):=rfl
 rw [this,res9_eq]
 first | done | rfl
theorem okF6:EOK Tryz.prog F6 G0:=addE_ok okF5 okP
theorem SpecOK.pre {P:Program} {G:Nat→Option (List AV)} {f:FuncId} {args res:List AV} {pres pres':List Prop} (h:(∀ p,p ∈ pres'→p)→SpecOK P G f args pres res) (hp:(∀ p,p ∈ pres'→p)→∀ p,p ∈ pres→p)
  (hb:∃ fn,P.funcs[f]? = some fn∧(fn.name == "runtime.NumGoroutine") = false∧fn.body.isNone = false):SpecOK P G f args pres' res :=
 ⟨hb,fun hps=>(h hps).2 (hp hps)⟩
end P9
set_option maxRecDepth 100000
namespace P9
open Go Go.AE Go.Proofs
end P9
set_option maxRecDepth 100000
namespace P9
open Go Go.AE Go.Proofs
section
variable {s:List UInt8} {i:Nat} {P:Out→Prop}
theorem nameQ_P {F:List UInt8→Nat→Out} (hi:i≤s.length) (h:P (.stop i)) (hF:∀ a j,j≤s.length→P (F a j)):P (nameQ s i F):=by
 unfold nameQ
 obtain ⟨n,hn,hl,_⟩:=parse7_n (s.drop i)
 rw [List.length_drop] at hl
 split
 ·rw [hn,Int.toNat_natCast]; exact hF _ _ (by omega)
 ·exact h
theorem offQ_P {F:Int→Nat→Out} (hi:i≤s.length) (h:P (.stop i)) (hF:∀ a j,j≤s.length→P (F a j)):P (offQ s i F):=by
 unfold offQ
 obtain ⟨n,hn,hl⟩:=parse_n (s.drop i)
 rw [List.length_drop] at hl
 split
 ·rw [hn,Int.toNat_natCast]; exact hF _ _ (by omega)
 ·exact h
theorem dayQ_P {F:Dv→Nat→Out} (hi:i≤s.length) (h:P (.stop i)) (hF:∀ a j,j≤s.length→P (F a j)):P (dayQ s i F):=by
 unfold dayQ
 obtain ⟨n,hn,hl⟩:=day_n (s.drop i)
 rw [List.length_drop] at hl
 split
 ·rw [hn,Int.toNat_natCast]; exact hF _ _ (by omega)
 ·exact h
theorem comma_lt (h:comma s i = true):i < s.length:=by
 rw [comma_eq] at h
 simp at h
 exact h.1
theorem commaQ_P {F:Nat→Out} (h:P (.stop i)) (hF:∀ j,j≤s.length→P (F j)):P (commaQ s i F):=by
 unfold commaQ
 split
 ·rename_i hc
  exact hF _ (comma_lt hc)
 ·exact h
theorem dstOffQ_P {o:Int} {F:Int→Nat→Out} (hi:i≤s.length) (h:P (.stop i)) (hF:∀ a j,j≤s.length→P (F a j)):P (dstOffQ s i o F):=by
 unfold dstOffQ
 split
 ·exact offQ_P hi h hF
 ·exact hF _ _ hi
theorem dstQ_P {a:List UInt8} {o:Int} {F:Ru→Nat→Out} (hi:i≤s.length) (h:∀ j,j≤s.length→P (.stop j)) (hF:∀ r j,j≤s.length→P (F r j)):P (dstQ s i a o F):=by
 unfold dstQ
 exact nameQ_P hi (h _ hi) fun _ _ h1=>dstOffQ_P h1 (h _ h1) fun _ _ h2=>commaQ_P (h _ h2) fun _ h3=>dayQ_P h3 (h _ h3) fun _ _ h4=>commaQ_P (h _ h4) fun _ h5=>dayQ_P h5 (h _ h5) fun _ _ h6=>hF _ _ h6
theorem parse9_P (h:∀ j,j≤s.length→P (.stop j)) (hr:∀ r,validRu r = true→P (.rule r)):P (parse9 s):=by
 have he:∀ r j,j≤s.length→P (endP s r j):=by
  intro r j hj
  unfold endP
  split
  ·split
   ·rename_i hv; exact hr r hv
   ·exact h j hj
  ·exact h j hj
 unfold parse9
 refine nameQ_P (Nat.zero_le _) (h 0 (Nat.zero_le _)) fun _ _ h1=>offQ_P h1 (h _ h1) fun _ _ h2=>?_
 split
 ·exact dstQ_P h2 h he
 ·exact he _ _ h2
end
theorem parse9_valid {s:List UInt8} {r:Ru} (h:parse9 s = .rule r):validRu r = true :=
 parse9_P (P:=fun o=>∀ r,o = .rule r→validRu r = true) (fun k hk r e=>by cases e) (fun r hv r' e=>by cases e; exact hv) r h
end P9
set_option maxRecDepth 100000
namespace P7
open Go Go.AE Go.Proofs
attribute [local irreducible] loopK evCode evSpec loopB norm
end P7
namespace PA
open Go Go.AE Go.Proofs P9
theorem date_cons (b:UInt8) (r:List UInt8):date (b :: r) = if b = 74 then ⟨1,(number r).1,0,0,0,(number r).2.1 + 1,(number r).2.2⟩ else if b = 77 then dateM (b :: r) else ⟨2,(number (b :: r)).1,0,0,0,(number (b :: r)).2.1,(number (b :: r)).2.2⟩:=rfl
def late (t:Int):Bool:=decide (t < 0) || decide (t > 86400)
def okP (s:List UInt8):Bool:=whyP s == 0
def refnum (s:List UInt8) (i:Nat):Int×Int:=if (number (s.drop i)).2.2 then ((number (s.drop i)).1,(i:Int) + (number (s.drop i)).2.1) else (-1,(i:Int))
def sFail:List AV→Option (List Prop×List AV)
 | [.imm (.int .i64 n)]=>some ([],[.agg zR.cells,i64 14,i64 n])
 | _=>none
def sLate:List AV→Option (List Prop×List AV)
 | [.agg [.imm (.int .i64 k),.imm (.int .i64 d),.imm (.int .i64 m),.imm (.int .i64 w),.imm (.int .i64 e),.imm (.int .i64 t)]]=>some ([],[bo (late t)])
 | _=>none
def sNum:List AV→Option (List Prop×List AV)
 | [.imm (.str s),.imm (.int .i64 i)]=>some ([0≤i,i≤(s.length:Int),(s.length:Int)≤4611686018427387904],[i64 (refnum s i.toNat).1,i64 (refnum s i.toNat).2])
 | _=>none
def sDayR:List AV→Option (List Prop×List AV)
 | [.imm (.str s)]=>some ([(s.length:Int)≤4000000000000000000],[dayAV (day s).k (day s).d (day s).m (day s).w (day s).e (day s).t,i64 (day s).n,bo (day s).ok])
 | _=>none
def sExt:List AV→Option (List Prop×List AV)
 | [.agg [.imm (.str a),.imm (.int .i64 o),.imm (.bool h),.imm (.str b),.imm (.int .i64 p),.imm (.int .i64 k),.imm (.int .i64 d),.imm (.int .i64 m),.imm (.int .i64 w),.imm (.int .i64 e),.imm (.int .i64 t),.imm (.int .i64 k'),.imm (.int .i64 d'),.imm (.int .i64 m'),.imm (.int .i64 w'),.imm (.int .i64 e'),.imm (.int .i64 t')]] =>
  some ([],[bo (h && (late t || late t'))])
 | _=>none
noncomputable def cx (E:FuncId→List AV→Option (List Prop×List AV)):Cx:=⟨Tryz.prog,E,noCall,P8.G8,0⟩
noncomputable def cxu (E:FuncId→List AV→Option (List Prop×List AV)):Cx:=⟨Tryz.prog,E,noCall,P8.G8,3⟩
def D1:=noE
def D2:=noE
noncomputable def R0:=addE (addE (addE (addE F6 45 sSide) 43 sFail) 48 sLate) 70 sNum
noncomputable def R1:=addE (addE R0 46 sDayR) 47 sValidRule
noncomputable def R2:=addE (addE R1 22 sParseP) 23 sExt
noncomputable def K0:Cx:=cx noE
noncomputable def K1:Cx:=cx D1
noncomputable def K2:Cx:=cx D2
noncomputable def Q0:Cx:=cx R0
noncomputable def Q1:Cx:=cx R1
noncomputable def U0:Cx:=cxu R0
def h66 (s:List UInt8) (i v n:Int):St:=⟨lapp [st s,i64 i,.dead,.dead,i64 0,i64 0,i64 v,i64 n] (lrepl 43 .dead),[],0,[]⟩
def kN (N:St→Prop) (K:AX→St→Prop):AX→St→Prop:=fun x st=>match x with
 | .normal=>N st
 | x=>K x st
noncomputable def QU:Cx:=cxu R1
noncomputable def c21:List Dir→Code:=fun p=>codeAt p (bodyOf Tryz.f22)
noncomputable def q21 (k:Nat):Code:=c21 (lapp (lrepl k .r) [.l])
noncomputable def a21:Code:=.seq (q21 0) (.seq (q21 1) (.seq (q21 2) (.seq (q21 3) (.seq (q21 4) (.seq (q21 5) (.seq (q21 6) (.seq (q21 7) (.seq (q21 8) (q21 9)))))))))
noncomputable def b21:Code:=.seq (q21 10) (.seq (q21 11) (.seq (q21 12) (.seq (q21 13) (.seq (q21 14) (.seq (q21 15) (.seq (q21 16) (q21 17)))))))
def e21 (s:List UInt8):St:=⟨lapp [st s] (lrepl 171 .dead),[],0,[]⟩
def S21 (s:List UInt8) (i:Int) (R:List AV) (T:Nat→AV):St :=
 ⟨lapp [st s,T 1,.ptr 0 0,i64 0,i64 0,.ptr 1 0,T 6,T 7,T 8,T 9,T 10,T 11,i64 i] (lmap T (ldrop 13 (upto 172 []))),[(0,⟨true,0,.cells zRule⟩),(1,⟨true,0,.cells R⟩)],2,[]⟩
def S21e (s:List UInt8) (i:Int) (R X Y:List AV) (T:Nat→AV):St :=
 ⟨lapp [st s,T 1,.ptr 0 0,i64 0,i64 0,.ptr 1 0,T 6,T 7,T 8,T 9,T 10,T 11,i64 i] (lmap T (ldrop 13 (upto 172 []))),[(0,⟨true,0,.cells zRule⟩),(1,⟨true,0,.cells R⟩),(2,⟨true,0,.cells X⟩),(3,⟨true,0,.cells Y⟩)],4,[]⟩
end PA
