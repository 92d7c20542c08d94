/- The walk's evaluator and its laws (over whatever program), and contracts of the program's functions. -/
import Derived.Test.YtgadloeechbkkaaDoorAe3
import Derived.KernelRfl
import Derived.Recover
set_option linter.all false
set_option maxRecDepth 100000
namespace B9
open Go Go.AE Go.Proofs
attribute [local irreducible] loopK evCode evSpec loopB norm
theorem d_0 (s : List UInt8) (i : Int) (R0 : List AV) (a : List UInt8) (o : Int) (h : Bool) (b : List UInt8) (p : Int) (k : Int) (d : Int) (m : Int) (w : Int) (e : Int) (t : Int) (k' : Int) (d' : Int) (m' : Int) (w' : Int) (e' : Int) (t' : Int) (OUT : List AV) (K : AX → St → Prop) : evCode C4i (c19 [Dir.l]) (St.mk (lapp [.ptr 3 0, ruleAV a o h b p k d m w e t k' d' m' w' e' t'] (lrepl (43 : Nat) AV.dead)) (o8 s i R0) (4 : Nat) OUT) K = (K AX.normal (St.mk [.ptr 3 0, .agg [.imm (.str a), .imm (.int .i64 o), .imm (.bool h), .imm (.str b), .imm (.int .i64 p), .imm (.int .i64 k), .imm (.int .i64 d), .imm (.int .i64 m), .imm (.int .i64 w), .imm (.int .i64 e), .imm (.int .i64 t), .imm (.int .i64 k'), .imm (.int .i64 d'), .imm (.int .i64 m'), .imm (.int .i64 w'), .imm (.int .i64 e'), .imm (.int .i64 t')], .dead, .ptr 4 0, .ptr 5 0, .dead, .dead, .dead, .dead, .dead, .dead, .dead, .dead, .dead, .dead, .dead, .dead, .dead, .dead, .dead, .dead, .dead, .dead, .dead, .dead, .dead, .dead, .dead, .dead, .dead, .dead, .dead, .dead, .dead, .dead, .dead, .dead, .dead, .dead, .dead, .dead, .dead, .dead, .dead, .dead] [(0, Ob.mk true 0 (AObj.cells R0)), (1, Ob.mk true 0 (AObj.cells [.imm (.int .i64
 0)])), (2, Ob.mk true 0 (AObj.cells [.imm (.int .i64 0)])), (3, Ob.mk true 0 (AObj.cells [.imm (.str s), .imm (.int .i64 i)])), (4, Ob.mk true 0 (AObj.cells [.imm (.str a), .imm (.int .i64 o), .imm (.bool h), .imm (.str b), .imm (.int .i64 p), .imm (.int .i64 k), .imm (.int .i64 d), .imm (.int .i64 m), .imm (.int .i64 w), .imm (.int .i64 e), .imm (.int .i64 t), .imm (.int .i64 k'), .imm (.int .i64 d'), .imm (.int .i64 m'), .imm (.int .i64 w'), .imm (.int .i64 e'), .imm (.int .i64 t')])), (5, Ob.mk true 0 (AObj.cells [.imm (.str []), .imm (.int .i64 0), .imm (.bool false), .imm (.str []), .imm (.int .i64 0), .imm (.int .i64 0), .imm (.int .i64 0), .imm (.int .i64 0), .imm (.int .i64 0), .imm (.int .i64 0), .imm (.int .i64 0), .imm (.int .i64 0), .imm (.int .i64 0), .imm (.int .i64 0), .imm (.int .i64 0), .imm (.int .i64 0), .imm (.int .i64 0)]))] (6 : Nat) OUT)) := by kernel_rfl
theorem d_7 (s : List UInt8) (i : Int) (R0 : List AV) (a : List UInt8) (o : Int) (h : Bool) (b : List UInt8) (p : Int) (k : Int) (d : Int) (m : Int) (w : Int) (e : Int) (t : Int) (k' : Int) (d' : Int) (m' : Int) (w' : Int) (e' : Int) (t' : Int) (x : AV) (y : AV) (OUT : List AV) (X : List AV) (Y : List AV) (Z : List AV) (W : List AV) (T : Nat → AV) (K : AX → St → Prop) : evCode C4i (c19 [Dir.r, Dir.r, Dir.r, Dir.r, Dir.r, Dir.r, Dir.r]) (S19c s i R0 (R17 a o h b p k d m w e t k' d' m' w' e' t') zRule x y OUT X Y Z W T) K = (K AX.ret (St.mk [.ptr 3 0, x, y, .ptr 4 0, .ptr 5 0, T 5, T 6, T 7, T 8, T 9, T 10, T 11, T 12, T 13, T 14, T 15, T 16, T 17, T 18, T 19, T 20, T 21, T 22, T 23, T 24, T 25, T 26, T 27, T 28, T 29, T 30, T 31, T 32, T 33, T 34, T 35, T 36, T 37, T 38, T 39, T 40, T 41, T 42, T 43, .agg [.imm (.str a), .imm (.int .i64 o), .imm (.bool h), .imm (.str b), .imm (.int .i64 p), .imm (.int .i64 k), .imm (.int .i64 d), .imm (.int .i64 m), .imm (.int .i64 w), .imm (.int .i64 e), .imm (.int .i64 t), .imm (.int .i64 k'), .imm (.int .i64 d'), .imm (.int .i64 m'), .imm (.int .i64 w'), .imm (.int .i64 e'), .imm (.int .i64 t')]] [(0, Ob.mk true 0 (AObj.cells R0)), (1, Ob.mk true
 0 (AObj.cells [.imm (.int .i64 0)])), (2, Ob.mk true 0 (AObj.cells [.imm (.int .i64 0)])), (3, Ob.mk true 0 (AObj.cells [.imm (.str s), .imm (.int .i64 i)])), (4, Ob.mk true 0 (AObj.cells [.imm (.str a), .imm (.int .i64 o), .imm (.bool h), .imm (.str b), .imm (.int .i64 p), .imm (.int .i64 k), .imm (.int .i64 d), .imm (.int .i64 m), .imm (.int .i64 w), .imm (.int .i64 e), .imm (.int .i64 t), .imm (.int .i64 k'), .imm (.int .i64 d'), .imm (.int .i64 m'), .imm (.int .i64 w'), .imm (.int .i64 e'), .imm (.int .i64 t')])), (5, Ob.mk true 0 (AObj.cells [.imm (.str a), .imm (.int .i64 o), .imm (.bool h), .imm (.str b), .imm (.int .i64 p), .imm (.int .i64 k), .imm (.int .i64 d), .imm (.int .i64 m), .imm (.int .i64 w), .imm (.int .i64 e), .imm (.int .i64 t), .imm (.int .i64 k'), .imm (.int .i64 d'), .imm (.int .i64 m'), .imm (.int .i64 w'), .imm (.int .i64 e'), .imm (.int .i64 t')])), (6, Ob.mk true 0 (AObj.cells X)), (7, Ob.mk true 0 (AObj.cells Y)), (8, Ob.mk true 0 (AObj.cells Z)), (9, Ob.mk true 0 (AObj.cells W))] (10 : Nat) OUT)) := by kernel_rfl
theorem f8_v (s : List UInt8) (i : Int) (a : List UInt8) (o : Int) (h : Bool) (b : List UInt8) (p : Int) (k : Int) (d : Int) (m : Int) (w : Int) (e : Int) (t : Int) (k' : Int) (d' : Int) (m' : Int) (w' : Int) (e' : Int) (t' : Int) (x : AV) (y : AV) (z : AV) (T : Nat → AV) (K : AX → St → Prop) : evCode C5 (c8 [Dir.r, Dir.r, Dir.r, Dir.r, Dir.r, Dir.r, Dir.l]) (S8 s i (R17 a o h b p k d m w e t k' d' m' w' e' t') x y z T) K = (((i == (s.length : Int)) = true → a.length ≤ 9223372036854775807) ∧ ((i == (s.length : Int)) = true → b.length ≤ 9223372036854775807) ∧ brn (!(i == (s.length : Int) && validRule a o h b p k d m w e t k' d' m' w' e' t')) (K (AX.panic (AV.ifc (66 : Nat) (.agg [.imm (.int .i64 i)]))) (St.mk [.imm (.str s), .dead, .ptr 0 0, .ptr 1 0, .ptr 2 0, .ptr 3 0, (clean1 x), (clean1 y), (clean1 z), AV.fn (33 : Nat) [] [.ptr 0 0, .ptr 1 0, .ptr 2 0], (clean1 (T 10)), (clean1 (T 11)), (clean1 (T 12)), (clean1 (T 13)), (clean1 (T 14)), (clean1 (T 15)), (clean1 (T 16)), (clean1 (T 17)), (clean1 (T 18)), (clean1 (T 19)), (clean1 (T 20)), (clean1 (T 21)), (clean1 (T 22)), (clean1 (T 23)), (clean1 (T 24)), (clean1 (T 25)), .ptr 3 0, .ptr 3 0, .ptr 3 0, .ptr 3 1, .imm (.int .i64 i),
 .imm (.str s), .imm (.int .i64 (s.length : Int)), .imm (.bool (i == (s.length : Int))), .imm (.bool (i == (s.length : Int))), .opt [((34 : Nat), true)] (.agg [.imm (.str a), .imm (.int .i64 o), .imm (.bool h), .imm (.str b), .imm (.int .i64 p), .imm (.int .i64 k), .imm (.int .i64 d), .imm (.int .i64 m), .imm (.int .i64 w), .imm (.int .i64 e), .imm (.int .i64 t), .imm (.int .i64 k'), .imm (.int .i64 d'), .imm (.int .i64 m'), .imm (.int .i64 w'), .imm (.int .i64 e'), .imm (.int .i64 t')]), .opt [((34 : Nat), true)] (.imm (.bool (validRule a o h b p k d m w e t k' d' m' w' e' t'))), .imm (.bool (i == (s.length : Int) && validRule a o h b p k d m w e t k' d' m' w' e' t')), (clean1 (T 38)), (clean1 (T 39))] [(0, Ob.mk true 0 (AObj.cells [.imm (.str a), .imm (.int .i64 o), .imm (.bool h), .imm (.str b), .imm (.int .i64 p), .imm (.int .i64 k), .imm (.int .i64 d), .imm (.int .i64 m), .imm (.int .i64 w), .imm (.int .i64 e), .imm (.int .i64 t), .imm (.int .i64 k'), .imm (.int .i64 d'), .imm (.int .i64 m'), .imm (.int .i64 w'), .imm (.int .i64 e'), .imm (.int .i64 t')])), (1, Ob.mk true 0 (AObj.cells [.imm (.int .i64 0)])), (2, Ob.mk true 0 (AObj.cells [.imm (.int .i64 0)])), (3, Ob.mk true 0
 (AObj.cells [.imm (.str s), .imm (.int .i64 i)]))] (4 : Nat) [.ptr 0 0, .ptr 1 0, .ptr 2 0])) (K AX.normal (St.mk [.imm (.str s), .dead, .ptr 0 0, .ptr 1 0, .ptr 2 0, .ptr 3 0, (clean1 x), (clean1 y), (clean1 z), AV.fn (33 : Nat) [] [.ptr 0 0, .ptr 1 0, .ptr 2 0], (clean1 (T 10)), (clean1 (T 11)), (clean1 (T 12)), (clean1 (T 13)), (clean1 (T 14)), (clean1 (T 15)), (clean1 (T 16)), (clean1 (T 17)), (clean1 (T 18)), (clean1 (T 19)), (clean1 (T 20)), (clean1 (T 21)), (clean1 (T 22)), (clean1 (T 23)), (clean1 (T 24)), (clean1 (T 25)), .ptr 3 0, .ptr 3 0, .ptr 3 0, .ptr 3 1, .imm (.int .i64 i), .imm (.str s), .imm (.int .i64 (s.length : Int)), .imm (.bool (i == (s.length : Int))), .imm (.bool (i == (s.length : Int))), .opt [((34 : Nat), true)] (.agg [.imm (.str a), .imm (.int .i64 o), .imm (.bool h), .imm (.str b), .imm (.int .i64 p), .imm (.int .i64 k), .imm (.int .i64 d), .imm (.int .i64 m), .imm (.int .i64 w), .imm (.int .i64 e), .imm (.int .i64 t), .imm (.int .i64 k'), .imm (.int .i64 d'), .imm (.int .i64 m'), .imm (.int .i64 w'), .imm (.int .i64 e'), .imm (.int .i64 t')]), .opt [((34 : Nat), true)] (.imm (.bool (validRule a o h b p k d m w e t k' d' m' w' e' t'))), .imm (.bool (i ==
 (s.length : Int) && validRule a o h b p k d m w e t k' d' m' w' e' t')), .tup [], (clean1 (T 39))] [(0, Ob.mk true 0 (AObj.cells [.imm (.str a), .imm (.int .i64 o), .imm (.bool h), .imm (.str b), .imm (.int .i64 p), .imm (.int .i64 k), .imm (.int .i64 d), .imm (.int .i64 m), .imm (.int .i64 w), .imm (.int .i64 e), .imm (.int .i64 t), .imm (.int .i64 k'), .imm (.int .i64 d'), .imm (.int .i64 m'), .imm (.int .i64 w'), .imm (.int .i64 e'), .imm (.int .i64 t')])), (1, Ob.mk true 0 (AObj.cells [.imm (.int .i64 0)])), (2, Ob.mk true 0 (AObj.cells [.imm (.int .i64 0)])), (3, Ob.mk true 0 (AObj.cells [.imm (.str s), .imm (.int .i64 (IntKind.wrap .i64 (i + 0)))]))] (4 : Nat) [.ptr 0 0, .ptr 1 0, .ptr 2 0]))) := by kernel_rfl
theorem f8_vc (s : List UInt8) (i : Int) (a : List UInt8) (o : Int) (h : Bool) (b : List UInt8) (p : Int) (k : Int) (d : Int) (m : Int) (w : Int) (e : Int) (t : Int) (k' : Int) (d' : Int) (m' : Int) (w' : Int) (e' : Int) (t' : Int) (x : AV) (y : AV) (z : AV) (R4 : List AV) (R5 : List AV) (X : List AV) (Y : List AV) (Z : List AV) (W : List AV) (T : Nat → AV) (K : AX → St → Prop) : evCode C5 (c8 [Dir.r, Dir.r, Dir.r, Dir.r, Dir.r, Dir.r, Dir.l]) (S8c s i (R17 a o h b p k d m w e t k' d' m' w' e' t') x y z R4 R5 X Y Z W T) K = (((i == (s.length : Int)) = true → a.length ≤ 9223372036854775807) ∧ ((i == (s.length : Int)) = true → b.length ≤ 9223372036854775807) ∧ brn (!(i == (s.length : Int) && validRule a o h b p k d m w e t k' d' m' w' e' t')) (K (AX.panic (AV.ifc (66 : Nat) (.agg [.imm (.int .i64 i)]))) (St.mk [.imm (.str s), .dead, .ptr 0 0, .ptr 1 0, .ptr 2 0, .ptr 3 0, (clean1 x), (clean1 y), (clean1 z), AV.fn (33 : Nat) [] [.ptr 0 0, .ptr 1 0, .ptr 2 0], (clean1 (T 10)), (clean1 (T 11)), (clean1 (T 12)), (clean1 (T 13)), (clean1 (T 14)), (clean1 (T 15)), (clean1 (T 16)), (clean1 (T 17)), (clean1 (T 18)), (clean1 (T 19)), (clean1 (T 20)), (clean1 (T 21)), (clean1 (T 22)), (clean1
 (T 23)), (clean1 (T 24)), (clean1 (T 25)), .ptr 3 0, .ptr 3 0, .ptr 3 0, .ptr 3 1, .imm (.int .i64 i), .imm (.str s), .imm (.int .i64 (s.length : Int)), .imm (.bool (i == (s.length : Int))), .imm (.bool (i == (s.length : Int))), .opt [((34 : Nat), true)] (.agg [.imm (.str a), .imm (.int .i64 o), .imm (.bool h), .imm (.str b), .imm (.int .i64 p), .imm (.int .i64 k), .imm (.int .i64 d), .imm (.int .i64 m), .imm (.int .i64 w), .imm (.int .i64 e), .imm (.int .i64 t), .imm (.int .i64 k'), .imm (.int .i64 d'), .imm (.int .i64 m'), .imm (.int .i64 w'), .imm (.int .i64 e'), .imm (.int .i64 t')]), .opt [((34 : Nat), true)] (.imm (.bool (validRule a o h b p k d m w e t k' d' m' w' e' t'))), .imm (.bool (i == (s.length : Int) && validRule a o h b p k d m w e t k' d' m' w' e' t')), (clean1 (T 38)), (clean1 (T 39))] [(0, Ob.mk true 0 (AObj.cells [.imm (.str a), .imm (.int .i64 o), .imm (.bool h), .imm (.str b), .imm (.int .i64 p), .imm (.int .i64 k), .imm (.int .i64 d), .imm (.int .i64 m), .imm (.int .i64 w), .imm (.int .i64 e), .imm (.int .i64 t), .imm (.int .i64 k'), .imm (.int .i64 d'), .imm (.int .i64 m'), .imm (.int .i64 w'), .imm (.int .i64 e'), .imm (.int .i64 t')])), (1, Ob.mk true 0
 (AObj.cells [.imm (.int .i64 0)])), (2, Ob.mk true 0 (AObj.cells [.imm (.int .i64 0)])), (3, Ob.mk true 0 (AObj.cells [.imm (.str s), .imm (.int .i64 i)])), (4, Ob.mk true 0 (AObj.cells R4)), (5, Ob.mk true 0 (AObj.cells R5)), (6, Ob.mk true 0 (AObj.cells X)), (7, Ob.mk true 0 (AObj.cells Y)), (8, Ob.mk true 0 (AObj.cells Z)), (9, Ob.mk true 0 (AObj.cells W))] (10 : Nat) [.ptr 0 0, .ptr 1 0, .ptr 2 0])) (K AX.normal (St.mk [.imm (.str s), .dead, .ptr 0 0, .ptr 1 0, .ptr 2 0, .ptr 3 0, (clean1 x), (clean1 y), (clean1 z), AV.fn (33 : Nat) [] [.ptr 0 0, .ptr 1 0, .ptr 2 0], (clean1 (T 10)), (clean1 (T 11)), (clean1 (T 12)), (clean1 (T 13)), (clean1 (T 14)), (clean1 (T 15)), (clean1 (T 16)), (clean1 (T 17)), (clean1 (T 18)), (clean1 (T 19)), (clean1 (T 20)), (clean1 (T 21)), (clean1 (T 22)), (clean1 (T 23)), (clean1 (T 24)), (clean1 (T 25)), .ptr 3 0, .ptr 3 0, .ptr 3 0, .ptr 3 1, .imm (.int .i64 i), .imm (.str s), .imm (.int .i64 (s.length : Int)), .imm (.bool (i == (s.length : Int))), .imm (.bool (i == (s.length : Int))), .opt [((34 : Nat), true)] (.agg [.imm (.str a), .imm (.int .i64 o), .imm (.bool h), .imm (.str b), .imm (.int .i64 p), .imm (.int .i64 k), .imm (.int .i64 d), .imm
 (.int .i64 m), .imm (.int .i64 w), .imm (.int .i64 e), .imm (.int .i64 t), .imm (.int .i64 k'), .imm (.int .i64 d'), .imm (.int .i64 m'), .imm (.int .i64 w'), .imm (.int .i64 e'), .imm (.int .i64 t')]), .opt [((34 : Nat), true)] (.imm (.bool (validRule a o h b p k d m w e t k' d' m' w' e' t'))), .imm (.bool (i == (s.length : Int) && validRule a o h b p k d m w e t k' d' m' w' e' t')), .tup [], (clean1 (T 39))] [(0, Ob.mk true 0 (AObj.cells [.imm (.str a), .imm (.int .i64 o), .imm (.bool h), .imm (.str b), .imm (.int .i64 p), .imm (.int .i64 k), .imm (.int .i64 d), .imm (.int .i64 m), .imm (.int .i64 w), .imm (.int .i64 e), .imm (.int .i64 t), .imm (.int .i64 k'), .imm (.int .i64 d'), .imm (.int .i64 m'), .imm (.int .i64 w'), .imm (.int .i64 e'), .imm (.int .i64 t')])), (1, Ob.mk true 0 (AObj.cells [.imm (.int .i64 0)])), (2, Ob.mk true 0 (AObj.cells [.imm (.int .i64 0)])), (3, Ob.mk true 0 (AObj.cells [.imm (.str s), .imm (.int .i64 (IntKind.wrap .i64 (i + 0)))])), (4, Ob.mk true 0 (AObj.cells R4)), (5, Ob.mk true 0 (AObj.cells R5)), (6, Ob.mk true 0 (AObj.cells X)), (7, Ob.mk true 0 (AObj.cells Y)), (8, Ob.mk true 0 (AObj.cells Z)), (9, Ob.mk true 0 (AObj.cells W))] (10 : Nat)
 [.ptr 0 0, .ptr 1 0, .ptr 2 0]))) := by kernel_rfl
theorem f8_z (s : List UInt8) (i : Int) (a : List UInt8) (o : Int) (h : Bool) (b : List UInt8) (p : Int) (k : Int) (d : Int) (m : Int) (w : Int) (e : Int) (t : Int) (k' : Int) (d' : Int) (m' : Int) (w' : Int) (e' : Int) (t' : Int) (x : AV) (y : AV) (z : AV) (T : Nat → AV) (K : AX → St → Prop) : evCode C5 (c8 [Dir.r, Dir.r, Dir.r, Dir.r, Dir.r, Dir.r, Dir.r]) (S8 s i (R17 a o h b p k d m w e t k' d' m' w' e' t') x y z T) K = (K AX.ret (St.mk [.imm (.str s), .dead, .ptr 0 0, .ptr 1 0, .ptr 2 0, .ptr 3 0, x, y, z, AV.fn (33 : Nat) [] [.ptr 0 0, .ptr 1 0, .ptr 2 0], T 10, T 11, T 12, T 13, T 14, T 15, T 16, T 17, T 18, T 19, T 20, T 21, T 22, T 23, T 24, T 25, T 26, T 27, T 28, T 29, T 30, T 31, T 32, T 33, T 34, T 35, T 36, T 37, T 38, .agg [.imm (.str a), .imm (.int .i64 o), .imm (.bool h), .imm (.str b), .imm (.int .i64 p), .imm (.int .i64 k), .imm (.int .i64 d), .imm (.int .i64 m), .imm (.int .i64 w), .imm (.int .i64 e), .imm (.int .i64 t), .imm (.int .i64 k'), .imm (.int .i64 d'), .imm (.int .i64 m'), .imm (.int .i64 w'), .imm (.int .i64 e'), .imm (.int .i64 t')]] [(0, Ob.mk true 0 (AObj.cells [.imm (.str a), .imm (.int .i64 o), .imm (.bool h), .imm (.str b), .imm (.int .i64 p),
 .imm (.int .i64 k), .imm (.int .i64 d), .imm (.int .i64 m), .imm (.int .i64 w), .imm (.int .i64 e), .imm (.int .i64 t), .imm (.int .i64 k'), .imm (.int .i64 d'), .imm (.int .i64 m'), .imm (.int .i64 w'), .imm (.int .i64 e'), .imm (.int .i64 t')])), (1, Ob.mk true 0 (AObj.cells [.imm (.int .i64 0)])), (2, Ob.mk true 0 (AObj.cells [.imm (.int .i64 0)])), (3, Ob.mk true 0 (AObj.cells [.imm (.str s), .imm (.int .i64 i)]))] (4 : Nat) [.ptr 0 0, .ptr 1 0, .ptr 2 0])) := by kernel_rfl
theorem f8_zc (s : List UInt8) (i : Int) (a : List UInt8) (o : Int) (h : Bool) (b : List UInt8) (p : Int) (k : Int) (d : Int) (m : Int) (w : Int) (e : Int) (t : Int) (k' : Int) (d' : Int) (m' : Int) (w' : Int) (e' : Int) (t' : Int) (x : AV) (y : AV) (z : AV) (R4 : List AV) (R5 : List AV) (X : List AV) (Y : List AV) (Z : List AV) (W : List AV) (T : Nat → AV) (K : AX → St → Prop) : evCode C5 (c8 [Dir.r, Dir.r, Dir.r, Dir.r, Dir.r, Dir.r, Dir.r]) (S8c s i (R17 a o h b p k d m w e t k' d' m' w' e' t') x y z R4 R5 X Y Z W T) K = (K AX.ret (St.mk [.imm (.str s), .dead, .ptr 0 0, .ptr 1 0, .ptr 2 0, .ptr 3 0, x, y, z, AV.fn (33 : Nat) [] [.ptr 0 0, .ptr 1 0, .ptr 2 0], T 10, T 11, T 12, T 13, T 14, T 15, T 16, T 17, T 18, T 19, T 20, T 21, T 22, T 23, T 24, T 25, T 26, T 27, T 28, T 29, T 30, T 31, T 32, T 33, T 34, T 35, T 36, T 37, T 38, .agg [.imm (.str a), .imm (.int .i64 o), .imm (.bool h), .imm (.str b), .imm (.int .i64 p), .imm (.int .i64 k), .imm (.int .i64 d), .imm (.int .i64 m), .imm (.int .i64 w), .imm (.int .i64 e), .imm (.int .i64 t), .imm (.int .i64 k'), .imm (.int .i64 d'), .imm (.int .i64 m'), .imm (.int .i64 w'), .imm (.int .i64 e'), .imm (.int .i64 t')]] [(0, Ob.mk true 0
 (AObj.cells [.imm (.str a), .imm (.int .i64 o), .imm (.bool h), .imm (.str b), .imm (.int .i64 p), .imm (.int .i64 k), .imm (.int .i64 d), .imm (.int .i64 m), .imm (.int .i64 w), .imm (.int .i64 e), .imm (.int .i64 t), .imm (.int .i64 k'), .imm (.int .i64 d'), .imm (.int .i64 m'), .imm (.int .i64 w'), .imm (.int .i64 e'), .imm (.int .i64 t')])), (1, Ob.mk true 0 (AObj.cells [.imm (.int .i64 0)])), (2, Ob.mk true 0 (AObj.cells [.imm (.int .i64 0)])), (3, Ob.mk true 0 (AObj.cells [.imm (.str s), .imm (.int .i64 i)])), (4, Ob.mk true 0 (AObj.cells R4)), (5, Ob.mk true 0 (AObj.cells R5)), (6, Ob.mk true 0 (AObj.cells X)), (7, Ob.mk true 0 (AObj.cells Y)), (8, Ob.mk true 0 (AObj.cells Z)), (9, Ob.mk true 0 (AObj.cells W))] (10 : Nat) [.ptr 0 0, .ptr 1 0, .ptr 2 0])) := by kernel_rfl
theorem f16_n (R : List AV) (K : AX → St → Prop) : evCode C16 (c16 [Dir.r]) (E16 R nilV) K =
  (K AX.normal
  (St.mk
    [AV.ptr (0 : Nat) (0 : Nat), AV.ptr (1 : Nat) (0 : Nat), AV.ptr (2 : Nat) (0 : Nat), AV.imm (IV.val Value.nilIface),
      AV.dead, AV.dead, AV.imm (IV.val Value.nilIface), AV.imm (IV.val Value.nilIface), AV.imm (IV.bool false), AV.dead,
      AV.dead, AV.dead, AV.dead, AV.dead, AV.dead, AV.dead, AV.dead, AV.dead, AV.dead]
    [((0 : Nat), Ob.mk true (0 : Nat) (AObj.cells R)),
      ((1 : Nat), Ob.mk true (0 : Nat) (AObj.cells [AV.imm (IV.int IntKind.i64 (0 : Int))])),
      ((2 : Nat), Ob.mk true (0 : Nat) (AObj.cells [AV.imm (IV.int IntKind.i64 (0 : Int))]))]
    (3 : Nat) [AV.ptr (0 : Nat) (0 : Nat), AV.ptr (1 : Nat) (0 : Nat), AV.ptr (2 : Nat) (0 : Nat)])) := by kernel_rfl
theorem f16_s (r0 : AV) (r1 : AV) (r2 : AV) (r3 : AV) (r4 : AV) (r5 : AV) (r6 : AV) (r7 : AV) (r8 : AV) (r9 : AV) (r10 : AV) (r11 : AV) (r12 : AV) (r13 : AV) (r14 : AV) (r15 : AV) (r16 : AV) (j : Int) (K : AX → St → Prop) : evCode C16 (c16 [Dir.r]) (E16 [r0, r1, r2, r3, r4, r5, r6, r7, r8, r9, r10, r11, r12, r13, r14, r15, r16] (AV.ifc (66 : TypeId) (.agg [i64 j]))) K = ((K AX.ret (St.mk [.ptr 0 0, .ptr 1 0, .ptr 2 0, AV.ifc (66 : Nat) (.agg [.imm (.int .i64 j)]), .ptr 3 0, .imm (.bool true), AV.ifc (66 : Nat) (.agg [.imm (.int .i64 j)]), AV.ifc (66 : Nat) (.agg [.imm (.int .i64 j)]), .imm (.bool true), .tup [.agg [.imm (.int .i64 j)], .imm (.bool true)], AV.ifc (66 : Nat) (.agg [.imm (.int .i64 j)]), .tup [.agg [.imm (.int .i64 j)], .imm (.bool true)], .agg [.imm (.int .i64 j)], .imm (.bool true), .imm (.bool true), .agg [.imm (.str []), .imm (.int .i64 0), .imm (.bool false), .imm (.str []), .imm (.int .i64 0), .imm (.int .i64 0), .imm (.int .i64 0), .imm (.int .i64 0), .imm (.int .i64 0), .imm (.int .i64 0), .imm (.int .i64 0), .imm (.int .i64 0), .imm (.int .i64 0), .imm (.int .i64 0), .imm (.int .i64 0), .imm (.int .i64 0), .imm (.int .i64 0)], .ptr 3 0, .imm (.int .i64 j),
 .dead] [(0, Ob.mk true 0 (AObj.cells [.imm (.str []), .imm (.int .i64 0), .imm (.bool false), .imm (.str []), .imm (.int .i64 0), .imm (.int .i64 0), .imm (.int .i64 0), .imm (.int .i64 0), .imm (.int .i64 0), .imm (.int .i64 0), .imm (.int .i64 0), .imm (.int .i64 0), .imm (.int .i64 0), .imm (.int .i64 0), .imm (.int .i64 0), .imm (.int .i64 0), .imm (.int .i64 0)])), (1, Ob.mk true 0 (AObj.cells [.imm (.int .i64 14)])), (2, Ob.mk true 0 (AObj.cells [.imm (.int .i64 j)])), (3, Ob.mk true 0 (AObj.cells [.imm (.int .i64 j)]))] (4 : Nat) [.ptr 0 0, .ptr 1 0, .ptr 2 0]) ∧ K AX.ret (St.mk [.ptr 0 0, .ptr 1 0, .ptr 2 0, AV.ifc (66 : Nat) (.agg [.imm (.int .i64 j)]), .ptr 3 0, .imm (.bool true), AV.ifc (66 : Nat) (.agg [.imm (.int .i64 j)]), AV.ifc (66 : Nat) (.agg [.imm (.int .i64 j)]), .imm (.bool true), .tup [.agg [.imm (.int .i64 j)], .imm (.bool true)], AV.ifc (66 : Nat) (.agg [.imm (.int .i64 j)]), .tup [.agg [.imm (.int .i64 j)], .imm (.bool true)], .agg [.imm (.int .i64 j)], .imm (.bool true), .imm (.bool true), .agg [.imm (.str []), .imm (.int .i64 0), .imm (.bool false), .imm (.str []), .imm (.int .i64 0), .imm (.int .i64 0), .imm (.int .i64 0), .imm (.int .i64 0), .imm (.int
 .i64 0), .imm (.int .i64 0), .imm (.int .i64 0), .imm (.int .i64 0), .imm (.int .i64 0), .imm (.int .i64 0), .imm (.int .i64 0), .imm (.int .i64 0), .imm (.int .i64 0)], .ptr 3 0, .imm (.int .i64 j), .dead] [(0, Ob.mk true 0 (AObj.cells [.imm (.str []), .imm (.int .i64 0), .imm (.bool false), .imm (.str []), .imm (.int .i64 0), .imm (.int .i64 0), .imm (.int .i64 0), .imm (.int .i64 0), .imm (.int .i64 0), .imm (.int .i64 0), .imm (.int .i64 0), .imm (.int .i64 0), .imm (.int .i64 0), .imm (.int .i64 0), .imm (.int .i64 0), .imm (.int .i64 0), .imm (.int .i64 0)])), (1, Ob.mk true 0 (AObj.cells [.imm (.int .i64 14)])), (2, Ob.mk true 0 (AObj.cells [.imm (.int .i64 j)])), (3, Ob.mk true 0 (AObj.cells [.imm (.int .i64 j)]))] (4 : Nat) [.ptr 0 0, .ptr 1 0, .ptr 2 0]) ∧ K AX.ret (St.mk [.ptr 0 0, .ptr 1 0, .ptr 2 0, AV.ifc (66 : Nat) (.agg [.imm (.int .i64 j)]), .ptr 3 0, .imm (.bool true), AV.ifc (66 : Nat) (.agg [.imm (.int .i64 j)]), AV.ifc (66 : Nat) (.agg [.imm (.int .i64 j)]), .imm (.bool true), .tup [.agg [.imm (.int .i64 j)], .imm (.bool true)], AV.ifc (66 : Nat) (.agg [.imm (.int .i64 j)]), .tup [.agg [.imm (.int .i64 j)], .imm (.bool true)], .agg [.imm (.int .i64 j)], .imm
 (.bool true), .imm (.bool true), .agg [.imm (.str []), .imm (.int .i64 0), .imm (.bool false), .imm (.str []), .imm (.int .i64 0), .imm (.int .i64 0), .imm (.int .i64 0), .imm (.int .i64 0), .imm (.int .i64 0), .imm (.int .i64 0), .imm (.int .i64 0), .imm (.int .i64 0), .imm (.int .i64 0), .imm (.int .i64 0), .imm (.int .i64 0), .imm (.int .i64 0), .imm (.int .i64 0)], .ptr 3 0, .imm (.int .i64 j), .dead] [(0, Ob.mk true 0 (AObj.cells [.imm (.str []), .imm (.int .i64 0), .imm (.bool false), .imm (.str []), .imm (.int .i64 0), .imm (.int .i64 0), .imm (.int .i64 0), .imm (.int .i64 0), .imm (.int .i64 0), .imm (.int .i64 0), .imm (.int .i64 0), .imm (.int .i64 0), .imm (.int .i64 0), .imm (.int .i64 0), .imm (.int .i64 0), .imm (.int .i64 0), .imm (.int .i64 0)])), (1, Ob.mk true 0 (AObj.cells [.imm (.int .i64 14)])), (2, Ob.mk true 0 (AObj.cells [.imm (.int .i64 j)])), (3, Ob.mk true 0 (AObj.cells [.imm (.int .i64 j)]))] (4 : Nat) [.ptr 0 0, .ptr 1 0, .ptr 2 0])) ∧ K AX.ret (St.mk [.ptr 0 0, .ptr 1 0, .ptr 2 0, AV.ifc (66 : Nat) (.agg [.imm (.int .i64 j)]), .ptr 3 0, .imm (.bool true), AV.ifc (66 : Nat) (.agg [.imm (.int .i64 j)]), AV.ifc (66 : Nat) (.agg [.imm (.int .i64 j)]), .imm
 (.bool true), .tup [.agg [.imm (.int .i64 j)], .imm (.bool true)], AV.ifc (66 : Nat) (.agg [.imm (.int .i64 j)]), .tup [.agg [.imm (.int .i64 j)], .imm (.bool true)], .agg [.imm (.int .i64 j)], .imm (.bool true), .imm (.bool true), .agg [.imm (.str []), .imm (.int .i64 0), .imm (.bool false), .imm (.str []), .imm (.int .i64 0), .imm (.int .i64 0), .imm (.int .i64 0), .imm (.int .i64 0), .imm (.int .i64 0), .imm (.int .i64 0), .imm (.int .i64 0), .imm (.int .i64 0), .imm (.int .i64 0), .imm (.int .i64 0), .imm (.int .i64 0), .imm (.int .i64 0), .imm (.int .i64 0)], .ptr 3 0, .imm (.int .i64 j), .dead] [(0, Ob.mk true 0 (AObj.cells [.imm (.str []), .imm (.int .i64 0), .imm (.bool false), .imm (.str []), .imm (.int .i64 0), .imm (.int .i64 0), .imm (.int .i64 0), .imm (.int .i64 0), .imm (.int .i64 0), .imm (.int .i64 0), .imm (.int .i64 0), .imm (.int .i64 0), .imm (.int .i64 0), .imm (.int .i64 0), .imm (.int .i64 0), .imm (.int .i64 0), .imm (.int .i64 0)])), (1, Ob.mk true 0 (AObj.cells [.imm (.int .i64 14)])), (2, Ob.mk true 0 (AObj.cells [.imm (.int .i64 j)])), (3, Ob.mk true 0 (AObj.cells [.imm (.int .i64 j)]))] (4 : Nat) [.ptr 0 0, .ptr 1 0, .ptr 2 0])) := by kernel_rfl
end B9
set_option maxRecDepth 100000
namespace B9
open Go Go.AE Go.Proofs
attribute [local irreducible] loopK evCode evSpec loopB norm
theorem f9_ev (a : List UInt8) (o : Int) (h : Bool) (b : List UInt8) (p k d m w e t k' d' m' w' e' t' : Int) (ha : a.length ≤ 9223372036854775807) (hb : b.length ≤ 9223372036854775807)
    (K : List AV → Prop) (hK : K [bo (validRule a o h b p k d m w e t k' d' m' w' e' t')]) : evSpec C4 Tryd.f38 [ruleAV a o h b p k d m w e t k' d' m' w' e' t'] K := by
  rw [f9_in]
  unfold validRule at hK
  refine ⟨ha, brn_intro (fun h1 => ?_) (fun h1 => brn_intro (fun h2 => ?_) (fun h2 => ⟨hb, ?_⟩))⟩
  · have : (B7.valid a && side o) = false := by
      cases hx : B7.valid a <;> cases hy : side o <;> simp_all
    rw [this, Bool.false_and] at hK
    exact hK
  · have : (B7.valid a && side o) = true := by
      cases hx : B7.valid a <;> cases hy : side o <;> simp_all
    rw [this, Bool.true_and] at hK
    have hh : h = false := by simpa using h2
    subst hh
    simp only [Bool.false_eq_true, if_false] at hK
    simpa [bo, Bool.and_assoc] using hK
  · have : (B7.valid a && side o) = true := by
      cases hx : B7.valid a <;> cases hy : side o <;> simp_all
    rw [this, Bool.true_and] at hK
    have hh : h = true := by simpa using h2
    subst hh
    simp only [if_true] at hK
    exact hK
theorem ok9 : ∀ args pres res, sValidRule args = some (pres, res) → SpecOK Tryd.prog G0 38 args pres res := by
  intro args pres res h
  unfold sValidRule at h
  split at h
  case h_2 => cases h
  cases h
  exact mk okF4 at9 (by decide) rfl (fun hp K hK => f9_ev _ _ _ _ _ _ _ _ _ _ _ _ _ _ _ _ _ (hp _ (List.mem_cons_self ..)) (hp _ (List.mem_cons_of_mem _ (List.mem_cons_self ..))) K hK)
theorem okF5 : EOK Tryd.prog F5 G0 := addE_ok okF4 ok9
structure Dv where
  k : Int
  d : Int
  m : Int
  w : Int
  e : Int
  t : Int
deriving DecidableEq
structure Ru where
  a : List UInt8
  o : Int
  h : Bool
  b : List UInt8
  p : Int
  S : Dv
  E : Dv
deriving DecidableEq
def zD : Dv := ⟨0, 0, 0, 0, 0, 0⟩
def zR : Ru := ⟨[], 0, false, [], 0, zD, zD⟩
def Ru.cells (r : Ru) : List AV := R17 r.a r.o r.h r.b r.p r.S.k r.S.d r.S.m r.S.w r.S.e r.S.t r.E.k r.E.d r.E.m r.E.w r.E.e r.E.t
def validRu (r : Ru) : Bool := validRule r.a r.o r.h r.b r.p r.S.k r.S.d r.S.m r.S.w r.S.e r.S.t r.E.k r.E.d r.E.m r.E.w r.E.e r.E.t
def Dy.dv (x : Dy) : Dv := ⟨x.k, x.d, x.m, x.w, x.e, x.t⟩
inductive Out where
  | stop (j : Nat)
  | rule (r : Ru)
deriving DecidableEq
def nameQ (s : List UInt8) (i : Nat) (F : List UInt8 → Nat → Out) : Out :=
  if (B7.parse (s.drop i)).2.2 then F (B7.parse (s.drop i)).1 (i + (B7.parse (s.drop i)).2.1.toNat) else .stop i
def offQ (s : List UInt8) (i : Nat) (F : Int → Nat → Out) : Out :=
  if (B8.parse (s.drop i)).2.2 && side (B8.parse (s.drop i)).1 then F (0 - (B8.parse (s.drop i)).1) (i + (B8.parse (s.drop i)).2.1.toNat) else .stop i
def comma (s : List UInt8) (i : Nat) : Bool := match s.drop i with
  | b :: _ => b == 44
  | [] => false
def commaQ (s : List UInt8) (i : Nat) (F : Nat → Out) : Out := if comma s i then F (i + 1) else .stop i
def dayQ (s : List UInt8) (i : Nat) (F : Dv → Nat → Out) : Out :=
  if (day (s.drop i)).ok then F (day (s.drop i)).dv (i + (day (s.drop i)).n.toNat) else .stop i
def dstOffQ (s : List UInt8) (i : Nat) (o : Int) (F : Int → Nat → Out) : Out :=
  if (B8.parse (s.drop i)).2.2 then offQ s i F else F (o + 3600) i
def dstQ (s : List UInt8) (i : Nat) (a : List UInt8) (o : Int) (F : Ru → Nat → Out) : Out :=
  nameQ s i fun b i => dstOffQ s i o fun p i => commaQ s i fun i => dayQ s i fun S i => commaQ s i fun i => dayQ s i fun E i => F ⟨a, o, true, b, p, S, E⟩ i
def endP (s : List UInt8) (r : Ru) (i : Nat) : Out := if i = s.length then (if validRu r then .rule r else .stop i) else .stop i
def stdR (a : List UInt8) (o : Int) : Ru := ⟨a, o, false, [], 0, zD, zD⟩
def parse9 (s : List UInt8) : Out :=
  nameQ s 0 fun a i => offQ s i fun o i => if i < s.length then dstQ s i a o (endP s) else endP s (stdR a o) i
theorem parse7_n (s : List UInt8) : ∃ n : Nat, (B7.parse s).2.1 = (n : Int) ∧ n ≤ s.length ∧ (B7.parse s).1.length ≤ s.length := by
  have hP : ∀ s, ∃ n : Nat, (B7.parseP s).2.1 = (n : Int) ∧ n ≤ s.length ∧ (B7.parseP s).1.length ≤ s.length := by
    intro s
    unfold B7.parseP
    split
    · exact ⟨B7.letters s, rfl, B7.letters_le s, by simp; omega⟩
    · exact ⟨0, rfl, Nat.zero_le _, by simp⟩
  unfold B7.parse
  split
  · rename_i b r
    split
    · unfold B7.parseQ
      split
      · rename_i hp
        split
        · exact ⟨B7.place r 62 + 2, by simp, by simp only [List.length_cons]; omega, by simp; omega⟩
        · exact ⟨0, rfl, Nat.zero_le _, by simp⟩
      · exact ⟨0, rfl, Nat.zero_le _, by simp⟩
    · exact hP _
  · exact hP _
theorem day_n (s : List UInt8) : ∃ n : Nat, (day s).n = (n : Int) ∧ n ≤ s.length := by
  obtain ⟨i, hi, hl⟩ := date_n s
  have hT : ∀ (t : Int) (n : Nat) (ok : Bool), n ≤ s.length → ∃ m : Nat, (dayT (date s) t (n : Int) ok).n = (m : Int) ∧ m ≤ s.length := by
    intro t n ok hn
    unfold dayT
    split
    · exact ⟨n, rfl, hn⟩
    · exact ⟨0, rfl, Nat.zero_le _⟩
  unfold day
  split
  · rename_i hsl
    have hlt : i < s.length := by
      unfold slash at hsl
      simp only [Bool.and_eq_true, decide_eq_true_eq] at hsl
      omega
    obtain ⟨n, hn, hnl⟩ := parse_n (s.drop ((date s).n.toNat + 1))
    rw [hn, show ((date s).n + 1 + (n : Int)) = ((i + 1 + n : Nat) : Int) by omega]
    refine hT _ _ _ ?_
    rw [List.length_drop, hi, Int.toNat_natCast] at hnl
    omega
  · rw [hi]; exact hT _ _ _ hl
theorem side_b {n : Int} (h : side n = true) : -89999 ≤ n ∧ n ≤ 89999 := by
  unfold side at h
  simpa only [Bool.and_eq_true, decide_eq_true_eq] using h
theorem comma_eq (s : List UInt8) (i : Nat) : comma s i = (decide (i < s.length) && (s.getD i 0 == 44)) := by
  unfold comma
  rcases Nat.lt_or_ge i s.length with h | h
  · rw [List.drop_eq_getElem_cons h]
    simp [h, List.getD_eq_getElem?_getD]
  · rw [List.drop_of_length_le h]
    simp [Nat.not_lt.2 h]
end B9
set_option maxRecDepth 100000
namespace B9
open Go Go.AE Go.Proofs
attribute [local irreducible] loopK evCode evSpec loopB norm
def Ok0 (R0 : List AV) (st : St) : Prop := ∃ r, st.objs = (0, ⟨true, 0, .cells R0⟩) :: (1, ⟨true, 0, .cells [i64 0]⟩) :: (2, ⟨true, 0, .cells [i64 0]⟩) :: r
def Stops (G : Out → Prop) (R0 : List AV) (OUT : List AV) (K : AX → St → Prop) : Prop := ∀ (j : Nat) st, G (.stop j) → Ok0 R0 st → st.outer = OUT → K (.panic (.ifc 66 (.agg [i64 (j : Nat)]))) st
def Is19 (s : List UInt8) (j : Nat) (R0 : List AV) (r : Ru) (OUT : List AV) (st' : St) : Prop :=
  st' = S19 s (j : Nat) R0 r.cells zRule (nth .dead st'.tmps 1) (nth .dead st'.tmps 2) OUT (fun j => nth .dead st'.tmps j)
def cellsAt (st : St) (id : Nat) : List AV := match lookup st.objs id with
  | some ⟨_, _, .cells l⟩ => l
  | _ => []
def Is19b (s : List UInt8) (j : Nat) (R0 : List AV) (r : Ru) (OUT : List AV) (st' : St) : Prop :=
  st' = S19b s (j : Nat) R0 r.cells zRule (nth .dead st'.tmps 1) (nth .dead st'.tmps 2) OUT (cellsAt st' 6) (cellsAt st' 7) (fun j => nth .dead st'.tmps j)
def Is19c (s : List UInt8) (j : Nat) (R0 : List AV) (r : Ru) (OUT : List AV) (st' : St) : Prop :=
  st' = S19c s (j : Nat) R0 r.cells zRule (nth .dead st'.tmps 1) (nth .dead st'.tmps 2) OUT (cellsAt st' 6) (cellsAt st' 7) (cellsAt st' 8) (cellsAt st' 9) (fun j => nth .dead st'.tmps j)
variable {s : List UInt8} {i : Nat} {G : Out → Prop} {R0 OUT : List AV} {K : AX → St → Prop} {r : Ru}
theorem w1 {F : List UInt8 → Nat → Out} (hs : Stops G R0 OUT K) (hi : i ≤ s.length) (hl : s.length ≤ 1000000000000000000) (ho : -89999 ≤ r.o ∧ r.o ≤ 89999) (hG : G (nameQ s i F)) (st : St) (hst : Is19 s i R0 r OUT st)
    (hk : ∀ b j st', G (F b j) → i ≤ j → j ≤ s.length → b.length ≤ s.length → Is19 s j R0 { r with h := true, b := b, p := r.o + 3600 } OUT st' → K .normal st') : evCode C4i (c19 [.r, .l]) st K := by
  rw [hst]
  generalize nth .dead st.tmps 1 = x
  generalize nth .dead st.tmps 2 = y
  generalize (fun j => nth .dead st.tmps j) = T
  unfold Ru.cells
  rw [d_1]
  simp only [Int.toNat_natCast, take_rest]
  obtain ⟨n, hn, hnl, hbl⟩ := parse7_n (s.drop i)
  rw [List.length_drop] at hnl hbl
  have e1 : IntKind.wrap .i64 ((i : Int) + (n : Int)) = ((i + n : Nat) : Int) := by rw [wrap64 (by omega) (by omega)]; omega
  have e2 : IntKind.wrap .i64 (r.o + 3600) = r.o + 3600 := wrap64 (by omega) (by omega)
  simp only [hn, e1, e2]
  unfold nameQ at hG
  rw [hn, Int.toNat_natCast] at hG
  have stop : (B7.parse (s.drop i)).2.2 = false → G (.stop i) := fun h => by rw [h] at hG; exact hG
  have go : (B7.parse (s.drop i)).2.2 = true → G (F (B7.parse (s.drop i)).1 (i + n)) := fun h => by rw [if_pos h] at hG; exact hG
  have hdl : (s.drop i).length ≤ 9223372036854775800 := by rw [List.length_drop]; omega
  refine ⟨⟨by omega, by omega, hdl, brn_intro (fun h => hs i _ (stop (by simpa using h)) ⟨_, rfl⟩ rfl) (fun h => ?_)⟩, by omega, by omega, hdl, brn_intro (fun h => hs i _ (stop (by simpa using h)) ⟨_, rfl⟩ rfl) (fun h => ?_)⟩
  · exact hk _ (i + n) _ (go (by simpa using h)) (by omega) (by omega) (by omega) (by show _ = _; kernel_rfl)
  · exact hk _ (i + n) _ (go (by simpa using h)) (by omega) (by omega) (by omega) (by show _ = _; kernel_rfl)
theorem w2 {F : Int → Nat → Out} (hs : Stops G R0 OUT K) (hi : i ≤ s.length) (hl : s.length ≤ 1000000000000000000) (hp : r.p = r.o + 3600) (hG : G (dstOffQ s i r.o F)) (st : St) (hst : Is19 s i R0 r OUT st)
    (hk : ∀ p j st', G (F p j) → i ≤ j → j ≤ s.length → Is19 s j R0 { r with p := p } OUT st' → K .normal st') : evCode C4i (c19 [.r, .r, .l]) st K := by
  rw [hst]
  generalize nth .dead st.tmps 1 = x
  generalize nth .dead st.tmps 2 = y
  generalize (fun j => nth .dead st.tmps j) = T
  unfold Ru.cells
  rw [d_2]
  simp only [Int.toNat_natCast, take_rest]
  obtain ⟨n, hn, hnl⟩ := parse_n (s.drop i)
  rw [List.length_drop] at hnl
  have e1 : IntKind.wrap .i64 ((i : Int) + (n : Int)) = ((i + n : Nat) : Int) := by rw [wrap64 (by omega) (by omega)]; omega
  simp only [hn, e1]
  unfold dstOffQ offQ at hG
  rw [hn, Int.toNat_natCast] at hG
  have hdl : ((s.drop i).length : Int) ≤ B8.big := by rw [List.length_drop]; simp only [B8.big]; omega
  refine ⟨by omega, by omega, hdl, brn_intro (fun h1 => ⟨by omega, by omega, hdl, brn_intro (fun h2 => ?_) (fun h2 => ?_)⟩) (fun h1 => ?_)⟩
  · rw [if_pos h1] at hG
    refine hs i _ ?_ ⟨_, rfl⟩ rfl
    rw [if_neg (by rw [Bool.not_eq_true'] at h2; rw [h2]; decide)] at hG
    exact hG
  · rw [if_pos h1] at hG
    have h2' : ((B8.parse (s.drop i)).2.2 && side (B8.parse (s.drop i)).1) = true := by simpa using h2
    rw [if_pos h2'] at hG
    have hsd := side_b (by rw [Bool.and_eq_true] at h2'; exact h2'.2)
    have e3 : IntKind.wrap .i64 (0 - (B8.parse (s.drop i)).1) = 0 - (B8.parse (s.drop i)).1 := wrap64 (by omega) (by omega)
    simp only [e3]
    exact hk _ (i + n) _ hG (by omega) (by omega) (by show _ = _; kernel_rfl)
  · rw [if_neg (by simpa using h1)] at hG
    have hh : { r with p := r.o + 3600 } = r := by rw [← hp]
    refine hk _ i _ hG (by omega) (by omega) ?_
    rw [hh]
    show _ = _
    kernel_rfl
theorem comma_int (s : List UInt8) (i : Nat) : (decide ((i : Int) < (s.length : Int)) && ((s.getD i 0).toNat : Int) == 44) = comma s i := by
  rw [comma_eq, Bool.eq_iff_iff]
  simp only [Bool.and_eq_true, decide_eq_true_eq, beq_iff_eq]
  have : ∀ b : UInt8, ((b.toNat : Int) = 44 ↔ b = 44) := fun b => by
    constructor
    · intro h; apply UInt8.toNat_inj.1; have : b.toNat = 44 := by omega
      simpa using this
    · rintro rfl; rfl
  rw [this]
  constructor <;> rintro ⟨a, b⟩ <;> exact ⟨by omega, b⟩
theorem w3 {F : Nat → Out} (hs : Stops G R0 OUT K) (hi : i ≤ s.length) (hl : s.length ≤ 1000000000000000000) (hG : G (commaQ s i F)) (st : St) (hst : Is19 s i R0 r OUT st)
    (hk : ∀ st', G (F (i + 1)) → i + 1 ≤ s.length → Is19 s (i + 1) R0 r OUT st' → K .normal st') : evCode C4i (c19 [.r, .r, .r, .l]) st K := by
  rw [hst]
  generalize nth .dead st.tmps 1 = x
  generalize nth .dead st.tmps 2 = y
  generalize (fun j => nth .dead st.tmps j) = T
  unfold Ru.cells
  rw [d_3]
  simp only [Int.toNat_natCast]
  have e1 : IntKind.wrap .i64 ((i : Int) + 1) = ((i + 1 : Nat) : Int) := by rw [wrap64 (by omega) (by omega)]; omega
  simp only [e1]
  rw [comma_int]
  unfold commaQ at hG
  refine ⟨fun _ => by omega, fun h => by simpa using h, brn_intro (fun h => hs i _ ?_ ⟨_, rfl⟩ rfl) (fun h => ?_)⟩
  · rw [if_neg (by simpa using h)] at hG; exact hG
  · have h' : comma s i = true := by simpa using h
    rw [if_pos h'] at hG
    have hlt : i < s.length := by rw [comma_eq] at h'; simp at h'; exact h'.1
    exact hk _ hG (by omega) (by show _ = _; kernel_rfl)
theorem w4 {F : Dv → Nat → Out} (hs : Stops G R0 OUT K) (hi : i ≤ s.length) (hl : s.length ≤ 1000000000000000000) (hG : G (dayQ s i F)) (st : St) (hst : Is19 s i R0 r OUT st)
    (hk : ∀ S j st', G (F S j) → i ≤ j → j ≤ s.length → Is19b s j R0 { r with S := S } OUT st' → K .normal st') : evCode C4i (c19 [.r, .r, .r, .r, .l]) st K := by
  rw [hst]
  generalize nth .dead st.tmps 1 = x
  generalize nth .dead st.tmps 2 = y
  generalize (fun j => nth .dead st.tmps j) = T
  unfold Ru.cells
  rw [d_4]
  simp only [Int.toNat_natCast, take_rest]
  obtain ⟨n, hn, hnl⟩ := day_n (s.drop i)
  rw [List.length_drop] at hnl
  have e1 : IntKind.wrap .i64 ((i : Int) + (n : Int)) = ((i + n : Nat) : Int) := by rw [wrap64 (by omega) (by omega)]; omega
  simp only [hn, e1]
  unfold dayQ at hG
  rw [hn, Int.toNat_natCast] at hG
  have hdl : ((s.drop i).length : Int) ≤ big - 20 := by rw [List.length_drop]; simp only [big]; omega
  have stop : (day (s.drop i)).ok = false → G (.stop i) := fun h => by rw [h] at hG; exact hG
  have go : (day (s.drop i)).ok = true → G (F (day (s.drop i)).dv (i + n)) := fun h => by rw [if_pos h] at hG; exact hG
  have fin : ∀ (st' : St), (!(day (s.drop i)).ok) = false → Is19b s (i + n) R0 { r with S := (day (s.drop i)).dv } OUT st' → K .normal st' := fun st' h hI => hk _ (i + n) st' (go (by simpa using h)) (by omega) (by omega) hI
  have bad : ∀ st', (!(day (s.drop i)).ok) = true → Ok0 R0 st' → st'.outer = OUT → K (.panic (.ifc 66 (.agg [i64 (i : Nat)]))) st' := fun st' h h1 h2 => hs i st' (stop (by simpa using h)) h1 h2
  repeat' first | (exact brn_intro (fun h => bad _ h ⟨_, rfl⟩ rfl) (fun h => fin _ h (by show _ = _; kernel_rfl))) | refine And.intro ?_ ?_
  all_goals first | exact hdl | omega
theorem w5 {F : Nat → Out} (hs : Stops G R0 OUT K) (hi : i ≤ s.length) (hl : s.length ≤ 1000000000000000000) (hG : G (commaQ s i F)) (st : St) (hst : Is19b s i R0 r OUT st)
    (hk : ∀ st', G (F (i + 1)) → i + 1 ≤ s.length → Is19b s (i + 1) R0 r OUT st' → K .normal st') : evCode C4i (c19 [.r, .r, .r, .r, .r, .l]) st K := by
  rw [hst]
  generalize nth .dead st.tmps 1 = x
  generalize nth .dead st.tmps 2 = y
  generalize cellsAt st 6 = X
  generalize cellsAt st 7 = Y
  generalize (fun j => nth .dead st.tmps j) = T
  unfold Ru.cells
  rw [d_5]
  simp only [Int.toNat_natCast]
  have e1 : IntKind.wrap .i64 ((i : Int) + 1) = ((i + 1 : Nat) : Int) := by rw [wrap64 (by omega) (by omega)]; omega
  simp only [e1]
  rw [comma_int]
  unfold commaQ at hG
  refine ⟨fun _ => by omega, fun h => by simpa using h, brn_intro (fun h => hs i _ ?_ ⟨_, rfl⟩ rfl) (fun h => ?_)⟩
  · rw [if_neg (by simpa using h)] at hG; exact hG
  · have h' : comma s i = true := by simpa using h
    rw [if_pos h'] at hG
    have hlt : i < s.length := by rw [comma_eq] at h'; simp at h'; exact h'.1
    exact hk _ hG (by omega) (by show _ = _; kernel_rfl)
theorem w6 {F : Dv → Nat → Out} (hs : Stops G R0 OUT K) (hi : i ≤ s.length) (hl : s.length ≤ 1000000000000000000) (hG : G (dayQ s i F)) (st : St) (hst : Is19b s i R0 r OUT st)
    (hk : ∀ S j st', G (F S j) → i ≤ j → j ≤ s.length → Is19c s j R0 { r with E := S } OUT st' → K .normal st') : evCode C4i (c19 [.r, .r, .r, .r, .r, .r, .l]) st K := by
  rw [hst]
  generalize nth .dead st.tmps 1 = x
  generalize nth .dead st.tmps 2 = y
  generalize cellsAt st 6 = X
  generalize cellsAt st 7 = Y
  generalize (fun j => nth .dead st.tmps j) = T
  unfold Ru.cells
  rw [d_6]
  simp only [Int.toNat_natCast, take_rest]
  obtain ⟨n, hn, hnl⟩ := day_n (s.drop i)
  rw [List.length_drop] at hnl
  have e1 : IntKind.wrap .i64 ((i : Int) + (n : Int)) = ((i + n : Nat) : Int) := by rw [wrap64 (by omega) (by omega)]; omega
  simp only [hn, e1]
  unfold dayQ at hG
  rw [hn, Int.toNat_natCast] at hG
  have hdl : ((s.drop i).length : Int) ≤ big - 20 := by rw [List.length_drop]; simp only [big]; omega
  have stop : (day (s.drop i)).ok = false → G (.stop i) := fun h => by rw [h] at hG; exact hG
  have go : (day (s.drop i)).ok = true → G (F (day (s.drop i)).dv (i + n)) := fun h => by rw [if_pos h] at hG; exact hG
  have fin : ∀ (st' : St), (!(day (s.drop i)).ok) = false → Is19c s (i + n) R0 { r with E := (day (s.drop i)).dv } OUT st' → K .normal st' := fun st' h hI => hk _ (i + n) st' (go (by simpa using h)) (by omega) (by omega) hI
  have bad : ∀ st', (!(day (s.drop i)).ok) = true → Ok0 R0 st' → st'.outer = OUT → K (.panic (.ifc 66 (.agg [i64 (i : Nat)]))) st' := fun st' h h1 h2 => hs i st' (stop (by simpa using h)) h1 h2
  repeat' first | (exact brn_intro (fun h => bad _ h ⟨_, rfl⟩ rfl) (fun h => fin _ h (by show _ = _; kernel_rfl))) | refine And.intro ?_ ?_
  all_goals first | exact hdl | omega
end B9
set_option maxRecDepth 100000
namespace B9
open Go Go.AE Go.Proofs
attribute [local irreducible] loopK evCode evSpec loopB norm
variable {s : List UInt8} {i : Nat} {G : Out → Prop} {R0 OUT : List AV} {K : AX → St → Prop} {r : Ru}
theorem cut19_0 (st : St) (K : AX → St → Prop) : evCode C4i (c19 []) st K = evCode C4i (c19 [.l]) st (fun x st => match x with
    | .normal => evCode C4i (c19 [.r]) st K
    | x => K x st) := by kernel_rfl
theorem cut19_1 (st : St) (K : AX → St → Prop) : evCode C4i (c19 [.r]) st K = evCode C4i (c19 [.r, .l]) st (fun x st => match x with
    | .normal => evCode C4i (c19 [.r, .r]) st K
    | x => K x st) := by kernel_rfl
theorem cut19_2 (st : St) (K : AX → St → Prop) : evCode C4i (c19 [.r, .r]) st K = evCode C4i (c19 [.r, .r, .l]) st (fun x st => match x with
    | .normal => evCode C4i (c19 [.r, .r, .r]) st K
    | x => K x st) := by kernel_rfl
theorem cut19_3 (st : St) (K : AX → St → Prop) : evCode C4i (c19 [.r, .r, .r]) st K = evCode C4i (c19 [.r, .r, .r, .l]) st (fun x st => match x with
    | .normal => evCode C4i (c19 [.r, .r, .r, .r]) st K
    | x => K x st) := by kernel_rfl
theorem cut19_4 (st : St) (K : AX → St → Prop) : evCode C4i (c19 [.r, .r, .r, .r]) st K = evCode C4i (c19 [.r, .r, .r, .r, .l]) st (fun x st => match x with
    | .normal => evCode C4i (c19 [.r, .r, .r, .r, .r]) st K
    | x => K x st) := by kernel_rfl
theorem cut19_5 (st : St) (K : AX → St → Prop) : evCode C4i (c19 [.r, .r, .r, .r, .r]) st K = evCode C4i (c19 [.r, .r, .r, .r, .r, .l]) st (fun x st => match x with
    | .normal => evCode C4i (c19 [.r, .r, .r, .r, .r, .r]) st K
    | x => K x st) := by kernel_rfl
theorem cut19_6 (st : St) (K : AX → St → Prop) : evCode C4i (c19 [.r, .r, .r, .r, .r, .r]) st K = evCode C4i (c19 [.r, .r, .r, .r, .r, .r, .l]) st (fun x st => match x with
    | .normal => evCode C4i (c19 [.r, .r, .r, .r, .r, .r, .r]) st K
    | x => K x st) := by kernel_rfl
def E19 (s : List UInt8) (i : Nat) (R0 : List AV) (r : Ru) (OUT : List AV) : St := ⟨lapp [.ptr 3 0, .agg r.cells] (lrepl 43 .dead), o8 s i R0, 4, OUT⟩
theorem dst19 {F : Ru → Nat → Out} (hs : Stops G R0 OUT K) (hi : i ≤ s.length) (hl : s.length ≤ 1000000000000000000) (ho : -89999 ≤ r.o ∧ r.o ≤ 89999) (hG : G (dstQ s i r.a r.o F)) (hr : r.S = zD ∧ r.E = zD)
    (hk : ∀ (b : List UInt8) p S E j st', G (F ⟨r.a, r.o, true, b, p, S, E⟩ j) → j ≤ s.length → b.length ≤ s.length → Is19c s j R0 ⟨r.a, r.o, true, b, p, S, E⟩ OUT st' → evCode C4i (c19 [.r, .r, .r, .r, .r, .r, .r]) st' K) :
    evCode C4i (bodyOf Tryd.f36) (E19 s i R0 r OUT) K := by
  show evCode C4i (c19 []) _ K
  rw [cut19_0]
  unfold E19 Ru.cells
  show evCode C4i (c19 [.l]) (⟨lapp [.ptr 3 0, ruleAV r.a r.o r.h r.b r.p r.S.k r.S.d r.S.m r.S.w r.S.e r.S.t r.E.k r.E.d r.E.m r.E.w r.E.e r.E.t] (lrepl 43 .dead), o8 s i R0, 4, OUT⟩ : St) _
  rw [d_0]
  have step1 : ∀ st', Is19 s i R0 r OUT st' → evCode C4i (c19 [.r]) st' K := by
    intro st' h
    rw [cut19_1]
    refine w1 ?_ hi hl ho hG st' h (fun b j st2 hG2 hij hj hb h2 => ?_)
    · exact fun j st a b c => hs j st a b c
    rw [cut19_2]
    refine w2 (r := { r with h := true, b := b, p := r.o + 3600 }) ?_ hj hl rfl hG2 st2 h2 (fun p j3 st3 hG3 _ hj3 h3 => ?_)
    · exact fun j st a b c => hs j st a b c
    rw [cut19_3]
    refine w3 ?_ hj3 hl hG3 st3 h3 (fun st4 hG4 hj4 h4 => ?_)
    · exact fun j st a b c => hs j st a b c
    rw [cut19_4]
    refine w4 ?_ hj4 hl hG4 st4 h4 (fun S j5 st5 hG5 _ hj5 h5 => ?_)
    · exact fun j st a b c => hs j st a b c
    rw [cut19_5]
    refine w5 ?_ hj5 hl hG5 st5 h5 (fun st6 hG6 hj6 h6 => ?_)
    · exact fun j st a b c => hs j st a b c
    rw [cut19_6]
    refine w6 ?_ hj6 hl hG6 st6 h6 (fun E j7 st7 hG7 _ hj7 h7 => ?_)
    · exact fun j st a b c => hs j st a b c
    exact hk b p S E j7 st7 hG7 hj7 hb h7
  exact step1 _ (by show _ = _; kernel_rfl)
end B9
set_option maxRecDepth 100000
namespace B9
open Go Go.AE Go.Proofs
attribute [local irreducible] loopK evCode evSpec loopB norm
variable {s : List UInt8} {i : Nat} {G : Out → Prop} {K : AX → St → Prop} {r : Ru}
def Stops8 (G : Out → Prop) (K : AX → St → Prop) : Prop := ∀ (j : Nat) st, G (.stop j) → (∃ R, R.length = 17 ∧ Ok0 R st) → st.outer = P3 → K (.panic (.ifc 66 (.agg [i64 (j : Nat)]))) st
def Done8 (G : Out → Prop) (K : AX → St → Prop) : Prop := ∀ (r : Ru) st, G (.rule r) → Ok0 r.cells st → st.outer = P3 → nth .dead st.tmps 2 = .ptr 0 0 → nth .dead st.tmps 3 = .ptr 1 0 → nth .dead st.tmps 4 = .ptr 2 0 → K .ret st
def Is8 (s : List UInt8) (j : Nat) (r : Ru) (st' : St) : Prop :=
  st' = S8 s (j : Nat) r.cells (nth .dead st'.tmps 6) (nth .dead st'.tmps 7) (nth .dead st'.tmps 8) (fun j => nth .dead st'.tmps j)
def Is8c (s : List UInt8) (j : Nat) (r : Ru) (st' : St) : Prop :=
  st' = S8c s (j : Nat) r.cells (nth .dead st'.tmps 6) (nth .dead st'.tmps 7) (nth .dead st'.tmps 8) (cellsAt st' 4) (cellsAt st' 5) (cellsAt st' 6) (cellsAt st' 7) (cellsAt st' 8) (cellsAt st' 9) (fun j => nth .dead st'.tmps j)
theorem v1 {F : List UInt8 → Nat → Out} (hs : Stops8 G K) (hi : i ≤ s.length) (hl : s.length ≤ 1000000000000000000) (a : List UInt8) (o : Int) (hG : G (nameQ s i F)) (st : St) (hst : Is8 s i (stdR a o) st)
    (hk : ∀ b j st', G (F b j) → i ≤ j → j ≤ s.length → b.length ≤ s.length → Is8 s j (stdR b o) st' → K .normal st') : evCode C5 (c8 [.r, .r, .r, .l]) st K := by
  rw [hst]
  generalize nth .dead st.tmps 6 = x
  generalize nth .dead st.tmps 7 = y
  generalize nth .dead st.tmps 8 = z
  generalize (fun j => nth .dead st.tmps j) = T
  show evCode C5 (c8 [.r, .r, .r, .l]) (S8 s i (R8 a o) x y z T) K
  rw [f8_n]
  simp only [Int.toNat_natCast, take_rest]
  obtain ⟨n, hn, hnl, hbl⟩ := parse7_n (s.drop i)
  rw [List.length_drop] at hnl hbl
  have e1 : IntKind.wrap .i64 ((i : Int) + (n : Int)) = ((i + n : Nat) : Int) := by rw [wrap64 (by omega) (by omega)]; omega
  simp only [hn, e1]
  unfold nameQ at hG
  rw [hn, Int.toNat_natCast] at hG
  have stop : (B7.parse (s.drop i)).2.2 = false → G (.stop i) := fun h => by rw [h] at hG; exact hG
  have go : (B7.parse (s.drop i)).2.2 = true → G (F (B7.parse (s.drop i)).1 (i + n)) := fun h => by rw [if_pos h] at hG; exact hG
  have hdl : (s.drop i).length ≤ 9223372036854775800 := by rw [List.length_drop]; omega
  refine ⟨by omega, by omega, hdl, brn_intro (fun h => hs i _ (stop (by simpa using h)) ⟨_, rfl, _, rfl⟩ rfl) (fun h => ?_)⟩
  exact hk _ (i + n) _ (go (by simpa using h)) (by omega) (by omega) (by omega) (by show _ = _; kernel_rfl)
theorem v2 {F : Int → Nat → Out} (hs : Stops8 G K) (hi : i ≤ s.length) (hl : s.length ≤ 1000000000000000000) (a : List UInt8) (o : Int) (hG : G (offQ s i F)) (st : St) (hst : Is8 s i (stdR a o) st)
    (hk : ∀ p j st', G (F p j) → -89999 ≤ p → p ≤ 89999 → i ≤ j → j ≤ s.length → Is8 s j (stdR a p) st' → K .normal st') : evCode C5 (c8 [.r, .r, .r, .r, .l]) st K := by
  rw [hst]
  generalize nth .dead st.tmps 6 = x
  generalize nth .dead st.tmps 7 = y
  generalize nth .dead st.tmps 8 = z
  generalize (fun j => nth .dead st.tmps j) = T
  show evCode C5 (c8 [.r, .r, .r, .r, .l]) (S8 s i (R8 a o) x y z T) K
  rw [f8_o]
  simp only [Int.toNat_natCast, take_rest]
  obtain ⟨n, hn, hnl⟩ := parse_n (s.drop i)
  rw [List.length_drop] at hnl
  have e1 : IntKind.wrap .i64 ((i : Int) + (n : Int)) = ((i + n : Nat) : Int) := by rw [wrap64 (by omega) (by omega)]; omega
  simp only [hn, e1]
  unfold offQ at hG
  rw [hn, Int.toNat_natCast] at hG
  have hdl : ((s.drop i).length : Int) ≤ B8.big := by rw [List.length_drop]; simp only [B8.big]; omega
  refine ⟨by omega, by omega, hdl, brn_intro (fun h2 => ?_) (fun h2 => ?_)⟩
  · refine hs i _ ?_ ⟨_, rfl, _, rfl⟩ rfl
    rw [if_neg (by rw [Bool.not_eq_true'] at h2; rw [h2]; decide)] at hG
    exact hG
  · have h2' : ((B8.parse (s.drop i)).2.2 && side (B8.parse (s.drop i)).1) = true := by simpa using h2
    rw [if_pos h2'] at hG
    have hsd := side_b (by rw [Bool.and_eq_true] at h2'; exact h2'.2)
    have e3 : IntKind.wrap .i64 (0 - (B8.parse (s.drop i)).1) = 0 - (B8.parse (s.drop i)).1 := wrap64 (by omega) (by omega)
    simp only [e3]
    exact hk _ (i + n) _ hG (by omega) (by omega) (by omega) (by omega) (by show _ = _; kernel_rfl)
theorem cut8_3 (st : St) (K : AX → St → Prop) : evCode C5 (c8 [.r, .r, .r]) st K = evCode C5 (c8 [.r, .r, .r, .l]) st (fun x st => match x with
    | .normal => evCode C5 (c8 [.r, .r, .r, .r]) st K
    | x => K x st) := by kernel_rfl
theorem cut8_4 (st : St) (K : AX → St → Prop) : evCode C5 (c8 [.r, .r, .r, .r]) st K = evCode C5 (c8 [.r, .r, .r, .r, .l]) st (fun x st => match x with
    | .normal => evCode C5 (c8 [.r, .r, .r, .r, .r]) st K
    | x => K x st) := by kernel_rfl
theorem cut8_5 (st : St) (K : AX → St → Prop) : evCode C5 (c8 [.r, .r, .r, .r, .r]) st K = evCode C5 (c8 [.r, .r, .r, .r, .r, .l]) st (fun x st => match x with
    | .normal => evCode C5 (c8 [.r, .r, .r, .r, .r, .r]) st K
    | x => K x st) := by kernel_rfl
theorem cut8_6 (st : St) (K : AX → St → Prop) : evCode C5 (c8 [.r, .r, .r, .r, .r, .r]) st K = evCode C5 (c8 [.r, .r, .r, .r, .r, .r, .l]) st (fun x st => match x with
    | .normal => evCode C5 (c8 [.r, .r, .r, .r, .r, .r, .r]) st K
    | x => K x st) := by kernel_rfl
def opsOf : Code → Array Oper
  | .region _ ops _ => ops
  | _ => #[]
noncomputable def ops6 : Array Oper := opsOf (c8 [.r, .r, .r, .r, .r, .l, .r, .l])
noncomputable def k6 (k : AX → St → Prop) : List AV → St → Prop := fun vs st' => evOps C5 false ops6 (fun v st => k (.panic v) st) (ldrop 3 ops6.toList) [] (st'.put (some 25) (resAV vs)) (fun st => k .normal st)
def T6 (r : Ru) (T : Nat → AV) : Nat → AV := fun j => bif Nat.beq j 23 then .ptr 3 0 else bif Nat.beq j 24 then .agg r.cells else T j
theorem f8_dg (call : FuncId → List AV → St → (AV → St → Prop) → (AV → St → Prop) → Prop) (s : List UInt8) (i : Int) (r : Ru) (x y z : AV) (T : Nat → AV) (k : AX → St → Prop) : evCode ⟨Tryd.prog, F5, call, G0, 0⟩ (c8 [.r, .r, .r, .r, .r, .l, .r, .l]) (S8 s i r.cells x y z T) k =
    call 36 [.ptr 3 0, .agg r.cells] (S8 s i r.cells x y z (T6 r T)) (fun v st' => evOps ⟨Tryd.prog, F5, call, G0, 0⟩ false ops6 (fun v st => k (.panic v) st) (ldrop 3 ops6.toList) [] (st'.put (some 25) v) (fun st => k .normal st)) (fun v st' => k (.panic v) st') := by kernel_rfl
theorem inl36 (args : List AV) (st : St) (k : AV → St → Prop) (kp : AV → St → Prop) : inl inlF Tryd.prog F5 G0 0 4 36 args st k kp = evFunc C4i Tryd.f36 args st (fun vs st' => k (resAV vs) st') kp := by
  show (match inlF 36 with | some fn => evFunc C4i fn args st (fun vs st' => k (resAV vs) st') kp | none => False) = _
  have : inlF 36 = some Tryd.f36 := rfl
  rw [this]
theorem f8_d (s : List UInt8) (i : Int) (r : Ru) (x y z : AV) (T : Nat → AV) (k : AX → St → Prop) : evCode C5 (c8 [.r, .r, .r, .r, .r, .l, .r, .l]) (S8 s i r.cells x y z T) k =
    evFunc C4i Tryd.f36 [.ptr 3 0, .agg r.cells] (S8 s i r.cells x y z (T6 r T)) (k6 k) (fun v st' => k (.panic v) st') := (f8_dg _ s i r x y z T k).trans (inl36 ..)
theorem k6_ev (s : List UInt8) (i : Int) (r r' : Ru) (x y z : AV) (R4 R5 X Y Z W : List AV) (T : Nat → AV) (k : AX → St → Prop) : k6 k [.agg r'.cells] (S8c s i r.cells x y z R4 R5 X Y Z W T) =
    k .normal (S8c s i r'.cells x y z R4 R5 X Y Z W (fun j => bif Nat.beq j 25 then .agg r'.cells else T j)) := by kernel_rfl
theorem cond8 (s : List UInt8) (i : Int) (r : Ru) (x y z : AV) (T : Nat → AV) (K : AX → St → Prop) : evCode C5 (c8 [.r, .r, .r, .r, .r, .l]) (S8 s i r.cells x y z T) K =
    brn (decide (i < (s.length : Int))) (evCode C5 (c8 [.r, .r, .r, .r, .r, .l, .r, .l]) (S8 s i r.cells x y z (fun j => bif Nat.ble 16 j then (bif Nat.ble j 22 then
       nth .dead [.ptr 3 0, .ptr 3 0, .ptr 3 1, i64 i, st s, i64 s.length, bo (decide (i < (s.length : Int)))] (j - 16) else T j) else T j)) K)
     (K .normal (S8 s i r.cells x y z (fun j => bif Nat.ble 16 j then (bif Nat.ble j 22 then
       nth .dead [.ptr 3 0, .ptr 3 0, .ptr 3 1, i64 i, st s, i64 s.length, bo (decide (i < (s.length : Int)))] (j - 16) else T j) else T j))) := by kernel_rfl
end B9
set_option maxRecDepth 100000
namespace B9
open Go Go.AE Go.Proofs
attribute [local irreducible] loopK evCode evSpec loopB norm k6 evFunc
variable {s : List UInt8} {i : Nat} {G : Out → Prop} {K : AX → St → Prop} {r : Ru}
theorem endW (hs : Stops8 G K) (hd : Done8 G K) (hi : i ≤ s.length) (hl : s.length ≤ 1000000000000000000) (ha : r.a.length ≤ s.length) (hb : r.b.length ≤ s.length) (hG : G (endP s r i)) (st : St) (hst : Is8 s i r st) :
    evCode C5 (c8 [.r, .r, .r, .r, .r, .r]) st K := by
  rw [hst, cut8_6]
  generalize nth .dead st.tmps 6 = x
  generalize nth .dead st.tmps 7 = y
  generalize nth .dead st.tmps 8 = z
  generalize (fun j => nth .dead st.tmps j) = T
  have fin : ∀ st', G (.rule r) → Is8 s i r st' → evCode C5 (c8 [.r, .r, .r, .r, .r, .r, .r]) st' K := by
    intro st' h hst'
    rw [hst']
    generalize nth .dead st'.tmps 6 = x
    generalize nth .dead st'.tmps 7 = y
    generalize nth .dead st'.tmps 8 = z
    generalize (fun j => nth .dead st'.tmps j) = T
    unfold Ru.cells
    rw [f8_z]
    exact hd r _ h ⟨_, rfl⟩ rfl rfl rfl rfl
  unfold Ru.cells
  rw [f8_v]
  have e1 : IntKind.wrap .i64 ((i : Int) + 0) = (i : Int) := by rw [wrap64 (by omega) (by omega)]; omega
  simp only [e1]
  unfold endP at hG
  refine ⟨fun _ => by omega, fun _ => by omega, brn_intro (fun h => hs i _ ?_ ⟨_, rfl, _, rfl⟩ rfl) (fun h => ?_)⟩
  · have h' : ¬ (i = s.length ∧ validRu r = true) := by
      rintro ⟨h1, h2⟩
      unfold validRu at h2
      rw [h2, Bool.and_true] at h
      simp [h1] at h
    by_cases h1 : i = s.length
    · rw [if_pos h1, if_neg (fun h2 => h' ⟨h1, h2⟩)] at hG; exact hG
    · rw [if_neg h1] at hG; exact hG
  · have h2 : (((i : Int) == (s.length : Int)) && validRu r) = true := by
      unfold validRu
      rw [Bool.not_eq_false'] at h
      exact h
    rw [Bool.and_eq_true, beq_iff_eq] at h2
    rw [if_pos (by omega), if_pos h2.2] at hG
    exact fin _ hG (by show _ = _; kernel_rfl)
theorem endWc (hs : Stops8 G K) (hd : Done8 G K) (hi : i ≤ s.length) (hl : s.length ≤ 1000000000000000000) (ha : r.a.length ≤ s.length) (hb : r.b.length ≤ s.length) (hG : G (endP s r i)) (st : St) (hst : Is8c s i r st) :
    evCode C5 (c8 [.r, .r, .r, .r, .r, .r]) st K := by
  rw [hst, cut8_6]
  generalize nth .dead st.tmps 6 = x
  generalize nth .dead st.tmps 7 = y
  generalize nth .dead st.tmps 8 = z
  generalize cellsAt st 4 = R4
  generalize cellsAt st 5 = R5
  generalize cellsAt st 6 = X
  generalize cellsAt st 7 = Y
  generalize cellsAt st 8 = Z
  generalize cellsAt st 9 = W
  generalize (fun j => nth .dead st.tmps j) = T
  have fin : ∀ st', G (.rule r) → Is8c s i r st' → evCode C5 (c8 [.r, .r, .r, .r, .r, .r, .r]) st' K := by
    intro st' h hst'
    rw [hst']
    generalize nth .dead st'.tmps 6 = x
    generalize nth .dead st'.tmps 7 = y
    generalize nth .dead st'.tmps 8 = z
    generalize cellsAt st' 4 = R4
    generalize cellsAt st' 5 = R5
    generalize cellsAt st' 6 = X
    generalize cellsAt st' 7 = Y
    generalize cellsAt st' 8 = Z
    generalize cellsAt st' 9 = W
    generalize (fun j => nth .dead st'.tmps j) = T
    unfold Ru.cells
    rw [f8_zc]
    exact hd r _ h ⟨_, rfl⟩ rfl rfl rfl rfl
  unfold Ru.cells
  rw [f8_vc]
  have e1 : IntKind.wrap .i64 ((i : Int) + 0) = (i : Int) := by rw [wrap64 (by omega) (by omega)]; omega
  simp only [e1]
  unfold endP at hG
  refine ⟨fun _ => by omega, fun _ => by omega, brn_intro (fun h => hs i _ ?_ ⟨_, rfl, _, rfl⟩ rfl) (fun h => ?_)⟩
  · have h' : ¬ (i = s.length ∧ validRu r = true) := by
      rintro ⟨h1, h2⟩
      unfold validRu at h2
      rw [h2, Bool.and_true] at h
      simp [h1] at h
    by_cases h1 : i = s.length
    · rw [if_pos h1, if_neg (fun h2 => h' ⟨h1, h2⟩)] at hG; exact hG
    · rw [if_neg h1] at hG; exact hG
  · have h2 : (((i : Int) == (s.length : Int)) && validRu r) = true := by
      unfold validRu
      rw [Bool.not_eq_false'] at h
      exact h
    rw [Bool.and_eq_true, beq_iff_eq] at h2
    rw [if_pos (by omega), if_pos h2.2] at hG
    exact fin _ hG (by show _ = _; kernel_rfl)
def kf19 (n : Nat) (k : List AV → St → Prop) (kp : AV → St → Prop) : AX → St → Prop := fun x st1 => match x with
  | .normal => match resOf Tryd.prog st1 Tryd.f36.results.toList with
    | some vs => k vs (leave n st1)
    | none => False
  | .ret => match resOf Tryd.prog st1 Tryd.f36.results.toList with
    | some vs => k vs (leave n st1)
    | none => False
  | .panic v => kp v (leave n st1)
  | .exit _ => False
def O8 (s : List UInt8) (i : Nat) (r : Ru) (x y z : AV) (T : Nat → AV) : List AV := lapp (S8 s i r.cells x y z T).tmps P3
theorem in19 (s : List UInt8) (i : Nat) (r : Ru) (x y z : AV) (T : Nat → AV) (k : List AV → St → Prop) (kp : AV → St → Prop) : evFunc C4i Tryd.f36 [.ptr 3 0, .agg r.cells] (S8 s i r.cells x y z T) k kp =
    evCode C4i (bodyOf Tryd.f36) (E19 s i r.cells r (O8 s i r x y z T)) (kf19 40 k kp) := by kernel_rfl
theorem out19 (s : List UInt8) (i j : Nat) (r r' : Ru) (x y z u v : AV) (X Y Z W : List AV) (T t : Nat → AV) (k : List AV → St → Prop) (kp : AV → St → Prop) :
    kf19 40 k kp .ret ⟨lapp [.ptr 3 0, u, v, .ptr 4 0, .ptr 5 0] (lmap t (ldrop 5 (upto 45 []))), lapp (o8 s j r.cells) [(4, ⟨true, 0, .cells r'.cells⟩), (5, ⟨true, 0, .cells r'.cells⟩), (6, ⟨true, 0, .cells X⟩), (7, ⟨true, 0, .cells Y⟩), (8, ⟨true, 0, .cells Z⟩), (9, ⟨true, 0, .cells W⟩)], 10, O8 s i r x y z T⟩ =
    k [.agg r'.cells] (S8c s j r.cells x y z r'.cells r'.cells X Y Z W T) := by kernel_rfl
end B9
set_option maxRecDepth 100000
namespace B9
open Go Go.AE Go.Proofs
attribute [local irreducible] loopK evCode evSpec loopB norm k6 evFunc
variable {s : List UInt8} {i : Nat} {G : Out → Prop} {K : AX → St → Prop} {r : Ru}
theorem out19' (s : List UInt8) (i j : Nat) (r r' : Ru) (x y z : AV) (T : Nat → AV) (k : List AV → St → Prop) (kp : AV → St → Prop) (st2 : St)
    (hst : st2 = ⟨lapp [.ptr 3 0, nth .dead st2.tmps 1, nth .dead st2.tmps 2, .ptr 4 0, .ptr 5 0] (lmap (fun j => nth .dead st2.tmps j) (ldrop 5 (upto 45 []))), lapp (o8 s j r.cells) [(4, ⟨true, 0, .cells r'.cells⟩), (5, ⟨true, 0, .cells r'.cells⟩), (6, ⟨true, 0, .cells (cellsAt st2 6)⟩), (7, ⟨true, 0, .cells (cellsAt st2 7)⟩), (8, ⟨true, 0, .cells (cellsAt st2 8)⟩), (9, ⟨true, 0, .cells (cellsAt st2 9)⟩)], 10, O8 s i r x y z T⟩)
    (hk : ∀ X Y Z W, k [.agg r'.cells] (S8c s j r.cells x y z r'.cells r'.cells X Y Z W T)) : kf19 40 k kp .ret st2 := by
  rw [hst, out19]
  exact hk _ _ _ _
theorem dst8 (hs : Stops8 G K) (hi : i ≤ s.length) (hl : s.length ≤ 1000000000000000000) (ho : -89999 ≤ r.o ∧ r.o ≤ 89999) (hr : r.S = zD ∧ r.E = zD) {F : Ru → Nat → Out} (hG : G (dstQ s i r.a r.o F)) (x y z : AV) (T : Nat → AV)
    (hk : ∀ (b : List UInt8) p S E j st', G (F ⟨r.a, r.o, true, b, p, S, E⟩ j) → j ≤ s.length → b.length ≤ s.length → Is8c s j ⟨r.a, r.o, true, b, p, S, E⟩ st' → K .normal st') :
    evCode C5 (c8 [.r, .r, .r, .r, .r, .l, .r, .l]) (S8 s i r.cells x y z T) K := by
  rw [f8_d, in19]
  generalize T6 r T = T
  refine dst19 (R0 := r.cells) ?_ hi hl ho hG hr (fun b p S E j st' hG' hj hb h => ?_)
  · intro j st g ok out
    obtain ⟨w, hw⟩ := ok
    exact hs j (leave 40 st) g ⟨r.cells, rfl, w, hw⟩ (by show ldrop 40 st.outer = P3; rw [out]; rfl)
  · rw [h]
    generalize nth .dead st'.tmps 1 = u
    generalize nth .dead st'.tmps 2 = v
    generalize cellsAt st' 6 = X
    generalize cellsAt st' 7 = Y
    generalize cellsAt st' 8 = Z
    generalize cellsAt st' 9 = W
    generalize (fun j => nth .dead st'.tmps j) = t
    show evCode C4i _ (S19c s j r.cells (R17 r.a r.o true b p S.k S.d S.m S.w S.e S.t E.k E.d E.m E.w E.e E.t) zRule u v (O8 s i r x y z T) X Y Z W t) _
    rw [d_7]
    refine out19' s i j r ⟨r.a, r.o, true, b, p, S, E⟩ x y z T (k6 K) _ _ (by show _ = _; kernel_rfl) (fun X Y Z W => ?_)
    rw [k6_ev]
    exact hk b p S E j _ hG' hj hb (by show _ = _; kernel_rfl)
theorem walk8 (hs : Stops8 G K) (hd : Done8 G K) (hl : s.length ≤ 1000000000000000000) (hG : G (parse9 s)) (st : St) (hst : Is8 s 0 (stdR [] 0) st) : evCode C5 (c8 [.r, .r, .r]) st K := by
  rw [cut8_3]
  refine v1 ?_ (Nat.zero_le _) hl [] 0 hG st hst (fun a j1 st1 hG1 _ hj1 hla h1 => ?_)
  · exact fun j st a b c => hs j st a b c
  show evCode C5 (c8 [.r, .r, .r, .r]) st1 K
  rw [cut8_4]
  refine v2 ?_ hj1 hl a 0 hG1 st1 h1 (fun o j2 st2 hG2 ho1 ho2 _ hj2 h2 => ?_)
  · exact fun j st a b c => hs j st a b c
  show evCode C5 (c8 [.r, .r, .r, .r, .r]) st2 K
  rw [cut8_5, h2]
  generalize nth .dead st2.tmps 6 = x
  generalize nth .dead st2.tmps 7 = y
  generalize nth .dead st2.tmps 8 = z
  generalize (fun j => nth .dead st2.tmps j) = T
  rw [cond8]
  generalize (fun j => bif Nat.ble 16 j then (bif Nat.ble j 22 then nth .dead [.ptr 3 0, .ptr 3 0, .ptr 3 1, i64 j2, B9.st s, i64 s.length, bo (decide ((j2 : Int) < (s.length : Int)))] (j - 16) else T j) else T j) = T'
  refine brn_intro (fun h => ?_) (fun h => ?_)
  · have h' : j2 < s.length := by simpa using h
    rw [if_pos h'] at hG2
    refine dst8 (r := stdR a o) ?_ hj2 hl ⟨ho1, ho2⟩ ⟨rfl, rfl⟩ hG2 x y z T' (fun b p S E j3 st3 hG3 hj3 hlb h3 => ?_)
    · exact fun j st a b c => hs j st a b c
    exact endWc hs hd hj3 hl hla hlb hG3 st3 h3
  · have h' : ¬ j2 < s.length := by simpa using h
    rw [if_neg h'] at hG2
    show evCode C5 (c8 [.r, .r, .r, .r, .r, .r]) _ K
    exact endW hs hd hj2 hl hla (Nat.zero_le _) hG2 _ (by show _ = _; kernel_rfl)
end B9
set_option maxRecDepth 100000
namespace B9
open Go Go.AE Go.Proofs
attribute [local irreducible] loopK evCode evSpec loopB norm k6 evFunc
def three (R : List AV) (why n : Int) : List (Nat × Ob) := [(0, ⟨true, 0, .cells R⟩), (1, ⟨true, 0, .cells [i64 why]⟩), (2, ⟨true, 0, .cells [i64 n]⟩)]
def Less (R R' : List AV) : Prop := R'.length = R.length ∧ ∀ (j : Nat) v, R'[j]? = some v → v = .dead ∨ (R[j]? = some v ∧ ∃ x, v = .imm x)
theorem Less.imms {R : List AV} (h : ∀ v, v ∈ R → ∃ x, v = .imm x) : Less R R := ⟨rfl, fun j v hv => .inr ⟨hv, h v (List.mem_of_getElem? hv)⟩⟩
theorem gok_less {G : Nat → Option (List AV)} {w : World} {own own' : Nat → Prop} (ho : ∀ b, own' b → own b) (hk : GOK G w own) : GOK G w own' := by
  intro n l hG
  obtain ⟨h1, c, T, fr, h2, h3, h4, h5⟩ := hk n l hG
  refine ⟨fun h => h1 (ho n h), c, T, fr, h2, h3, fun j u hu => ?_, h5⟩
  have := h4 j u hu
  unfold GRep at this ⊢
  split at this
  · exact Rep.mono (Nat.le_refl _) (fun b _ h => ho b h) (fun _ _ _ => rfl) this
  · exact this
  · exact this
theorem forget {b0 : Nat} {w0 : World} {R R' : List AV} {why n : Int} {rest : List (Nat × Ob)} {next : Nat} {g : Gh} (hM : Mem G0 b0 w0 (three R why n ++ rest) next g) (hR : Less R R') :
    Mem G0 b0 w0 (three R' why n) 3 { g with objs := three R' why n } ∧ (∀ x V, ARep g (.imm x) V → ARep { g with objs := three R' why n } (.imm x) V) ∧
    ∀ id V, id < 3 → ARep g (.ptr id 0) V → ARep { g with objs := three R' why n } (.ptr id 0) V := by
  have hsame : ∀ {id}, id < 3 → (lookup g.objs id).isSome = true := fun {id} h => by
    rw [hM.same]
    match id, h with
    | 0, _ => rfl
    | 1, _ => rfl
    | 2, _ => rfl
  have hid : ∀ {id}, (lookup (three R' why n) id).isSome = true → id < 3 := fun {id} h => by
    match id with
    | 0 => decide
    | 1 => decide
    | 2 => decide
    | m + 3 =>
      have : lookup (three R' why n) (m + 3) = none := rfl
      rw [this] at h; cases h
  have hls : ∀ {id}, (lookup (three R' why n) id).isSome = true → (lookup g.objs id).isSome = true := fun {id} h => hsame (hid h)
  have hown : ∀ b, ({ g with objs := three R' why n } : Gh).own b → g.own b := fun b h => by
    rcases h with h | ⟨id, h1, h2, h3⟩
    · exact .inl h
    · exact .inr ⟨id, hls h1, h2, h3⟩
  have himm : ∀ x V, ARep g (.imm x) V → ARep { g with objs := three R' why n } (.imm x) V := fun x V h => .imm (h.imm_inv.mono (Nat.le_refl _) (fun b _ h => hown b h) (fun _ _ _ => rfl))
  refine ⟨⟨rfl, fun id ob h => ?_, fun id id' b h1 h2 => hM.uniq id id' b (hls h1) (hls h2), fun id h => ?_, hM.below, hM.size, fun b h => ⟨(hM.basel b h).1, fun id h1 => (hM.basel b h).2 id (hls h1)⟩, fun id b h1 => hM.above id b (hls h1), gok_less hown hM.glob⟩, himm, fun id V hi h => ?_⟩
  · have hlt := hid (by rw [h]; rfl : (lookup (three R' why n) id).isSome = true)
    have one : ∀ (id : Nat) (l l' : List AV), lookup g.objs id = some ⟨true, 0, .cells l⟩ → Less l l' → ObRep { g with objs := three R' why n } (g.ex id) (g.ρ id) ⟨true, 0, .cells l'⟩ := by
      intro id l l' hl hless
      have := hM.each id _ hl
      generalize g.ρ id = P at this ⊢
      generalize g.ex id = e at this ⊢
      cases this with
      | @cells _ _ b _ c T fr h1 h2 h3 h4 h5 h6 =>
        refine .cells h1 h2 h3 (by rw [h4, hless.1]) (fun j v hv => ?_) h6 (.inl rfl)
        rcases hless.2 j v hv with rfl | ⟨hv', x, rfl⟩
        · exact .dead
        · exact himm x _ (h5 j _ hv')
    match id, hlt with
    | 0, _ => cases h; exact one 0 R R' (by rw [hM.same]; rfl) hR
    | 1, _ => cases h; exact one 1 [i64 why] [i64 why] (by rw [hM.same]; rfl) (.imms (fun v hv => by rw [List.mem_singleton.1 hv]; exact ⟨_, rfl⟩))
    | 2, _ => cases h; exact one 2 [i64 n] [i64 n] (by rw [hM.same]; rfl) (.imms (fun v hv => by rw [List.mem_singleton.1 hv]; exact ⟨_, rfl⟩))
  · match id, h with
    | id + 3, _ => rfl
  · cases h with
    | @ptr _ _ b ob h1 h2 =>
      have : ∃ ob, lookup (three R' why n) id = some ob := by
        match id, hi with
        | 0, _ => exact ⟨_, rfl⟩
        | 1, _ => exact ⟨_, rfl⟩
        | 2, _ => exact ⟨_, rfl⟩
      obtain ⟨ob', ho⟩ := this
      exact .ptr ho h2
theorem at16 : Tryd.prog.funcs[33]? = some Tryd.f33 := by kernel_rfl
def K16 (Rf : List AV) (why n : Int) : AX → St → Prop := fun x st => (x = .normal ∨ x = .ret) ∧ st.outer = P3 ∧ ∃ rest, st.objs = three Rf why n ++ rest
theorem n16 (R : List AV) : evCode C16 (c16 [.r]) (E16 R nilV) (K16 R 0 0) := by
  rw [f16_n]
  exact ⟨.inl rfl, rfl, [], rfl⟩
theorem s16 (j : Int) : evCode C16 (c16 [.r]) (E16 (lrepl 17 .dead) (.ifc 66 (.agg [i64 j]))) (K16 zRule 14 j) := by
  show evCode C16 (c16 [.r]) (E16 [.dead, .dead, .dead, .dead, .dead, .dead, .dead, .dead, .dead, .dead, .dead, .dead, .dead, .dead, .dead, .dead, .dead] (.ifc 66 (.agg [i64 j]))) _
  rw [f16_s]
  repeat' first | exact ⟨.inr rfl, rfl, _, rfl⟩ | refine And.intro ?_ ?_
end B9
set_option maxRecDepth 100000
namespace B9
open Go Go.AE Go.Proofs
attribute [local irreducible] loopK evCode evSpec loopB norm k6 evFunc
theorem body16 : Tryd.f33.body = some (.seq (c16 [.l]) (c16 [.r])) := by kernel_rfl
theorem op16 : ∃ oa ob id, c16 [.l] = .region id #[oa, ob] false ∧ oa.op = .call ⟨.builtin .recover, #[], #[]⟩ ∧ oa.guard = none ∧ oa.dst = some 6 ∧ ob.op = .assign (.tmp 6) ∧ ob.guard = none ∧ ob.dst = some 3 :=
  ⟨_, _, _, rfl, rfl, rfl, rfl, rfl, rfl, rfl⟩
theorem run_recover {o : Oper} (ho : o.op = .call ⟨.builtin .recover, #[], #[]⟩) (ρ : Operand → Value) (w : World) : (execOp ρ o).run Tryd.prog w = .ok .recover w := by
  simp [execOp, ho, resolve, invoke, builtin, Sem.run_bind, Sem.run_pure]
theorem run_assign {o : Oper} {x : Operand} (ho : o.op = .assign x) (ρ : Operand → Value) (w : World) : (execOp ρ o).run Tryd.prog w = .ok (.value (ρ x)) w := by
  simp [execOp, ho, Sem.run_pure]
noncomputable def act16 (V0 V1 V2 XV : Value) : Act := (({ tmps := #[V0, V1, V2] ++ Array.replicate (Tryd.f33.ntmps - 3) undef, defers := [] } : Act).put (some 6) XV).put (some 3) XV
theorem act16_eq (V0 V1 V2 XV : Value) : (act16 V0 V1 V2 XV).tmps = #[V0, V1, V2, XV, undef, undef, XV, undef, undef, undef, undef, undef, undef, undef, undef, undef, undef, undef, undef] := by kernel_rfl
theorem tr16 {g : Gh} {R0 : List AV} {X : AV} {V0 V1 V2 XV : Value} (h0 : ARep g (.ptr 0 0) V0) (h1 : ARep g (.ptr 1 0) V1) (h2 : ARep g (.ptr 2 0) V2) (hX : ARep g X XV) : TmpsRep g (E16 R0 X).tmps (act16 V0 V1 V2 XV) := by
  unfold TmpsRep
  rw [act16_eq]
  refine ⟨rfl, fun t => ?_⟩
  match t with
  | 0 => exact h0
  | 1 => exact h1
  | 2 => exact h2
  | 3 => exact hX
  | 4 => exact .dead
  | 5 => exact .dead
  | 6 => exact hX
  | 7 => exact .dead
  | 8 => exact .dead
  | 9 => exact .dead
  | 10 => exact .dead
  | 11 => exact .dead
  | 12 => exact .dead
  | 13 => exact .dead
  | 14 => exact .dead
  | 15 => exact .dead
  | 16 => exact .dead
  | 17 => exact .dead
  | 18 => exact .dead
  | t + 19 => exact .dead
def Closed16 (b0 : Nat) (w0 : World) (g : Gh) (Rf : List AV) (why n : Int) (V0 V1 V2 : Value) (w' : World) : Prop :=
  ∃ (g' : Gh) (st' : St), g'.w = w' ∧ g'.base = g.base ∧ Mem G0 b0 w0 st'.objs st'.next g' ∧ (∃ rest, st'.objs = three Rf why n ++ rest) ∧ ARep g' (.ptr 0 0) V0 ∧ ARep g' (.ptr 1 0) V1 ∧ ARep g' (.ptr 2 0) V2
theorem ev6 (V0 V1 V2 X : Value) : (({ tmps := #[V0, V1, V2] ++ Array.replicate (Tryd.f33.ntmps - 3) undef, defers := [] } : Act).put (some 6) X).eval (.tmp 6) = X := by kernel_rfl
theorem close16 {b0 : Nat} {w0 : World} {g : Gh} {R0 Rf : List AV} {X : AV} {why n : Int} {V0 V1 V2 XV : Value} {u u' : FrameMode} (hev : evCode C16 (c16 [.r]) (E16 R0 X) (K16 Rf why n))
    (hM : Mem G0 b0 w0 (three R0 0 0) 3 g) (h0 : ARep g (.ptr 0 0) V0) (h1 : ARep g (.ptr 1 0) V1) (h2 : ARep g (.ptr 2 0) V2) (hX : ARep g X XV)
    (hrec : ∀ (c0 : Frame) cs, c0.mode = u → (recoverD (c0 :: cs) = some (XV, { c0 with mode := u' } :: cs) ∨ (recoverD (c0 :: cs) = none ∧ XV = .nilIface ∧ u' = u))) :
    CallsD Tryd.prog 33 #[V0, V1, V2] u g.w (fun e v w' => v = u' ∧ e = .returned (.tuple #[]) ∧ Closed16 b0 w0 g Rf why n V0 V1 V2 w') := by
  refine callsD_of_wpS at16 body16 (fun c0 cs hu => ?_)
  refine wpS_seq ?_
  obtain ⟨oa, ob, id, e, a1, a2, a3, b1, b2, b3⟩ := op16
  rw [e]
  refine wpS_region ?_
  have key : ∀ cs', cs' = { c0 with mode := u' } :: cs → (c16 [.r]).wpS Tryd.prog (bodyPostS Tryd.prog Tryd.f33 c0 cs (fun e v w' => v = u' ∧ e = .returned (.tuple #[]) ∧ Closed16 b0 w0 g Rf why n V0 V1 V2 w'))
      (act16 V0 V1 V2 XV) cs' g.w := by
    intro cs' hcs
    refine wpS_of_wp ?_
    have hT := tr16 (V0 := V0) (V1 := V1) (V2 := V2) (XV := XV) (R0 := R0) h0 h1 h2 hX
    refine evCode_sound (T := []) (C := C16) noE_ok noCall_ok (c16 [.r]) (noWC_nil _) (E16 R0 X) g _ _ _ hev hM hT (fun x st1 g1 a1 hk hM1 hO1 hK1 => ?_)
    obtain ⟨hx, hout, hobjs⟩ := hk
    have hd : a1.defers = [] := hK1.1.1
    have img := hO1.outer.2
    rw [hout] at img
    have fin : ∃ v, v = u' ∧ cs' = { c0 with mode := v } :: cs ∧ ∃ r, (results Tryd.f33 a1.tmps).run Tryd.prog g1.w = .ok r g1.w ∧ (v = u' ∧ Ending.returned r = .returned (.tuple #[]) ∧ Closed16 b0 w0 g Rf why n V0 V1 V2 g1.w) := by
      refine ⟨u', rfl, hcs, .tuple #[], ?_, rfl, rfl, g1, st1, rfl, hO1.base, hM1, hobjs, (img 0).1 _ h0, (img 1).1 _ h1, (img 2).1 _ h2⟩
      exact results_eq Tryd.f33 _ _ _ [] rfl
    obtain ⟨v, rfl, f1, r, f2, f3⟩ := fin
    rcases hx with rfl | rfl
    · exact fun _ => ⟨hd, v, f1, r, f2, f3⟩
    · exact fun _ => ⟨hd, v, f1, r, f2, f3⟩
  have hw : ∀ (o : Oper) f, o.guard = none → Region.wanted o f = true := fun o f h => wanted_none h f
  have e3 : (#[V0, V1, V2] : Array Value).size = 3 := rfl
  rw [e3]
  unfold act16 at key
  have h6 := ev6 V0 V1 V2
  generalize ({ tmps := #[V0, V1, V2] ++ Array.replicate (Tryd.f33.ntmps - 3) undef, defers := [] } : Act) = A at key h6 ⊢
  generalize bodyPostS Tryd.prog Tryd.f33 c0 cs _ = Q at key ⊢
  rw [show List.range (#[oa, ob] : Array Oper).size = [0, 1] from rfl]
  simp only [wpOpsS, List.getElem?_toArray, List.getElem?_cons_zero, List.getElem?_cons_succ, hw oa _ a2, hw ob _ b2, if_true, run_recover a1, run_assign b1, a3, b3]
  rcases hrec c0 cs hu with hr | ⟨hr, rfl, rfl⟩
  · rw [hr]
    simp only [Oper.upon, b3]
    rw [h6]
    exact key _ rfl
  · rw [hr]
    simp only [Oper.upon, b3]
    rw [h6]
    exact key _ (by rw [← hu])
end B9
set_option maxRecDepth 100000
namespace B9
open Go Go.AE Go.Proofs
attribute [local irreducible] loopK evCode evSpec loopB norm k6 evFunc
def res9 : Out → List AV
  | .stop j => [.agg zR.cells, i64 14, i64 j]
  | .rule r => [.agg r.cells, i64 0, i64 0]
def sParse9 : List AV → Option (List Prop × List AV)
  | [.imm (.str s)] => some ([(s.length : Int) ≤ 1000000000000000000], res9 (parse9 s))
  | _ => none
theorem run_enter {P : Program} {f : FuncId} {fn : Func} {c : Code} (hf : P.funcs[f]? = some fn) (hname : (fn.name == "runtime.NumGoroutine") = false) (hb : fn.body = some c) (bs : Array Value) (w : World) :
    (invoke (.fn (.func f) bs) #[]).run P w = .ok (.enter f bs) w := by
  have h1 : fn.name ≠ "runtime.NumGoroutine" := by simpa using hname
  simp [invoke, callFunc, hf, h1, hb, Sem.run_bind, Sem.run_pure]
def rs8 (R : List AV) (why n : Int) (rest : List (Nat × Ob)) (nx : Nat) (out : List AV) : St := ⟨lapp [.dead, .dead, .ptr 0 0, .ptr 1 0, .ptr 2 0] (lrepl 35 .dead), three R why n ++ rest, nx, out⟩
theorem res8 (r : Ru) (why n : Int) (rest : List (Nat × Ob)) (nx : Nat) (out : List AV) : resOf Tryd.prog (rs8 r.cells why n rest nx out) Tryd.f19.results.toList = some [.agg r.cells, i64 why, i64 n] := by kernel_rfl
theorem out8 (r : Ru) (why n : Int) (objs : List (Nat × Ob)) : outRes objs [.agg r.cells, i64 why, i64 n] [] = some [.agg r.cells, i64 why, i64 n] := by kernel_rfl
theorem leaves8 {b0 : Nat} {w0 : World} {g g1 : Gh} {R0 : List AV} {X : AV} {why n : Int} {r : Ru} {tmps : Array Value} {V0 V1 V2 XV : Value} {u u' : FrameMode} (hev : evCode C16 (c16 [.r]) (E16 R0 X) (K16 r.cells why n))
    (hM : Mem G0 b0 w0 (three R0 0 0) 3 g1) (h0 : ARep g1 (.ptr 0 0) V0) (h1 : ARep g1 (.ptr 1 0) V1) (h2 : ARep g1 (.ptr 2 0) V2) (hX : ARep g1 X XV)
    (hrec : ∀ (c0 : Frame) cs, c0.mode = u → (recoverD (c0 :: cs) = some (XV, { c0 with mode := u' } :: cs) ∨ (recoverD (c0 :: cs) = none ∧ XV = .nilIface ∧ u' = u)))
    (hu : u ≠ .run) (hset : settle u' = .returning) (hsz : tmps.size = 40) (t0 : tmps.getD 2 undef = V0) (t1 : tmps.getD 3 undef = V1) (t2 : tmps.getD 4 undef = V2) (hbase : g1.base = g.base) :
    Leaves Tryd.prog Tryd.f19 tmps (FuncDone C5 b0 w0 st0 g (endsAs [.agg r.cells, i64 why, i64 n]) (fun _ _ => False)) [{ target := .fn (.func 33) #[V0, V1, V2], args := #[] }] u g1.w := by
  refine leaves_cons hu (run_enter at16 (by decide) body16 _ _) ((close16 hev hM h0 h1 h2 hX hrec).mono ?_)
  rintro e v w' ⟨rfl, rfl, g4, st4, rfl, hb, hM4, ⟨rest, ho⟩, k0, k1, k2⟩
  show Leaves _ _ _ _ [] (settle v) _
  rw [hset]
  have hT : TmpsRep g4 (rs8 r.cells why n rest st4.next []).tmps { tmps := tmps, defers := [] } := by
    refine ⟨hsz, fun t => ?_⟩
    by_cases e2 : t = 2
    · subst e2; rw [t0]; exact k0
    · by_cases e3 : t = 3
      · subst e3; rw [t1]; exact k1
      · by_cases e4 : t = 4
        · subst e4; rw [t2]; exact k2
        · have : nth .dead (rs8 r.cells why n rest st4.next []).tmps t = .dead := by
            match t with
            | 0 => rfl
            | 1 => rfl
            | 2 => exact absurd rfl e2
            | 3 => exact absurd rfl e3
            | 4 => exact absurd rfl e4
            | t + 5 =>
              show nth .dead (lrepl 35 .dead) t = .dead
              rw [lrepl_eq, nth_eq, List.getD_eq_getElem?_getD, List.getElem?_replicate]
              split <;> rfl
          rw [this]
          exact .dead
  have hM4' : Mem C5.G b0 w0 (rs8 r.cells why n rest st4.next []).objs (rs8 r.cells why n rest st4.next []).next g4 := by
    show Mem G0 b0 w0 (three r.cells why n ++ rest) st4.next g4
    rw [← ho]; exact hM4
  obtain ⟨Vs, q1, q2, q3⟩ := resOf_sound (C := C5) hM4' hT (res8 r why n rest st4.next [])
  refine ⟨resV Vs, results_eq Tryd.f19 tmps Tryd.prog g4.w Vs q1, .inl ⟨_, ⟨[], st4.objs, st4.next, []⟩, g4, Vs, rfl, ?_, hM4, rfl, ?_, q2, q3⟩⟩
  · unfold endsAs
    rw [out8]
  · exact ⟨⟨rfl, fun t => .dead g g4⟩, ⟨rfl, fun t => .dead g g4⟩, hb.trans hbase⟩
theorem at8 : Tryd.prog.funcs[19]? = some Tryd.f19 := by kernel_rfl
theorem body8 : Tryd.f19.body = some (.seq (c8 [.l]) (.seq (c8 [.r, .l]) (.seq (c8 [.r, .r, .l]) (c8 [.r, .r, .r])))) := by kernel_rfl
theorem nt8 : Tryd.f19.ntmps = 40 := by kernel_rfl
theorem cut_a (st : St) (k : AX → St → Prop) : evCode C5 a8 st k = evCode C5 (c8 [.l]) st (fun x st => match x with
    | .normal => evCode C5 (c8 [.r, .l]) st k
    | x => k x st) := by kernel_rfl
theorem op8 : ∃ om od id, c8 [.r, .r, .l] = .region id #[om, od] false ∧ om.op = .makeFunc (.func 33) #[] #[.tmp 2, .tmp 3, .tmp 4] ∧ om.guard = none ∧ om.dst = some 9 ∧ od.op = .defer ⟨.value (.tmp 9), #[], #[]⟩ ∧ od.guard = none ∧ od.dst = none :=
  ⟨_, _, _, rfl, rfl, rfl, rfl, rfl, rfl, rfl⟩
theorem run_makeFunc {o : Oper} {f : FuncId} {cs : Array Operand} (ho : o.op = .makeFunc (.func f) #[] cs) (ρ : Operand → Value) (w : World) : (execOp ρ o).run Tryd.prog w = .ok (.value (.func (.func f) #[] (cs.map ρ))) w := by
  simp [execOp, ho, Instr.makeFunc]
theorem run_defer {o : Oper} {x : Operand} (ho : o.op = .defer ⟨.value x, #[], #[]⟩) (ρ : Operand → Value) (w : World) {fn : Fn} {cs : Array Value} (hx : ρ x = .func fn #[] cs) :
    (execOp ρ o).run Tryd.prog w = .ok (.defer { target := .fn fn cs, args := #[] }) w := by
  simp [execOp, ho, resolve, Deferred.ofValue, hx, Sem.run_bind, Sem.run_pure]
def tm8 (s : List UInt8) (F : AV) : List AV := lapp [st s, .dead, .ptr 0 0, .ptr 1 0, .ptr 2 0, .ptr 3 0, st s, .agg [st s, i64 0], .ptr 3 0, F] (lrepl 30 .dead)
def F16 : AV := .fn 33 [] [.ptr 0 0, .ptr 1 0, .ptr 2 0]
def ob8 (s : List UInt8) : List (Nat × Ob) := o8 s 0 zRule
def start8 (s : List UInt8) : AX → St → Prop := fun x st => x = .normal ∧ st.tmps = tm8 s .dead ∧ st.objs = ob8 s ∧ st.next = 4
theorem start8_ev (s : List UInt8) : evCode C5 (c8 [.l]) (e8 s) (fun x st => match x with
    | .normal => evCode C5 (c8 [.r, .l]) st (start8 s)
    | x => start8 s x st) := by
  rw [← cut_a, f8_a]
  exact ⟨rfl, rfl, rfl, rfl⟩
def M8 (s : List UInt8) : St := ⟨tm8 s F16, ob8 s, 4, P3⟩
theorem M8_is (s : List UInt8) : Is8 s 0 (stdR [] 0) (M8 s) := by
  show _ = _
  kernel_rfl
def K8 (s : List UInt8) : AX → St → Prop := fun x st => st.outer = P3 ∧ match x with
  | .ret => ∃ r : Ru, parse9 s = .rule r ∧ Ok0 r.cells st
  | .panic v => ∃ (j : Nat) (R : List AV), v = .ifc 66 (.agg [i64 j]) ∧ parse9 s = .stop j ∧ R.length = 17 ∧ Ok0 R st
  | _ => False
end B9
set_option maxRecDepth 100000
namespace B9
open Go Go.AE Go.Proofs
attribute [local irreducible] loopK evCode evSpec loopB norm k6 evFunc
theorem K8_ev (s : List UInt8) (hs : s.length ≤ 1000000000000000000) : evCode C5 (c8 [.r, .r, .r]) (M8 s) (K8 s) := by
  refine walk8 (G := fun o => parse9 s = o) (fun j st h ok out => ?_) (fun r st h ok out _ _ _ => ?_) hs rfl (M8 s) (M8_is s)
  · obtain ⟨R, hR, ok⟩ := ok
    exact ⟨out, j, R, rfl, h, hR, ok⟩
  · exact ⟨out, r, h, ok⟩
theorem noW8 : noWC [2, 3, 4] (c8 [.r, .r, .r]) = true := by kernel_rfl
theorem inlF_ok : ∀ f fn, inlF f = some fn → Tryd.prog.funcs[f]? = some fn ∧ (fn.name == "runtime.NumGoroutine") = false := by
  intro f fn h
  unfold inlF at h
  have one : ∀ (m : Nat) (fm : Func), Nat.beq f m = true → some fm = some fn → Tryd.prog.funcs[m]? = some fm → (fm.name == "runtime.NumGoroutine") = false → Tryd.prog.funcs[f]? = some fn ∧ (fn.name == "runtime.NumGoroutine") = false := by
    intro m fm hb e h1 h2
    have := nbeq hb
    subst this
    cases e
    exact ⟨h1, h2⟩
  cases h1 : Nat.beq f 34 with
  | true => rw [h1, cond_true] at h; exact one 34 _ h1 h (by kernel_rfl) (by decide)
  | false =>
  rw [h1, cond_false] at h
  cases h1 : Nat.beq f 35 with
  | true => rw [h1, cond_true] at h; exact one 35 _ h1 h (by kernel_rfl) (by decide)
  | false =>
  rw [h1, cond_false] at h
  cases h1 : Nat.beq f 36 with
  | true => rw [h1, cond_true] at h; exact one 36 _ h1 h (by kernel_rfl) (by decide)
  | false =>
  rw [h1, cond_false] at h
  cases h1 : Nat.beq f 37 with
  | true => rw [h1, cond_true] at h; exact one 37 _ h1 h (by kernel_rfl) (by decide)
  | false =>
  rw [h1, cond_false] at h
  cases h1 : Nat.beq f 56 with
  | true => rw [h1, cond_true] at h; exact one 56 _ h1 h (by kernel_rfl) (by decide)
  | false =>
  rw [h1, cond_false] at h
  cases h1 : Nat.beq f 57 with
  | true => rw [h1, cond_true] at h; exact one 57 _ h1 h (by kernel_rfl) (by decide)
  | false => rw [h1, cond_false] at h; cases h
theorem okC5 : CallOK C5 := inl_ok okF5 inlF_ok 4
theorem body_end {b0 : Nat} {w0 : World} {g0 g : Gh} {s : List UInt8} {a2 : Act} {V0 V1 V2 : Value} (hs : s.length ≤ 1000000000000000000) (hM : Mem G0 b0 w0 (ob8 s) 4 g) (hT : TmpsRep g (tm8 s F16) a2)
    (v0 : a2.tmps.getD 2 undef = V0) (v1 : a2.tmps.getD 3 undef = V1) (v2 : a2.tmps.getD 4 undef = V2) (hd : a2.defers = [{ target := .fn (.func 33) #[V0, V1, V2], args := #[] }]) (hb : g.base = g0.base) :
    (c8 [.r, .r, .r]).wp Tryd.prog (bodyPostD Tryd.prog Tryd.f19 (FuncDone C5 b0 w0 st0 g0 (endsAs (res9 (parse9 s))) (fun _ _ => False))) a2 g.w := by
  refine evCode_sound (T := [2, 3, 4]) (C := C5) okF5 okC5 (c8 [.r, .r, .r]) noW8 (M8 s) g a2 _ _ (K8_ev s hs) hM hT (fun x st1 g1 a1 hk hM1 hO1 hK1 => ?_)
  obtain ⟨hout, hk⟩ := hk
  have hd1 : a1.defers = [{ target := .fn (.func 33) #[V0, V1, V2], args := #[] }] := by rw [hK1.1.1]; exact hd
  have hsz : a1.tmps.size = 40 := by rw [hK1.1.2]; exact hT.1
  have t0 : a1.tmps.getD 2 undef = V0 := by rw [hK1.2 2 (by decide)]; exact v0
  have t1 : a1.tmps.getD 3 undef = V1 := by rw [hK1.2 3 (by decide)]; exact v1
  have t2 : a1.tmps.getD 4 undef = V2 := by rw [hK1.2 4 (by decide)]; exact v2
  have img := hO1.outer.2
  rw [hout] at img
  have r0 : ARep g1 (.ptr 0 0) V0 := (img 0).1 _ (by rw [← v0]; exact hT.2 2)
  have r1 : ARep g1 (.ptr 1 0) V1 := (img 1).1 _ (by rw [← v1]; exact hT.2 3)
  have r2 : ARep g1 (.ptr 2 0) V2 := (img 2).1 _ (by rw [← v2]; exact hT.2 4)
  have hb1 : g1.base = g0.base := by rw [hO1.base]; exact hb
  cases x with
  | normal => exact hk.elim
  | exit id => exact hk.elim
  | ret =>
    intro _
    obtain ⟨r, hp, rest, ho⟩ := hk
    have hM1' : Mem G0 b0 w0 (three r.cells 0 0 ++ rest) st1.next g1 := by
      rw [show three r.cells 0 0 ++ rest = st1.objs from ho.symm]; exact hM1
    have hL : Less r.cells r.cells := .imms (fun v hv => by
      unfold Ru.cells R17 at hv
      simp only [List.mem_cons, List.not_mem_nil, or_false] at hv
      rcases hv with rfl | rfl | rfl | rfl | rfl | rfl | rfl | rfl | rfl | rfl | rfl | rfl | rfl | rfl | rfl | rfl | rfl <;> exact ⟨_, rfl⟩)
    obtain ⟨hM3, _, hptr⟩ := forget hM1' hL
    show Leaves _ _ _ _ _ .returning _
    rw [hd1, hp]
    exact leaves8 (g1 := { g1 with objs := three r.cells 0 0 }) (X := nilV) (XV := .nilIface) (u' := .returning) (n16 r.cells) hM3 (hptr 0 _ (by decide) r0) (hptr 1 _ (by decide) r1) (hptr 2 _ (by decide) r2) (.imm (.val rfl))
      (fun c0 cs hu => .inr ⟨by simp [recoverD, hu], rfl, rfl⟩) (by simp) rfl hsz t0 t1 t2 hb1
  | panic v =>
    intro V hV
    obtain ⟨j, R, rfl, hp, hR, rest, ho⟩ := hk
    have hM1' : Mem G0 b0 w0 (three R 0 0 ++ rest) st1.next g1 := by
      rw [show three R 0 0 ++ rest = st1.objs from ho.symm]; exact hM1
    have hL : Less R (lrepl 17 .dead) := ⟨by rw [hR]; rfl, fun k v hv => .inl (by
      rw [lrepl_eq, List.getElem?_replicate] at hv
      split at hv
      · cases hv; rfl
      · cases hv)⟩
    obtain ⟨hM3, himm, hptr⟩ := forget hM1' hL
    have hX : ARep { g1 with objs := three (lrepl 17 .dead) 0 0 } (.ifc 66 (.agg [i64 j])) V := by
      cases hV with
      | ifc h =>
        cases h with
        | agg q1 q2 q3 =>
          refine .ifc (.agg q1 (fun k c hc => ?_) q3)
          match k with
          | 0 => simp only [List.getElem?_cons_zero, Option.some.injEq] at hc; subst hc; exact himm _ _ (q2 0 _ rfl)
          | k + 1 => simp at hc
    show Leaves _ _ _ _ _ (.panicking [{ v := V, recovered := false }]) _
    rw [hd1, hp]
    exact leaves8 (r := zR) (g1 := { g1 with objs := three (lrepl 17 .dead) 0 0 }) (u' := .panicking [{ v := V, recovered := true }]) (s16 j) hM3 (hptr 0 _ (by decide) r0) (hptr 1 _ (by decide) r1) (hptr 2 _ (by decide) r2) hX
      (fun c0 cs hu => .inl (by simp [recoverD, hu])) (by simp) rfl hsz t0 t1 t2 hb1
theorem put_getD {a : Act} {t : Nat} (V : Value) (h : t < a.tmps.size) : (a.put (some t) V).eval (.tmp t) = V := by
  show (a.tmps.setIfInBounds t V).getD t undef = V
  simp [Array.getD_eq_getD_getElem?, Array.getElem?_setIfInBounds, h]
theorem put_other {a : Act} {t u : Nat} (V : Value) (h : t ≠ u) : (a.put (some t) V).tmps.getD u undef = a.tmps.getD u undef := by
  show (a.tmps.setIfInBounds t V).getD u undef = _
  simp only [Array.getD_eq_getD_getElem?, Array.getElem?_setIfInBounds_ne h]
theorem calls8 {b0 : Nat} {w0 : World} {g : Gh} {s : List UInt8} {vals : Array Value} (hs : s.length ≤ 1000000000000000000) (hM : Mem G0 b0 w0 [] 0 g) (hsz : vals.size = 1) (hr : ARep g (st s) (vals.getD 0 undef)) :
    Calls Tryd.prog 19 vals g.w (FuncDone C5 b0 w0 st0 g (endsAs (res9 (parse9 s))) (fun _ _ => False)) := by
  refine calls_of_wp_defers at8 body8 ?_
  have hT0 : TmpsRep g (e8 s).tmps { tmps := vals ++ Array.replicate (Tryd.f19.ntmps - vals.size) undef, defers := [] } := by
    rw [nt8, hsz]
    refine ⟨by simp [hsz, e8, lapp_eq, lrepl_eq], fun t => ?_⟩
    match t with
    | 0 =>
      show ARep g (st s) _
      rw [Array.getD_eq_getD_getElem?, Array.getElem?_append, if_pos (by omega), ← Array.getD_eq_getD_getElem?]
      exact hr
    | t + 1 =>
      have : nth .dead (e8 s).tmps (t + 1) = .dead := by
        show nth .dead (lrepl 39 .dead) t = .dead
        rw [lrepl_eq, nth_eq, List.getD_eq_getElem?_getD, List.getElem?_replicate]
        split <;> rfl
      rw [this]
      exact .dead
  refine wp_seq ?_
  refine evCode_sound (T := []) (C := C5) okF5 okC5 (c8 [.l]) (noWC_nil _) (e8 s) g _ _ _ (start8_ev s) hM hT0 (fun x st1 g1 a1 hk hM1 hO1 hK1 => ?_)
  cases x with
  | exit id => exact absurd hk.1 (by simp)
  | ret => exact absurd hk.1 (by simp)
  | panic v => exact absurd hk.1 (by simp)
  | normal =>
  intro hT1
  show Code.wp _ _ _ _ _
  refine wp_seq ?_
  refine evCode_sound (T := []) (C := C5) okF5 okC5 (c8 [.r, .l]) (noWC_nil _) st1 g1 _ _ _ hk hM1 hT1 (fun x st2 g2 a2 hk hM2 hO2 hK2 => ?_)
  cases x with
  | exit id => exact absurd hk.1 (by simp)
  | ret => exact absurd hk.1 (by simp)
  | panic v => exact absurd hk.1 (by simp)
  | normal =>
  intro hT2
  obtain ⟨_, ht, ho, hn⟩ := hk
  rw [ht] at hT2
  rw [ho, hn] at hM2
  have hd2 : a2.defers = [] := by rw [hK2.1.1, hK1.1.1]
  have hsz2 : a2.tmps.size = 40 := hT2.1
  show Code.wp _ _ _ _ _
  refine wp_seq ?_
  obtain ⟨om, od, id, e, m1, m2, m3, d1, d2, d3⟩ := op8
  rw [e]
  refine wp_region_list ?_
  show wpList _ _ _ [om, od] _ _
  unfold wpList
  rw [if_pos (wanted_none m2 _)]
  left
  unfold Oper.wp
  have hmap : Array.map a2.eval #[.tmp 2, .tmp 3, .tmp 4] = #[a2.tmps.getD 2 undef, a2.tmps.getD 3 undef, a2.tmps.getD 4 undef] := by simp [Act.eval]
  rw [run_makeFunc m1, Oper.upon_value, m3, hmap]
  unfold wpList
  rw [if_pos (wanted_none d2 _)]
  left
  unfold Oper.wp
  rw [run_defer d1 _ _ (put_getD _ (by rw [hsz2]; decide)), Oper.upon_defer, d3]
  show Code.wp _ _ _ _ _
  refine body_end (V0 := a2.tmps.getD 2 undef) (V1 := a2.tmps.getD 3 undef) (V2 := a2.tmps.getD 4 undef) hs hM2 ?_ (put_other _ (by decide)) (put_other _ (by decide)) (put_other _ (by decide)) ?_ ((hO2.base.trans hO1.base))
  · refine ⟨by show (a2.tmps.setIfInBounds 9 _).size = _; rw [Array.size_setIfInBounds]; exact hT2.1, fun t => ?_⟩
    by_cases h9 : t = 9
    · subst h9
      have : ((a2.put (some 9) (.func (.func 33) #[] #[a2.tmps.getD 2 undef, a2.tmps.getD 3 undef, a2.tmps.getD 4 undef])).tmps.getD 9 undef) = .func (.func 33) #[] #[a2.tmps.getD 2 undef, a2.tmps.getD 3 undef, a2.tmps.getD 4 undef] := put_getD _ (by rw [hsz2]; decide)
      show ARep g2 F16 ((a2.put (some 9) (.func (.func 33) #[] #[a2.tmps.getD 2 undef, a2.tmps.getD 3 undef, a2.tmps.getD 4 undef])).tmps.getD 9 undef)
      rw [this]
      refine .fn rfl (fun j c hc => by simp at hc) rfl (fun j c hc => ?_)
      match j with
      | 0 => cases hc; exact hT2.2 2
      | 1 => cases hc; exact hT2.2 3
      | 2 => cases hc; exact hT2.2 4
      | j + 3 => simp at hc
    · show ARep g2 (nth .dead (tm8 s F16) t) ((a2.put (some 9) _).tmps.getD t undef)
      rw [put_other _ (fun h => h9 h.symm)]
      have : nth .dead (tm8 s F16) t = nth .dead (tm8 s .dead) t := by
        have : tm8 s F16 = setNth F16 (tm8 s .dead) 9 := rfl
        rw [this, setNth_eq, nth_eq, nth_eq, List.getD_eq_getElem?_getD, List.getElem?_set_ne (fun h => h9 h.symm), List.getD_eq_getElem?_getD]
      rw [this]
      exact hT2.2 t
  · show _ :: (a2.put _ _).defers = _
    rw [put_defers, hd2]
theorem ok8 : ∀ args pres res, sParse9 args = some (pres, res) → SpecOK Tryd.prog G0 19 args pres res := by
  intro args pres res h
  unfold sParse9 at h
  split at h
  case h_2 => cases h
  cases h
  rename_i s
  refine spec_done (C := C5) at8 (by decide) (by rw [body8]; rfl) (fun hp g b0 w0 vals hM hsz hr => ?_)
  have hl := hp _ (List.mem_cons_self ..)
  exact calls8 (by omega) hM hsz (hr 0 _ rfl)
end B9
set_option maxRecDepth 100000
namespace B9
open Go Go.AE Go.Proofs
attribute [local irreducible] loopK evCode evSpec loopB norm
def ruOf : Out → Ru
  | .stop _ => zR
  | .rule r => r
def whyOf : Out → Int
  | .stop _ => 14
  | .rule _ => 0
def atOf : Out → Int
  | .stop j => j
  | .rule _ => 0
def ruP (s : List UInt8) : Ru := ruOf (parse9 s)
def whyP (s : List UInt8) : Int := whyOf (parse9 s)
def atP (s : List UInt8) : Int := atOf (parse9 s)
theorem res9_eq (o : Out) : res9 o = [.agg (ruOf o).cells, i64 (whyOf o), i64 (atOf o)] := by cases o <;> rfl
def sParseP : List AV → Option (List Prop × List AV)
  | [.imm (.str s)] => some ([(s.length : Int) ≤ 1000000000000000000], [.agg (ruP s).cells, i64 (whyP s), i64 (atP s)])
  | _ => none
noncomputable def F6 := addE F5 19 sParseP
def e4 (s t : List UInt8) (a b k d m w e u k' d' m' w' e' u' : Int) : St := ⟨lapp [st s, st t, i64 a, i64 b, dayAV k d m w e u, dayAV k' d' m' w' e' u'] (lrepl 114 .dead), [], 0, []⟩
def e5 (s : List UInt8) (a k d m w e u k' d' m' w' e' u' : Int) : St := ⟨lapp [st s, i64 a, dayAV k d m w e u, dayAV k' d' m' w' e' u'] (lrepl 110 .dead), [], 0, []⟩
theorem okP : ∀ args pres res, sParseP args = some (pres, res) → SpecOK Tryd.prog G0 19 args pres res := by
  intro args pres res h
  unfold sParseP at h
  split at h
  case h_2 => cases h
  cases h
  rename_i s
  refine ok8 _ _ _ ?_
  have : sParse9 [.imm (.str s)] = some ([(s.length : Int) ≤ 1000000000000000000], res9 (parse9 s)) := rfl
  rw [this, res9_eq]
  rfl
theorem okF6 : EOK Tryd.prog F6 G0 := addE_ok okF5 okP
theorem SpecOK.pre {P : Program} {G : Nat → Option (List AV)} {f : FuncId} {args res : List AV} {pres pres' : List Prop} (h : (∀ p, p ∈ pres' → p) → SpecOK P G f args pres res) (hp : (∀ p, p ∈ pres' → p) → ∀ p, p ∈ pres → p)
    (hb : ∃ fn, P.funcs[f]? = some fn ∧ (fn.name == "runtime.NumGoroutine") = false ∧ fn.body.isNone = false) : SpecOK P G f args pres' res :=
  ⟨hb, fun hps => (h hps).2 (hp hps)⟩
end B9
set_option maxRecDepth 100000
namespace B9
open Go Go.AE Go.Proofs
def Sep (c : UInt8) : Prop := c = 32 ∨ c = 44
theorem takeWhile_c {p : UInt8 → Bool} {c : UInt8} (h : p c = false) (v : List UInt8) : ∀ t : List UInt8, (t ++ c :: v).takeWhile p = t.takeWhile p
  | [] => by simp [List.takeWhile_cons, h]
  | b :: t => by
    rw [List.cons_append, List.takeWhile_cons, List.takeWhile_cons, takeWhile_c h v t]
theorem sepD {c : UInt8} (h : Sep c) : B8.isD c = false := by rcases h with rfl | rfl <;> decide
theorem runD_c {c : UInt8} (h : Sep c) (v t : List UInt8) : B8.runD (t ++ c :: v) = B8.runD t := takeWhile_c (sepD h) v t
theorem drop_c {t : List UInt8} {i : Nat} (h : i ≤ t.length) (u : List UInt8) : (t ++ u).drop i = t.drop i ++ u := List.drop_append_of_le_length h
theorem field_c {c : UInt8} (h : Sep c) (v t : List UInt8) : B8.field (t ++ c :: v) = B8.field t := by
  have hd := sepD h
  match t with
  | [] =>
    have : c ≠ 58 := by rcases h with rfl | rfl <;> decide
    cases v with
    | nil => rfl
    | cons x v => cases v with
      | nil => rfl
      | cons y v => simp [B8.field, this]
  | [x] => cases v with
    | nil => rfl
    | cons y v => simp [B8.field, hd]
  | [x, y] => simp [B8.field, hd]
  | x :: y :: z :: r => rfl
theorem field_3 {t : List UInt8} {m : Nat} (h : B8.field t = some m) : 3 ≤ t.length := by
  match t with
  | [] => simp [B8.field] at h
  | [x] => simp [B8.field] at h
  | [x, y] => simp [B8.field] at h
  | x :: y :: z :: r => simp
theorem fl_c {c : UInt8} (h : Sep c) (v t : List UInt8) : B8.fl (t ++ c :: v) = B8.fl t := by
  unfold B8.fl
  rw [field_c h]
  cases hf : B8.field t with
  | none => rfl
  | some m =>
    have := field_3 hf
    simp only [drop_c (show 3 ≤ t.length by omega), field_c h]
theorem parse8_c {c : UInt8} (h : Sep c) (v t : List UInt8) : B8.parse (t ++ c :: v) = B8.parse t := by
  have ho : B8.off (t ++ c :: v) = B8.off t ∧ B8.sgn (t ++ c :: v) = B8.sgn t := by
    cases t with
    | nil => rcases h with rfl | rfl <;> exact ⟨rfl, rfl⟩
    | cons b t => exact ⟨rfl, rfl⟩
  have hle := B8.off_le_len t
  have hh : B8.hoursP (t ++ c :: v) (B8.off t) = B8.hoursP t (B8.off t) := by
    unfold B8.hoursP
    rw [drop_c hle, runD_c h]
  unfold B8.parse
  rw [ho.1, ho.2, hh]
  split
  · rename_i hok
    obtain ⟨n, e, hn, _⟩ := B8.hours_le t (B8.off t) hle hok
    rw [e, Int.toNat_natCast]
    have : B8.fieldsP (t ++ c :: v) n = B8.fieldsP t n := by
      rw [B8.fieldsP_fl, B8.fieldsP_fl, drop_c hn, fl_c h]
    rw [this]
  · rfl
end B9
set_option maxRecDepth 100000
namespace B9
open Go Go.AE Go.Proofs
section
variable {s : List UInt8} {i : Nat} {P : Out → Prop}
theorem nameQ_P {F : List UInt8 → Nat → Out} (hi : i ≤ s.length) (h : P (.stop i)) (hF : ∀ a j, j ≤ s.length → P (F a j)) : P (nameQ s i F) := by
  unfold nameQ
  obtain ⟨n, hn, hl, _⟩ := parse7_n (s.drop i)
  rw [List.length_drop] at hl
  split
  · rw [hn, Int.toNat_natCast]; exact hF _ _ (by omega)
  · exact h
theorem offQ_P {F : Int → Nat → Out} (hi : i ≤ s.length) (h : P (.stop i)) (hF : ∀ a j, j ≤ s.length → P (F a j)) : P (offQ s i F) := by
  unfold offQ
  obtain ⟨n, hn, hl⟩ := parse_n (s.drop i)
  rw [List.length_drop] at hl
  split
  · rw [hn, Int.toNat_natCast]; exact hF _ _ (by omega)
  · exact h
theorem dayQ_P {F : Dv → Nat → Out} (hi : i ≤ s.length) (h : P (.stop i)) (hF : ∀ a j, j ≤ s.length → P (F a j)) : P (dayQ s i F) := by
  unfold dayQ
  obtain ⟨n, hn, hl⟩ := day_n (s.drop i)
  rw [List.length_drop] at hl
  split
  · rw [hn, Int.toNat_natCast]; exact hF _ _ (by omega)
  · exact h
theorem comma_lt (h : comma s i = true) : i < s.length := by
  rw [comma_eq] at h
  simp at h
  exact h.1
theorem commaQ_P {F : Nat → Out} (h : P (.stop i)) (hF : ∀ j, j ≤ s.length → P (F j)) : P (commaQ s i F) := by
  unfold commaQ
  split
  · rename_i hc
    exact hF _ (comma_lt hc)
  · exact h
theorem dstOffQ_P {o : Int} {F : Int → Nat → Out} (hi : i ≤ s.length) (h : P (.stop i)) (hF : ∀ a j, j ≤ s.length → P (F a j)) : P (dstOffQ s i o F) := by
  unfold dstOffQ
  split
  · exact offQ_P hi h hF
  · exact hF _ _ hi
theorem dstQ_P {a : List UInt8} {o : Int} {F : Ru → Nat → Out} (hi : i ≤ s.length) (h : ∀ j, j ≤ s.length → P (.stop j)) (hF : ∀ r j, j ≤ s.length → P (F r j)) : P (dstQ s i a o F) := by
  unfold dstQ
  exact nameQ_P hi (h _ hi) fun _ _ h1 => dstOffQ_P h1 (h _ h1) fun _ _ h2 => commaQ_P (h _ h2) fun _ h3 => dayQ_P h3 (h _ h3) fun _ _ h4 => commaQ_P (h _ h4) fun _ h5 => dayQ_P h5 (h _ h5) fun _ _ h6 => hF _ _ h6
theorem parse9_P (h : ∀ j, j ≤ s.length → P (.stop j)) (hr : ∀ r, validRu r = true → P (.rule r)) : P (parse9 s) := by
  have he : ∀ r j, j ≤ s.length → P (endP s r j) := by
    intro r j hj
    unfold endP
    split
    · split
      · rename_i hv; exact hr r hv
      · exact h j hj
    · exact h j hj
  unfold parse9
  refine nameQ_P (Nat.zero_le _) (h 0 (Nat.zero_le _)) fun _ _ h1 => offQ_P h1 (h _ h1) fun _ _ h2 => ?_
  split
  · exact dstQ_P h2 h he
  · exact he _ _ h2
end
theorem parse9_valid {s : List UInt8} {r : Ru} (h : parse9 s = .rule r) : validRu r = true :=
  parse9_P (P := fun o => ∀ r, o = .rule r → validRu r = true) (fun k hk r e => by cases e) (fun r hv r' e => by cases e; exact hv) r h
section
variable {s : List UInt8} {i : Nat}
def Twin (s : List UInt8) (o o' : Out) : Prop := ∀ r, o = .rule r → o' = .stop s.length
theorem Twin.stop {j : Nat} {o' : Out} : Twin s (.stop j) o' := fun r e => by cases e
end
end B9
set_option maxRecDepth 100000
namespace B9
open Go Go.AE Go.Proofs
def NotD (u : List UInt8) : Prop := u = [] ∨ B8.isD (u.getD 0 0) = false
def End (u : List UInt8) : Prop := u = [] ∨ ∃ c v, u = c :: v ∧ Sep c
theorem number_dd {n : Nat} (hn : n < 1000) {u : List UInt8} (hu : NotD u) : number (dd n ++ u) = ((n : Int), ((dd n).length : Int), true) := by
  obtain ⟨hd, hv⟩ := B8.dd_ok hn
  have hl := dd_len n
  have hr : B8.runD (dd n ++ u) = dd n := B8.runD_app hd hu
  unfold number
  rw [hr, if_pos hl.2]
  have : B8.num (dd n) = n := hv
  rw [this]
  simp
  omega
theorem after_dd {s : List UInt8} {i n : Nat} {c : UInt8} {u : List UInt8} (hn : n < 1000) (hu : NotD u) (h : s.drop i = c :: (dd n ++ u)) : after s i c = ((n : Int), ((i + 1 + (dd n).length : Nat) : Int), true) := by
  unfold after
  rw [h]
  show (if c = c then _ else _) = _
  rw [if_pos rfl, number_dd hn hu]
  simp
def dspell (k d m w e : Int) : List UInt8 := if k = 1 then 74 :: dd d.toNat else if k = 3 then 77 :: (dd m.toNat ++ (46 :: (dd w.toNat ++ (46 :: dd e.toNat)))) else dd d.toNat
theorem dayF_eq (k d m w e t : Int) : dayF k d m w e t = dspell k d m w e ++ 47 :: B8.fmt t := rfl
theorem valid_time {k d m w e t t' : Int} (h : validDay k d m w e t = true) (h0 : -604799 ≤ t') (h1 : t' ≤ 604799) : validDay k d m w e t' = true := by
  unfold validDay at h ⊢
  simp only [Bool.and_eq_true] at h ⊢
  exact ⟨⟨by simpa using h0, by simpa using h1⟩, h.2⟩
theorem valid_cases {k d m w e t : Int} (h : validDay k d m w e t = true) : (k = 1 ∧ m = 0 ∧ w = 0 ∧ e = 0 ∧ 1 ≤ d ∧ d ≤ 365) ∨ (k = 2 ∧ m = 0 ∧ w = 0 ∧ e = 0 ∧ 0 ≤ d ∧ d ≤ 365) ∨ (k = 3 ∧ d = 0 ∧ 1 ≤ m ∧ m ≤ 12 ∧ 1 ≤ w ∧ w ≤ 5 ∧ 0 ≤ e ∧ e < 7) := by
  unfold validDay at h
  simp only [Bool.or_eq_true, Bool.and_eq_true, decide_eq_true_eq, beq_iff_eq] at h
  omega
theorem dd_cons (n : Nat) (hn : n < 1000) : ∃ b r, dd n = b :: r ∧ B8.isD b = true := by
  have hl := dd_len n
  obtain ⟨hd, _⟩ := B8.dd_ok hn
  cases h : dd n with
  | nil => rw [h] at hl; simp at hl
  | cons b r => exact ⟨b, r, rfl, hd b (by rw [show B8.dd n = dd n from rfl, h]; exact List.mem_cons_self ..)⟩
theorem date_cons (b : UInt8) (r : List UInt8) : date (b :: r) = if b = 74 then ⟨1, (number r).1, 0, 0, 0, (number r).2.1 + 1, (number r).2.2⟩ else if b = 77 then dateM (b :: r) else ⟨2, (number (b :: r)).1, 0, 0, 0, (number (b :: r)).2.1, (number (b :: r)).2.2⟩ := rfl
theorem date_spell {k d m w e t : Int} (hv : validDay k d m w e t = true) {u : List UInt8} (hu : NotD u) : date (dspell k d m w e ++ u) = ⟨k, d, m, w, e, ((dspell k d m w e).length : Int), true⟩ := by
  rcases valid_cases hv with ⟨rfl, rfl, rfl, rfl, h0, h1⟩ | ⟨rfl, rfl, rfl, rfl, h0, h1⟩ | ⟨rfl, rfl, h0, h1, h2, h3, h4, h5⟩
  · obtain ⟨n, rfl⟩ := nat_of (show 0 ≤ d by omega)
    have : dspell 1 n 0 0 0 = 74 :: dd n := by unfold dspell; rw [if_pos rfl, Int.toNat_natCast]
    rw [this]
    rw [List.cons_append, date_cons, if_pos rfl, number_dd (by omega) hu]
    simp
  · obtain ⟨n, rfl⟩ := nat_of h0
    have : dspell 2 n 0 0 0 = dd n := by unfold dspell; rw [if_neg (by decide), if_neg (by decide), Int.toNat_natCast]
    rw [this]
    have hnum := number_dd (show n < 1000 by omega) hu
    obtain ⟨b, r, hb, hd⟩ := dd_cons n (by omega)
    have h1 : b ≠ 74 := by rintro rfl; exact absurd hd (by decide)
    have h2 : b ≠ 77 := by rintro rfl; exact absurd hd (by decide)
    rw [hb] at hnum ⊢
    rw [List.cons_append] at hnum ⊢
    rw [date_cons, if_neg h1, if_neg h2, hnum]
  · obtain ⟨M, rfl⟩ := nat_of (show 0 ≤ m by omega)
    obtain ⟨W, rfl⟩ := nat_of (show 0 ≤ w by omega)
    obtain ⟨E, rfl⟩ := nat_of h4
    have : dspell 3 0 M W E = 77 :: (dd M ++ (46 :: (dd W ++ (46 :: dd E)))) := by unfold dspell; rw [if_neg (by decide), if_pos rfl, Int.toNat_natCast, Int.toNat_natCast, Int.toNat_natCast]
    rw [this]
    have e0 : (77 :: (dd M ++ (46 :: (dd W ++ (46 :: dd E)))) : List UInt8) ++ u = 77 :: (dd M ++ (46 :: (dd W ++ (46 :: (dd E ++ u))))) := by simp
    rw [e0]
    have d46 : ∀ x : List UInt8, NotD (46 :: x) := fun x => Or.inr (by decide : B8.isD 46 = false)
    rw [date_cons, if_neg (by decide), if_pos rfl]
    unfold dateM
    have hn1 : number (List.drop 1 (77 :: (dd M ++ (46 :: (dd W ++ (46 :: (dd E ++ u))))))) = ((M : Int), ((dd M).length : Int), true) := number_dd (by omega) (d46 _)
    rw [hn1]
    simp only [Int.toNat_natCast, if_true]
    have a1 : after (77 :: (dd M ++ (46 :: (dd W ++ (46 :: (dd E ++ u)))))) ((dd M).length + 1) 46 = ((W : Int), (((dd M).length + 1 + 1 + (dd W).length : Nat) : Int), true) := by
      refine after_dd (by omega) (d46 (dd E ++ u)) ?_
      rw [List.drop_succ_cons]
      exact List.drop_left
    rw [a1]
    simp only [Int.toNat_natCast, if_true]
    have a2 : after (77 :: (dd M ++ (46 :: (dd W ++ (46 :: (dd E ++ u)))))) ((dd M).length + 1 + 1 + (dd W).length) 46 = ((E : Int), (((dd M).length + 1 + 1 + (dd W).length + 1 + (dd E).length : Nat) : Int), true) := by
      refine after_dd (by omega) hu ?_
      have : (77 :: (dd M ++ (46 :: (dd W ++ (46 :: (dd E ++ u))))) : List UInt8) = (77 :: (dd M ++ (46 :: dd W))) ++ 46 :: (dd E ++ u) := by simp
      rw [this]
      have hl : (77 :: (dd M ++ (46 :: dd W)) : List UInt8).length = (dd M).length + 1 + 1 + (dd W).length := by simp; omega
      rw [← hl]
      exact List.drop_left
    rw [a2]
    simp only [D.mk.injEq, true_and, and_true]
    simp only [List.length_cons, List.length_append]
    omega
theorem parse8_fmt {t : Int} (h0 : -604799 ≤ t) (h1 : t ≤ 604799) {u : List UInt8} (hu : End u) : B8.parse (B8.fmt t ++ u) = (t, ((B8.fmt t).length : Int), true) := by
  rcases hu with rfl | ⟨c, v, rfl, hc⟩
  · rw [List.append_nil]; exact B8.parse_fmt h0 h1
  · rw [parse8_c hc]; exact B8.parse_fmt h0 h1
theorem getD_at (x : List UInt8) (b : UInt8) (r : List UInt8) : (x ++ b :: r).getD x.length 0 = b := by
  simp [List.getD_eq_getElem?_getD]
theorem day_form {k d m w e t : Int} (hv : validDay k d m w e t = true) {u : List UInt8} (hu : End u) : day (dayF k d m w e t ++ u) = ⟨k, d, m, w, e, t, ((dayF k d m w e t).length : Int), true⟩ := by
  obtain ⟨t0, t1, _⟩ := validDay_b hv
  rw [dayF_eq]
  have e0 : dspell k d m w e ++ 47 :: B8.fmt t ++ u = dspell k d m w e ++ 47 :: (B8.fmt t ++ u) := by simp
  rw [e0]
  have hd := date_spell hv (u := 47 :: (B8.fmt t ++ u)) (Or.inr (by decide : B8.isD 47 = false))
  have hs : slash (dspell k d m w e ++ 47 :: (B8.fmt t ++ u)) (date (dspell k d m w e ++ 47 :: (B8.fmt t ++ u))) = true := by
    rw [hd]
    unfold slash
    simp only [Int.toNat_natCast, getD_at]
    simp
    omega
  unfold day
  rw [if_pos hs, hd]
  simp only [Int.toNat_natCast]
  have hdrop : (dspell k d m w e ++ 47 :: (B8.fmt t ++ u)).drop ((dspell k d m w e).length + 1) = B8.fmt t ++ u := by
    have : dspell k d m w e ++ 47 :: (B8.fmt t ++ u) = (dspell k d m w e ++ [47]) ++ (B8.fmt t ++ u) := by simp
    rw [this, show (dspell k d m w e).length + 1 = (dspell k d m w e ++ [47]).length by simp]
    exact List.drop_left
  rw [hdrop, parse8_fmt t0 t1 hu]
  unfold dayT
  simp only [hv, Bool.and_self, if_true, Dy.mk.injEq, true_and, and_true]
  simp only [List.length_append, List.length_cons]
  omega
theorem day_short {k d m w e t : Int} (hv : validDay k d m w e t = true) {c : UInt8} (v : List UInt8) (hc : Sep c) : day (dspell k d m w e ++ c :: v) = ⟨k, d, m, w, e, 7200, ((dspell k d m w e).length : Int), true⟩ := by
  have hd := date_spell hv (u := c :: v) (Or.inr (sepD hc))
  have h47 : c ≠ 47 := by rcases hc with rfl | rfl <;> decide
  have hs : slash (dspell k d m w e ++ c :: v) (date (dspell k d m w e ++ c :: v)) = false := by
    rw [hd]
    unfold slash
    simp only [Int.toNat_natCast, getD_at]
    simp [h47]
  unfold day
  rw [hs, hd]
  unfold dayT
  simp only [valid_time hv (by decide : (-604799 : Int) ≤ 7200) (by decide), Bool.and_self, if_true, Bool.false_eq_true, if_false]
end B9
set_option maxRecDepth 100000
namespace B9
open Go Go.AE Go.Proofs
theorem good7 {s : List UInt8} (h : B7.valid s = true) : ∀ b ∈ s, b ≠ 62 := by
  unfold B7.valid at h
  simp only [Bool.and_eq_true, List.all_eq_true] at h
  rintro b hb rfl
  exact absurd (h.1 _ hb) (by decide)
theorem place7_append {s u : List UInt8} {c : UInt8} (h : ∀ b ∈ s, b ≠ c) : B7.place (s ++ c :: u) c = s.length := by
  unfold B7.place
  rw [List.takeWhile_append_of_pos (fun b hb => by simpa using h b hb)]
  simp [List.takeWhile_cons]
theorem letters7_append {s u : List UInt8} (h : B7.bare s = true) (hu : u = [] ∨ B7.alphaB (u.getD 0 0) = false) : B7.letters (s ++ u) = s.length := by
  unfold B7.letters
  unfold B7.bare at h
  rw [List.all_eq_true] at h
  rw [List.takeWhile_append_of_pos h]
  have : u.takeWhile B7.alphaB = [] := by
    rcases hu with rfl | hu
    · rfl
    · cases u with
      | nil => rfl
      | cons b u =>
        have hu' : B7.alphaB b = false := hu
        simp [List.takeWhile_cons, hu']
  rw [this]
  simp
theorem parse7Q {s : List UInt8} (u : List UInt8) (hv : B7.valid s = true) : B7.parse ((60 :: (s ++ [62])) ++ u) = (s, ((60 :: (s ++ [62]) : List UInt8).length : Int), true) := by
  have hp : B7.place (s ++ 62 :: u) 62 = s.length := place7_append (good7 hv)
  have e : (60 :: (s ++ [62])) ++ u = 60 :: (s ++ 62 :: u) := by simp
  rw [e]
  have e2 : B7.parse (60 :: (s ++ 62 :: u)) = B7.parseQ (s ++ 62 :: u) := by simp [B7.parse]
  rw [e2]
  unfold B7.parseQ
  rw [hp, if_pos (by simp), List.take_left' rfl, if_pos hv]
  simp only [List.length_append, List.length_cons, List.length_nil, Prod.mk.injEq, and_true, true_and]
  omega
theorem parse7_fmt {s u : List UInt8} (hv : B7.valid s = true) (hu : u = [] ∨ B7.alphaB (u.getD 0 0) = false) : B7.parse (B7.fmt s ++ u) = (s, ((B7.fmt s).length : Int), true) := by
  unfold B7.fmt
  by_cases hb : B7.bare s = true
  · rw [if_pos hb]
    have hl := letters7_append hb hu
    have hp : B7.parse (s ++ u) = B7.parseP (s ++ u) := by
      cases s with
      | nil => exact absurd hv (by decide)
      | cons b r =>
        have : B7.alphaB b = true := by
          unfold B7.bare at hb
          rw [List.all_eq_true] at hb
          exact hb b (by simp)
        have h60 : b ≠ 60 := by
          rintro rfl
          exact absurd this (by decide)
        simp [B7.parse, h60]
    rw [hp]
    unfold B7.parseP
    rw [hl, List.take_left', if_pos hv]
    rfl
  · rw [if_neg hb]
    have : [60] ++ s ++ [62] = 60 :: (s ++ [62]) := by simp
    rw [this]
    exact parse7Q u hv
def Aft (u : List UInt8) : Prop := u = [] ∨ (B8.isD (u.getD 0 0) = false ∧ u.getD 0 0 ≠ 58)
theorem runD_a {u : List UInt8} (h : Aft u) (t : List UInt8) : B8.runD (t ++ u) = B8.runD t := by
  rcases h with rfl | ⟨h, _⟩
  · rw [List.append_nil]
  · cases u with
    | nil => rw [List.append_nil]
    | cons c v => exact takeWhile_c h v t
theorem field_a {u : List UInt8} (h : Aft u) (t : List UInt8) : B8.field (t ++ u) = B8.field t := by
  rcases h with rfl | ⟨hd0, h580⟩
  · rw [List.append_nil]
  · cases u with
    | nil => rw [List.append_nil]
    | cons c v =>
      have hd : B8.isD c = false := hd0
      have h58 : c ≠ 58 := h580
      clear hd0 h580
      match t with
      | [] =>
        cases v with
        | nil => rfl
        | cons x v => cases v with
          | nil => rfl
          | cons y v => simp [B8.field, h58]
      | [x] => cases v with
        | nil => rfl
        | cons y v => simp [B8.field, hd]
      | [x, y] => simp [B8.field, hd]
      | x :: y :: z :: r => rfl
theorem fl_a {u : List UInt8} (h : Aft u) (t : List UInt8) : B8.fl (t ++ u) = B8.fl t := by
  unfold B8.fl
  rw [field_a h]
  cases hf : B8.field t with
  | none => rfl
  | some m =>
    have := field_3 hf
    simp only [drop_c (show 3 ≤ t.length by omega), field_a h]
theorem parse8_a {u : List UInt8} (h : Aft u) {t : List UInt8} (ht : t ≠ []) : B8.parse (t ++ u) = B8.parse t := by
  have ho : B8.off (t ++ u) = B8.off t ∧ B8.sgn (t ++ u) = B8.sgn t := by
    cases t with
    | nil => exact absurd rfl ht
    | cons b t => exact ⟨rfl, rfl⟩
  have hle := B8.off_le_len t
  have hh : B8.hoursP (t ++ u) (B8.off t) = B8.hoursP t (B8.off t) := by
    unfold B8.hoursP
    rw [drop_c hle, runD_a h]
  unfold B8.parse
  rw [ho.1, ho.2, hh]
  split
  · rename_i hok
    obtain ⟨n, e, hn, _⟩ := B8.hours_le t (B8.off t) hle hok
    rw [e, Int.toNat_natCast]
    have : B8.fieldsP (t ++ u) n = B8.fieldsP t n := by
      rw [B8.fieldsP_fl, B8.fieldsP_fl, drop_c hn, fl_a h]
    rw [this]
  · rfl
theorem fmt8_ne (t : Int) : B8.fmt t ≠ [] := by
  unfold B8.fmt
  split
  · simp
  · rw [B8.fmtN_eq]
    intro e
    have := dd_len (t.natAbs / 3600)
    rw [show dd (t.natAbs / 3600) = [] from (List.append_eq_nil_iff.1 e).1] at this
    exact absurd this.1 (by decide)
theorem parse8_fa {t : Int} (h0 : -604799 ≤ t) (h1 : t ≤ 604799) {u : List UInt8} (hu : Aft u) : B8.parse (B8.fmt t ++ u) = (t, ((B8.fmt t).length : Int), true) := by
  rw [parse8_a hu (fmt8_ne t), B8.parse_fmt h0 h1]
theorem notA_fmt8 {t : Int} (h0 : -604799 ≤ t) (h1 : t ≤ 604799) (u : List UInt8) : B8.fmt t ++ u = [] ∨ B7.alphaB ((B8.fmt t ++ u).getD 0 0) = false := by
  right
  have dig : ∀ n < 1000, ∀ v, B7.alphaB ((B8.dd n ++ v).getD 0 0) = false := by
    intro n hn v
    have hd := (B8.dd_ok hn).1
    have hl := dd_len n
    match hx : B8.dd n with
    | [] => have : dd n = [] := hx; rw [this] at hl; exact absurd hl.1 (by decide)
    | b :: r =>
      have := hd b (by rw [hx]; exact List.mem_cons_self ..)
      show B7.alphaB b = false
      unfold B8.isD at this
      simp only [Bool.and_eq_true, decide_eq_true_eq] at this
      unfold B7.alphaB B7.isAlpha
      simp
      omega
  unfold B8.fmt
  split
  · rfl
  · rw [B8.fmtN_eq, List.append_assoc]
    exact dig _ (by omega) _
theorem aft_fmt7 {s : List UInt8} (hv : B7.valid s = true) (u : List UInt8) : Aft (B7.fmt s ++ u) := by
  right
  unfold B7.fmt
  by_cases hb : B7.bare s = true
  · rw [if_pos hb]
    cases s with
    | nil => exact absurd hv (by decide)
    | cons b r =>
      have : B7.alphaB b = true := by
        unfold B7.bare at hb
        rw [List.all_eq_true] at hb
        exact hb b (by simp)
      show B8.isD b = false ∧ b ≠ 58
      constructor
      · cases h : B8.isD b with
        | false => rfl
        | true =>
          exfalso
          unfold B8.isD at h
          unfold B7.alphaB B7.isAlpha at this
          simp at h this
          omega
      · rintro rfl; exact absurd this (by decide)
  · rw [if_neg hb]
    show B8.isD 60 = false ∧ (60 : UInt8) ≠ 58
    exact ⟨by decide, by decide⟩
theorem nameQ_at {s y u a : List UInt8} {i : Nat} {F : List UInt8 → Nat → Out} (hd : s.drop i = y ++ u) (hp : B7.parse (y ++ u) = (a, (y.length : Int), true)) : nameQ s i F = F a (i + y.length) := by
  unfold nameQ
  rw [hd, hp]
  rfl
theorem offQ_at {s y u : List UInt8} {t : Int} {i : Nat} {F : Int → Nat → Out} (hd : s.drop i = y ++ u) (hp : B8.parse (y ++ u) = (t, (y.length : Int), true)) (hs : side t = true) : offQ s i F = F (0 - t) (i + y.length) := by
  unfold offQ
  rw [hd, hp]
  simp [hs]
theorem commaQ_at {s u : List UInt8} {i : Nat} {F : Nat → Out} (hd : s.drop i = [44] ++ u) : commaQ s i F = F (i + [(44 : UInt8)].length) := by
  unfold commaQ comma
  rw [hd]
  rfl
theorem dayQ_at {s y u : List UInt8} {i : Nat} {k d m w e t : Int} {F : Dv → Nat → Out} (hd : s.drop i = y ++ u) (hp : day (y ++ u) = ⟨k, d, m, w, e, t, (y.length : Int), true⟩) : dayQ s i F = F ⟨k, d, m, w, e, t⟩ (i + y.length) := by
  unfold dayQ
  rw [hd, hp]
  rfl
theorem drop_at {s y u : List UInt8} {i : Nat} (hd : s.drop i = y ++ u) : s.drop (i + y.length) = u := by
  rw [← List.drop_drop, hd]
  exact List.drop_left
theorem days_at {s Y Z : List UInt8} {i : Nat} {a b : List UInt8} {o p : Int} {k d m w e t k' d' m' w' e' t' : Int} (hl : i ≤ s.length) (hd : s.drop i = [44] ++ (Y ++ ([44] ++ Z)))
    (h1 : day (Y ++ ([44] ++ Z)) = ⟨k, d, m, w, e, t, (Y.length : Int), true⟩) (h2 : day Z = ⟨k', d', m', w', e', t', (Z.length : Int), true⟩) (hv : validRu ⟨a, o, true, b, p, ⟨k, d, m, w, e, t⟩, ⟨k', d', m', w', e', t'⟩⟩ = true) :
    (commaQ s i fun i => dayQ s i fun S i => commaQ s i fun i => dayQ s i fun E i => endP s ⟨a, o, true, b, p, S, E⟩ i) = .rule ⟨a, o, true, b, p, ⟨k, d, m, w, e, t⟩, ⟨k', d', m', w', e', t'⟩⟩ := by
  have d1 := drop_at hd
  have d2 := drop_at d1
  have d3 := drop_at d2
  have d3' : s.drop (i + [(44 : UInt8)].length + Y.length + [(44 : UInt8)].length) = Z ++ [] := by rw [d3, List.append_nil]
  rw [commaQ_at hd, dayQ_at d1 h1, commaQ_at d2, dayQ_at d3' (by rw [List.append_nil]; exact h2)]
  have hlen : s.length = i + (1 + (Y.length + (1 + Z.length))) := by
    have := congrArg List.length hd
    simp only [List.length_drop, List.length_append, List.length_cons, List.length_nil] at this
    omega
  unfold endP
  rw [if_pos (by rw [hlen]; simp only [List.length_cons, List.length_nil]; omega), if_pos hv]
theorem side_of {n : Int} (h0 : -89999 ≤ n) (h1 : n ≤ 89999) : side n = true := by
  unfold side
  simp [h0, h1]
theorem aft44 (Z : List UInt8) : Aft ([44] ++ Z) := Or.inr (show B8.isD 44 = false ∧ (44 : UInt8) ≠ 58 from ⟨by decide, by decide⟩)
end B9
namespace Z10
open Go Go.AE Go.Proofs B9
def dayS (k d m w e t : Int) : List UInt8 := dspell k d m w e ++ (if t = 7200 then [] else 47 :: B8.fmt t)
def dstS (o : Int) (b : List UInt8) (p k d m w e t k' d' m' w' e' t' : Int) : List UInt8 :=
  B7.fmt b ++ ((if p = o + 3600 then [] else B8.fmt (0 - p)) ++ ([44] ++ (dayS k d m w e t ++ ([44] ++ dayS k' d' m' w' e' t'))))
def ruleS (a : List UInt8) (o : Int) (h : Bool) (b : List UInt8) (p k d m w e t k' d' m' w' e' t' : Int) : List UInt8 :=
  B7.fmt a ++ (B8.fmt (0 - o) ++ (if h then dstS o b p k d m w e t k' d' m' w' e' t' else []))
def ruS (r : Ru) : List UInt8 := ruleS r.a r.o r.h r.b r.p r.S.k r.S.d r.S.m r.S.w r.S.e r.S.t r.E.k r.E.d r.E.m r.E.w r.E.e r.E.t
def late (t : Int) : Bool := decide (t < 0) || decide (t > 86400)
def okP (s : List UInt8) : Bool := whyP s == 0
def canon (s : List UInt8) : List UInt8 := if okP s then ruS (ruP s) else []
def refnum (s : List UInt8) (i : Nat) : Int × Int := if (number (s.drop i)).2.2 then ((number (s.drop i)).1, (i : Int) + (number (s.drop i)).2.1) else (-1, (i : Int))
def sDec : List AV → Option (List Prop × List AV)
  | [.imm (.int .i64 n)] => some ([0 ≤ n, n < 1000], [st (B8.dd n.toNat)])
  | _ => none
def sDec1 : List AV → Option (List Prop × List AV)
  | [.imm (.int .i64 n)] => some ([0 ≤ n, n < 10], [st (B8.dd n.toNat)])
  | _ => none
def sDec2 : List AV → Option (List Prop × List AV)
  | [.imm (.int .i64 n)] => some ([0 ≤ n, n < 100], [st (B8.dd n.toNat)])
  | _ => none
def sFail : List AV → Option (List Prop × List AV)
  | [.imm (.int .i64 n)] => some ([], [.agg zR.cells, i64 14, i64 n])
  | _ => none
def sLate : List AV → Option (List Prop × List AV)
  | [.agg [.imm (.int .i64 k), .imm (.int .i64 d), .imm (.int .i64 m), .imm (.int .i64 w), .imm (.int .i64 e), .imm (.int .i64 t)]] => some ([], [bo (late t)])
  | _ => none
def sNum : List AV → Option (List Prop × List AV)
  | [.imm (.str s), .imm (.int .i64 i)] => some ([0 ≤ i, i ≤ (s.length : Int), (s.length : Int) ≤ 4611686018427387904], [i64 (refnum s i.toNat).1, i64 (refnum s i.toNat).2])
  | _ => none
def sDayR : List AV → Option (List Prop × List AV)
  | [.imm (.str s)] => some ([(s.length : Int) ≤ 4000000000000000000], [dayAV (day s).k (day s).d (day s).m (day s).w (day s).e (day s).t, i64 (day s).n, bo (day s).ok])
  | _ => none
def sDayS : List AV → Option (List Prop × List AV)
  | [.agg [.imm (.int .i64 k), .imm (.int .i64 d), .imm (.int .i64 m), .imm (.int .i64 w), .imm (.int .i64 e), .imm (.int .i64 t)]] => some ([validDay k d m w e t = true], [st (dayS k d m w e t)])
  | _ => none
def sRuleS : List AV → Option (List Prop × List AV)
  | [.agg [.imm (.str a), .imm (.int .i64 o), .imm (.bool h), .imm (.str b), .imm (.int .i64 p), .imm (.int .i64 k), .imm (.int .i64 d), .imm (.int .i64 m), .imm (.int .i64 w), .imm (.int .i64 e), .imm (.int .i64 t), .imm (.int .i64 k'), .imm (.int .i64 d'), .imm (.int .i64 m'), .imm (.int .i64 w'), .imm (.int .i64 e'), .imm (.int .i64 t')]] =>
    some ([validRule a o h b p k d m w e t k' d' m' w' e' t' = true], [st (ruleS a o h b p k d m w e t k' d' m' w' e' t')])
  | _ => none
def sExt : List AV → Option (List Prop × List AV)
  | [.agg [.imm (.str a), .imm (.int .i64 o), .imm (.bool h), .imm (.str b), .imm (.int .i64 p), .imm (.int .i64 k), .imm (.int .i64 d), .imm (.int .i64 m), .imm (.int .i64 w), .imm (.int .i64 e), .imm (.int .i64 t), .imm (.int .i64 k'), .imm (.int .i64 d'), .imm (.int .i64 m'), .imm (.int .i64 w'), .imm (.int .i64 e'), .imm (.int .i64 t')]] =>
    some ([], [bo (h && (late t || late t'))])
  | _ => none
def sCanon : List AV → Option (List Prop × List AV)
  | [.imm (.str s)] => some ([(s.length : Int) ≤ 1000000000000000000], [st (canon s), bo (okP s)])
  | _ => none
def sAwake : List AV → Option (List Prop × List AV)
  | [] => some ([], [bo true])
  | _ => none
noncomputable def cx (E : FuncId → List AV → Option (List Prop × List AV)) : Cx := ⟨Tryd.prog, E, noCall, B8.G8, 0⟩
noncomputable def cxu (E : FuncId → List AV → Option (List Prop × List AV)) : Cx := ⟨Tryd.prog, E, noCall, B8.G8, 3⟩
def D1 := addE noE 24 sDec1
def D2 := addE noE 24 sDec2
noncomputable def R0 := addE (addE (addE (addE (addE F6 24 sDec) 27 sSide) 43 sFail) 32 sLate) 66 sNum
noncomputable def R1 := addE (addE (addE R0 45 sDayR) 14 sValidRule) 13 sDayS
noncomputable def R2 := addE (addE (addE R1 21 sParseP) 16 sRuleS) 18 sExt
noncomputable def R3 := addE R2 10 sCanon
noncomputable def K0 : Cx := cx noE
noncomputable def K1 : Cx := cx D1
noncomputable def K2 : Cx := cx D2
noncomputable def Q0 : Cx := cx R0
noncomputable def Q1 : Cx := cx R1
noncomputable def Q2 : Cx := cx R2
noncomputable def U0 : Cx := cxu R0
def h66 (s : List UInt8) (i v n : Int) : St := ⟨lapp [st s, i64 i, .dead, .dead, i64 0, i64 0, i64 v, i64 n] (lrepl 43 .dead), [], 0, []⟩
noncomputable def QU : Cx := cxu R1
noncomputable def c21 : List Dir → Code := fun p => codeAt p (bodyOf Tryd.f21)
noncomputable def q21 (k : Nat) : Code := c21 (lapp (lrepl k .r) [.l])
noncomputable def a21 : Code := .seq (q21 0) (.seq (q21 1) (.seq (q21 2) (.seq (q21 3) (.seq (q21 4) (.seq (q21 5) (.seq (q21 6) (.seq (q21 7) (.seq (q21 8) (q21 9)))))))))
noncomputable def b21 : Code := .seq (q21 10) (.seq (q21 11) (.seq (q21 12) (.seq (q21 13) (.seq (q21 14) (.seq (q21 15) (.seq (q21 16) (q21 17)))))))
def e21 (s : List UInt8) : St := ⟨lapp [st s] (lrepl 171 .dead), [], 0, []⟩
def S21 (s : List UInt8) (i : Int) (R : List AV) (T : Nat → AV) : St :=
  ⟨lapp [st s, T 1, .ptr 0 0, i64 0, i64 0, .ptr 1 0, T 6, T 7, T 8, T 9, T 10, T 11, i64 i] (lmap T (ldrop 13 (upto 172 []))), [(0, ⟨true, 0, .cells zRule⟩), (1, ⟨true, 0, .cells R⟩)], 2, []⟩
def S21e (s : List UInt8) (i : Int) (R X Y : List AV) (T : Nat → AV) : St :=
  ⟨lapp [st s, T 1, .ptr 0 0, i64 0, i64 0, .ptr 1 0, T 6, T 7, T 8, T 9, T 10, T 11, i64 i] (lmap T (ldrop 13 (upto 172 []))), [(0, ⟨true, 0, .cells zRule⟩), (1, ⟨true, 0, .cells R⟩), (2, ⟨true, 0, .cells X⟩), (3, ⟨true, 0, .cells Y⟩)], 4, []⟩
end Z10
set_option maxRecDepth 100000
namespace Z10
open Go Go.AE Go.Proofs B9
attribute [local irreducible] loopK evCode evSpec loopB norm
theorem f24_0 (n : Int) (K : List AV → Prop) : evSpec K0 Tryd.f24 [i64 n] K =
  (brn (decide (n < (10 : Int)))
  (K [AV.imm (IV.str (List.map u8 [IntKind.wrap IntKind.u8 (IntKind.wrap IntKind.i64 ((48 : Int) + n))]))])
  ((10 : Int) ≠ (0 : Int) ∧ (10 : Int) ≠ (0 : Int) ∧ False ∧ False ∧ False)) := by kernel_rfl
theorem f24_1 (n : Int) (K : List AV → Prop) : evSpec K1 Tryd.f24 [i64 n] K = (brn (decide (n < 10)) (K [.imm (.str (List.map u8 [IntKind.wrap IntKind.u8 (IntKind.wrap .i64 ((48 : Int) + n))]))]) ((10 : Int) ≠ 0 ∧ (10 : Int) ≠ 0 ∧ ((0 : Int) ≤ IntKind.wrap .i64 (Int.tdiv n (10 : Int)) ∧ IntKind.wrap .i64 (Int.tdiv n (10 : Int)) < 10 ∧ (B8.dd (IntKind.wrap .i64 (Int.tdiv n (10 : Int))).toNat).length + (List.map u8 [IntKind.wrap IntKind.u8 (IntKind.wrap .i64 ((48 : Int) + Int.tmod n (10 : Int)))]).length ≤ 9223372036854775807 ∧ K [.imm (.str (B8.dd (IntKind.wrap .i64 (Int.tdiv n (10 : Int))).toNat ++ List.map u8 [IntKind.wrap IntKind.u8 (IntKind.wrap .i64 ((48 : Int) + Int.tmod n (10 : Int)))]))]) ∧ ((0 : Int) ≤ IntKind.wrap .i64 (Int.tdiv n (10 : Int)) ∧ IntKind.wrap .i64 (Int.tdiv n (10 : Int)) < 10 ∧ (B8.dd (IntKind.wrap .i64 (Int.tdiv n (10 : Int))).toNat).length + (List.map u8 [IntKind.wrap IntKind.u8 (IntKind.wrap .i64 ((48 : Int) + Int.tmod n (10 : Int)))]).length ≤ 9223372036854775807 ∧ K [.imm (.str (B8.dd (IntKind.wrap .i64 (Int.tdiv n (10 : Int))).toNat ++ List.map u8 [IntKind.wrap IntKind.u8 (IntKind.wrap .i64 ((48 : Int) + Int.tmod n (10 : Int)))]))]) ∧ (0 : Int) ≤
 IntKind.wrap .i64 (Int.tdiv n (10 : Int)) ∧ IntKind.wrap .i64 (Int.tdiv n (10 : Int)) < 10 ∧ (B8.dd (IntKind.wrap .i64 (Int.tdiv n (10 : Int))).toNat).length + (List.map u8 [IntKind.wrap IntKind.u8 (IntKind.wrap .i64 ((48 : Int) + Int.tmod n (10 : Int)))]).length ≤ 9223372036854775807 ∧ K [.imm (.str (B8.dd (IntKind.wrap .i64 (Int.tdiv n (10 : Int))).toNat ++ List.map u8 [IntKind.wrap IntKind.u8 (IntKind.wrap .i64 ((48 : Int) + Int.tmod n (10 : Int)))]))])) := by kernel_rfl
theorem f24_2 (n : Int) (K : List AV → Prop) : evSpec K2 Tryd.f24 [i64 n] K = (brn (decide (n < 10)) (K [.imm (.str (List.map u8 [IntKind.wrap IntKind.u8 (IntKind.wrap .i64 ((48 : Int) + n))]))]) ((10 : Int) ≠ 0 ∧ (10 : Int) ≠ 0 ∧ ((0 : Int) ≤ IntKind.wrap .i64 (Int.tdiv n (10 : Int)) ∧ IntKind.wrap .i64 (Int.tdiv n (10 : Int)) < 100 ∧ (B8.dd (IntKind.wrap .i64 (Int.tdiv n (10 : Int))).toNat).length + (List.map u8 [IntKind.wrap IntKind.u8 (IntKind.wrap .i64 ((48 : Int) + Int.tmod n (10 : Int)))]).length ≤ 9223372036854775807 ∧ K [.imm (.str (B8.dd (IntKind.wrap .i64 (Int.tdiv n (10 : Int))).toNat ++ List.map u8 [IntKind.wrap IntKind.u8 (IntKind.wrap .i64 ((48 : Int) + Int.tmod n (10 : Int)))]))]) ∧ ((0 : Int) ≤ IntKind.wrap .i64 (Int.tdiv n (10 : Int)) ∧ IntKind.wrap .i64 (Int.tdiv n (10 : Int)) < 100 ∧ (B8.dd (IntKind.wrap .i64 (Int.tdiv n (10 : Int))).toNat).length + (List.map u8 [IntKind.wrap IntKind.u8 (IntKind.wrap .i64 ((48 : Int) + Int.tmod n (10 : Int)))]).length ≤ 9223372036854775807 ∧ K [.imm (.str (B8.dd (IntKind.wrap .i64 (Int.tdiv n (10 : Int))).toNat ++ List.map u8 [IntKind.wrap IntKind.u8 (IntKind.wrap .i64 ((48 : Int) + Int.tmod n (10 : Int)))]))]) ∧ (0 : Int) ≤
 IntKind.wrap .i64 (Int.tdiv n (10 : Int)) ∧ IntKind.wrap .i64 (Int.tdiv n (10 : Int)) < 100 ∧ (B8.dd (IntKind.wrap .i64 (Int.tdiv n (10 : Int))).toNat).length + (List.map u8 [IntKind.wrap IntKind.u8 (IntKind.wrap .i64 ((48 : Int) + Int.tmod n (10 : Int)))]).length ≤ 9223372036854775807 ∧ K [.imm (.str (B8.dd (IntKind.wrap .i64 (Int.tdiv n (10 : Int))).toNat ++ List.map u8 [IntKind.wrap IntKind.u8 (IntKind.wrap .i64 ((48 : Int) + Int.tmod n (10 : Int)))]))])) := by kernel_rfl
theorem f27_in (n : Int) (K : List AV → Prop) : evSpec K0 Tryd.f27 [i64 n] K =
  (K [AV.imm (IV.bool (decide (n ≥ (-89999 : Int)) && decide (n ≤ (89999 : Int))))]) := by kernel_rfl
theorem f43_in (n : Int) (K : List AV → Prop) : evSpec K0 Tryd.f43 [i64 n] K =
  (K
  [AV.agg
      [AV.imm (IV.str []), AV.imm (IV.int IntKind.i64 (0 : Int)), AV.imm (IV.bool false), AV.imm (IV.str []),
        AV.imm (IV.int IntKind.i64 (0 : Int)), AV.imm (IV.int IntKind.i64 (0 : Int)),
        AV.imm (IV.int IntKind.i64 (0 : Int)), AV.imm (IV.int IntKind.i64 (0 : Int)),
        AV.imm (IV.int IntKind.i64 (0 : Int)), AV.imm (IV.int IntKind.i64 (0 : Int)),
        AV.imm (IV.int IntKind.i64 (0 : Int)), AV.imm (IV.int IntKind.i64 (0 : Int)),
        AV.imm (IV.int IntKind.i64 (0 : Int)), AV.imm (IV.int IntKind.i64 (0 : Int)),
        AV.imm (IV.int IntKind.i64 (0 : Int)), AV.imm (IV.int IntKind.i64 (0 : Int)),
        AV.imm (IV.int IntKind.i64 (0 : Int))],
    AV.imm (IV.int IntKind.i64 (14 : Int)), AV.imm (IV.int IntKind.i64 n)]) := by kernel_rfl
theorem f32_in (k : Int) (d : Int) (m : Int) (w : Int) (e : Int) (t : Int) (K : List AV →
  Prop) : evSpec K0 Tryd.f32 [dayAV k d m w e t] K =
  (K [AV.imm (IV.bool (decide (t < (0 : Int)) || decide (t > (86400 : Int))))]) := by kernel_rfl
theorem f66_in (s : List UInt8) (i : Int) (K : List AV → Prop) : evSpec K0 Tryd.f66 [st s, i64 i] K =
  (LoopI K0 (bodyOf Tryd.f66) (0 : Nat)
  (St.mk
    [AV.imm (IV.str s), AV.imm (IV.int IntKind.i64 i), AV.dead, AV.dead, AV.imm (IV.int IntKind.i64 (0 : Int)),
      AV.imm (IV.int IntKind.i64 (0 : Int)), AV.imm (IV.int IntKind.i64 (0 : Int)), AV.imm (IV.int IntKind.i64 i),
      AV.imm (IV.int IntKind.i64 i), AV.dead, AV.dead, AV.dead, AV.dead, AV.dead, AV.dead, AV.dead, AV.dead, AV.dead,
      AV.dead, AV.dead, AV.dead, AV.dead, AV.dead, AV.dead, AV.dead, AV.dead, AV.dead, AV.dead, AV.dead, AV.dead,
      AV.dead, AV.dead, AV.dead, AV.dead, AV.dead, AV.dead, AV.dead, AV.dead, AV.dead, AV.dead, AV.dead, AV.dead,
      AV.dead, AV.dead, AV.dead, AV.dead, AV.dead, AV.dead, AV.dead, AV.dead, AV.dead]
    [] (0 : Nat) [])
  (finK K0 Tryd.f66 K)) := by kernel_rfl
theorem f66_lp (s : List UInt8) (i : Int) (v : Int) (n : Int) (k : AX → St → Prop) : evCode K0 (loopB (bodyOf Tryd.f66) (0 : Nat)) (h66 s i v n) k = ((decide (n < (s.length : Int)) = true → (0 : Int) ≤ n) ∧ (decide (n < (s.length : Int)) = true → n < (s.length : Int)) ∧ ((decide (n < (s.length : Int)) && decide ((↑(UInt8.toNat (List.getD s n.toNat (0 : UInt8))) : Int) ≥ 48)) = true → (0 : Int) ≤ n) ∧ ((decide (n < (s.length : Int)) && decide ((↑(UInt8.toNat (List.getD s n.toNat (0 : UInt8))) : Int) ≥ 48)) = true → n < (s.length : Int)) ∧ brn (decide (n < (s.length : Int)) && decide ((↑(UInt8.toNat (List.getD s n.toNat (0 : UInt8))) : Int) ≥ 48) && decide ((↑(UInt8.toNat (List.getD s n.toNat (0 : UInt8))) : Int) ≤ 57)) (brn (decide (IntKind.wrap .i64 (n - i) < 4)) ((0 : Int) ≤ n ∧ n < (s.length : Int) ∧ k AX.normal (St.mk [.imm (.str s), .imm (.int .i64 i), .dead, .dead, .imm (.int .i64 0), .imm (.int .i64 0), .imm (.int .i64 (IntKind.wrap .i64 (IntKind.wrap .i64 (IntKind.wrap .i64 ((10 : Int) * v) + IntKind.wrap .i64 (↑(UInt8.toNat (List.getD s n.toNat (0 : UInt8))) : Int)) - 48))), .imm (.int .i64 (IntKind.wrap .i64 (n + 1))), .dead, .imm (.int .i64 n), .imm (.str s), .imm (.int
 .i64 (s.length : Int)), .imm (.bool (decide (n < (s.length : Int)))), .imm (.bool (decide (n < (s.length : Int)))), .opt [((13 : Nat), true)] (.imm (.str s)), .opt [((13 : Nat), true)] (.imm (.int .i64 n)), .opt [((13 : Nat), true)] (.imm (.int .u8 (↑(UInt8.toNat (List.getD s n.toNat (0 : UInt8))) : Int))), .opt [((13 : Nat), true)] (.imm (.bool (decide ((↑(UInt8.toNat (List.getD s n.toNat (0 : UInt8))) : Int) ≥ 48)))), .imm (.bool (decide (n < (s.length : Int)) && decide ((↑(UInt8.toNat (List.getD s n.toNat (0 : UInt8))) : Int) ≥ 48))), .imm (.bool (decide (n < (s.length : Int)) && decide ((↑(UInt8.toNat (List.getD s n.toNat (0 : UInt8))) : Int) ≥ 48))), .opt [((19 : Nat), true)] (.imm (.str s)), .opt [((19 : Nat), true)] (.imm (.int .i64 n)), .opt [((19 : Nat), true)] (.imm (.int .u8 (↑(UInt8.toNat (List.getD s n.toNat (0 : UInt8))) : Int))), .opt [((19 : Nat), true)] (.imm (.bool (decide ((↑(UInt8.toNat (List.getD s n.toNat (0 : UInt8))) : Int) ≤ 57)))), .imm (.bool (decide (n < (s.length : Int)) && decide ((↑(UInt8.toNat (List.getD s n.toNat (0 : UInt8))) : Int) ≥ 48) && decide ((↑(UInt8.toNat (List.getD s n.toNat (0 : UInt8))) : Int) ≤ 57))), .imm (.int .i64 n), .imm (.int .i64
 i), .imm (.int .i64 (IntKind.wrap .i64 (n - i))), .imm (.bool (decide (IntKind.wrap .i64 (n - i) < 4))), .imm (.int .i64 v), .imm (.int .i64 (IntKind.wrap .i64 ((10 : Int) * v))), .imm (.str s), .imm (.int .i64 n), .imm (.int .u8 (↑(UInt8.toNat (List.getD s n.toNat (0 : UInt8))) : Int)), .imm (.int .i64 (IntKind.wrap .i64 (↑(UInt8.toNat (List.getD s n.toNat (0 : UInt8))) : Int))), .imm (.int .i64 (IntKind.wrap .i64 (IntKind.wrap .i64 ((10 : Int) * v) + IntKind.wrap .i64 (↑(UInt8.toNat (List.getD s n.toNat (0 : UInt8))) : Int)))), .imm (.int .i64 (IntKind.wrap .i64 (IntKind.wrap .i64 (IntKind.wrap .i64 ((10 : Int) * v) + IntKind.wrap .i64 (↑(UInt8.toNat (List.getD s n.toNat (0 : UInt8))) : Int)) - 48))), .imm (.int .i64 n), .imm (.int .i64 (IntKind.wrap .i64 (n + 1))), .dead, .dead, .dead, .dead, .dead, .dead, .dead, .dead, .dead, .dead, .dead, .dead] [] (0 : Nat) [])) (k AX.normal (St.mk [.imm (.str s), .imm (.int .i64 i), .dead, .dead, .imm (.int .i64 0), .imm (.int .i64 0), .imm (.int .i64 v), .imm (.int .i64 (IntKind.wrap .i64 (n + 1))), .dead, .imm (.int .i64 n), .imm (.str s), .imm (.int .i64 (s.length : Int)), .imm (.bool (decide (n < (s.length : Int)))), .imm (.bool (decide
 (n < (s.length : Int)))), .opt [((13 : Nat), true)] (.imm (.str s)), .opt [((13 : Nat), true)] (.imm (.int .i64 n)), .opt [((13 : Nat), true)] (.imm (.int .u8 (↑(UInt8.toNat (List.getD s n.toNat (0 : UInt8))) : Int))), .opt [((13 : Nat), true)] (.imm (.bool (decide ((↑(UInt8.toNat (List.getD s n.toNat (0 : UInt8))) : Int) ≥ 48)))), .imm (.bool (decide (n < (s.length : Int)) && decide ((↑(UInt8.toNat (List.getD s n.toNat (0 : UInt8))) : Int) ≥ 48))), .imm (.bool (decide (n < (s.length : Int)) && decide ((↑(UInt8.toNat (List.getD s n.toNat (0 : UInt8))) : Int) ≥ 48))), .opt [((19 : Nat), true)] (.imm (.str s)), .opt [((19 : Nat), true)] (.imm (.int .i64 n)), .opt [((19 : Nat), true)] (.imm (.int .u8 (↑(UInt8.toNat (List.getD s n.toNat (0 : UInt8))) : Int))), .opt [((19 : Nat), true)] (.imm (.bool (decide ((↑(UInt8.toNat (List.getD s n.toNat (0 : UInt8))) : Int) ≤ 57)))), .imm (.bool (decide (n < (s.length : Int)) && decide ((↑(UInt8.toNat (List.getD s n.toNat (0 : UInt8))) : Int) ≥ 48) && decide ((↑(UInt8.toNat (List.getD s n.toNat (0 : UInt8))) : Int) ≤ 57))), .imm (.int .i64 n), .imm (.int .i64 i), .imm (.int .i64 (IntKind.wrap .i64 (n - i))), .imm (.bool (decide (IntKind.wrap .i64
 (n - i) < 4))), .dead, .dead, .dead, .dead, .dead, .dead, .dead, .dead, .imm (.int .i64 n), .imm (.int .i64 (IntKind.wrap .i64 (n + 1))), .dead, .dead, .dead, .dead, .dead, .dead, .dead, .dead, .dead, .dead, .dead, .dead] [] (0 : Nat) []))) (k (AX.exit (0 : Nat)) (St.mk [.imm (.str s), .imm (.int .i64 i), .dead, .dead, .imm (.int .i64 0), .imm (.int .i64 0), .imm (.int .i64 v), .imm (.int .i64 n), .dead, .imm (.int .i64 n), .imm (.str s), .imm (.int .i64 (s.length : Int)), .imm (.bool (decide (n < (s.length : Int)))), .imm (.bool (decide (n < (s.length : Int)))), .opt [((13 : Nat), true)] (.imm (.str s)), .opt [((13 : Nat), true)] (.imm (.int .i64 n)), .opt [((13 : Nat), true)] (.imm (.int .u8 (↑(UInt8.toNat (List.getD s n.toNat (0 : UInt8))) : Int))), .opt [((13 : Nat), true)] (.imm (.bool (decide ((↑(UInt8.toNat (List.getD s n.toNat (0 : UInt8))) : Int) ≥ 48)))), .imm (.bool (decide (n < (s.length : Int)) && decide ((↑(UInt8.toNat (List.getD s n.toNat (0 : UInt8))) : Int) ≥ 48))), .imm (.bool (decide (n < (s.length : Int)) && decide ((↑(UInt8.toNat (List.getD s n.toNat (0 : UInt8))) : Int) ≥ 48))), .opt [((19 : Nat), true)] (.imm (.str s)), .opt [((19 : Nat), true)] (.imm (.int
 .i64 n)), .opt [((19 : Nat), true)] (.imm (.int .u8 (↑(UInt8.toNat (List.getD s n.toNat (0 : UInt8))) : Int))), .opt [((19 : Nat), true)] (.imm (.bool (decide ((↑(UInt8.toNat (List.getD s n.toNat (0 : UInt8))) : Int) ≤ 57)))), .imm (.bool (decide (n < (s.length : Int)) && decide ((↑(UInt8.toNat (List.getD s n.toNat (0 : UInt8))) : Int) ≥ 48) && decide ((↑(UInt8.toNat (List.getD s n.toNat (0 : UInt8))) : Int) ≤ 57))), .dead, .dead, .dead, .dead, .dead, .dead, .dead, .dead, .dead, .dead, .dead, .dead, .dead, .dead, .dead, .dead, .dead, .dead, .dead, .dead, .dead, .dead, .dead, .dead, .dead, .dead] [] (0 : Nat) []))) := by kernel_rfl
theorem f18_in (a : List
  UInt8) (o : Int) (h : Bool) (b : List
  UInt8) (p : Int) (k : Int) (d : Int) (m : Int) (w : Int) (e : Int) (t : Int) (k' : Int) (d' : Int) (m' : Int) (w' : Int) (e' : Int) (t' : Int) (K : List
    AV →
  Prop) : evSpec Q0 Tryd.f18 [ruleAV a o h b p k d m w e t k' d' m' w' e' t'] K =
  (K [AV.imm (IV.bool (h && (late t || late t')))]) := by kernel_rfl
theorem f14_in (a : List UInt8) (o : Int) (h : Bool) (b : List UInt8) (p : Int) (k : Int) (d : Int) (m : Int) (w : Int) (e : Int) (t : Int) (k' : Int) (d' : Int) (m' : Int) (w' : Int) (e' : Int) (t' : Int) (K : List AV → Prop) : evSpec Q0 Tryd.f14 [ruleAV a o h b p k d m w e t k' d' m' w' e' t'] K = (a.length ≤ 9223372036854775807 ∧ brn (!B7.valid a || !side o) (K [.imm (.bool false)]) (brn (!h) (K [.imm (.bool (decide (b = []) && p == 0 && (k == 0 && (d == 0 && (m == 0 && (w == 0 && (e == 0 && (t == 0 && true)))))) && (k' == 0 && (d' == 0 && (m' == 0 && (w' == 0 && (e' == 0 && (t' == 0 && true))))))))]) (b.length ≤ 9223372036854775807 ∧ K [.imm (.bool (B7.valid b && side p && validDay k d m w e t && validDay k' d' m' w' e' t'))]))) := by kernel_rfl
theorem f13_in (k : Int) (d : Int) (m : Int) (w : Int) (e : Int) (t : Int) (K : List AV → Prop) : evSpec Q0 Tryd.f13 [dayAV k d m w e t] K = ((0 : Int) ≤ d ∧ d < 1000 ∧ brn (k == 1) (List.length [(74 : UInt8)] + (B8.dd d.toNat).length ≤ 9223372036854775807 ∧ brn (k == 3) (((0 : Int) ≤ m ∧ m < 1000 ∧ List.length [(77 : UInt8)] + (B8.dd m.toNat).length ≤ 9223372036854775807 ∧ ([(77 : UInt8)] ++ B8.dd m.toNat).length + List.length [(46 : UInt8)] ≤ 9223372036854775807 ∧ ((0 : Int) ≤ w ∧ w < 1000 ∧ ([(77 : UInt8)] ++ B8.dd m.toNat ++ [(46 : UInt8)]).length + (B8.dd w.toNat).length ≤ 9223372036854775807 ∧ ([(77 : UInt8)] ++ B8.dd m.toNat ++ [(46 : UInt8)] ++ B8.dd w.toNat).length + List.length [(46 : UInt8)] ≤ 9223372036854775807 ∧ (0 : Int) ≤ e ∧ e < 1000 ∧ ([(77 : UInt8)] ++ B8.dd m.toNat ++ [(46 : UInt8)] ++ B8.dd w.toNat ++ [(46 : UInt8)]).length + (B8.dd e.toNat).length ≤ 9223372036854775807 ∧ brn (t != 7200) (([(77 : UInt8)] ++ B8.dd m.toNat ++ [(46 : UInt8)] ++ B8.dd w.toNat ++ [(46 : UInt8)] ++ B8.dd e.toNat).length + List.length [(47 : UInt8)] ≤ 9223372036854775807 ∧ (-604799 : Int) ≤ t ∧ t ≤ 604799 ∧ ([(77 : UInt8)] ++ B8.dd m.toNat ++ [(46 : UInt8)] ++ B8.dd w.toNat ++ [(46 :
 UInt8)] ++ B8.dd e.toNat ++ [(47 : UInt8)]).length + (B8.fmt t).length ≤ 9223372036854775807 ∧ K [.imm (.str ([(77 : UInt8)] ++ B8.dd m.toNat ++ [(46 : UInt8)] ++ B8.dd w.toNat ++ [(46 : UInt8)] ++ B8.dd e.toNat ++ [(47 : UInt8)] ++ B8.fmt t))]) (K [.imm (.str ([(77 : UInt8)] ++ B8.dd m.toNat ++ [(46 : UInt8)] ++ B8.dd w.toNat ++ [(46 : UInt8)] ++ B8.dd e.toNat))])) ∧ (0 : Int) ≤ w ∧ w < 1000 ∧ ([(77 : UInt8)] ++ B8.dd m.toNat ++ [(46 : UInt8)]).length + (B8.dd w.toNat).length ≤ 9223372036854775807 ∧ ([(77 : UInt8)] ++ B8.dd m.toNat ++ [(46 : UInt8)] ++ B8.dd w.toNat).length + List.length [(46 : UInt8)] ≤ 9223372036854775807 ∧ (0 : Int) ≤ e ∧ e < 1000 ∧ ([(77 : UInt8)] ++ B8.dd m.toNat ++ [(46 : UInt8)] ++ B8.dd w.toNat ++ [(46 : UInt8)]).length + (B8.dd e.toNat).length ≤ 9223372036854775807 ∧ brn (t != 7200) (([(77 : UInt8)] ++ B8.dd m.toNat ++ [(46 : UInt8)] ++ B8.dd w.toNat ++ [(46 : UInt8)] ++ B8.dd e.toNat).length + List.length [(47 : UInt8)] ≤ 9223372036854775807 ∧ (-604799 : Int) ≤ t ∧ t ≤ 604799 ∧ ([(77 : UInt8)] ++ B8.dd m.toNat ++ [(46 : UInt8)] ++ B8.dd w.toNat ++ [(46 : UInt8)] ++ B8.dd e.toNat ++ [(47 : UInt8)]).length + (B8.fmt t).length ≤ 9223372036854775807 ∧ K [.imm
 (.str ([(77 : UInt8)] ++ B8.dd m.toNat ++ [(46 : UInt8)] ++ B8.dd w.toNat ++ [(46 : UInt8)] ++ B8.dd e.toNat ++ [(47 : UInt8)] ++ B8.fmt t))]) (K [.imm (.str ([(77 : UInt8)] ++ B8.dd m.toNat ++ [(46 : UInt8)] ++ B8.dd w.toNat ++ [(46 : UInt8)] ++ B8.dd e.toNat))])) ∧ (((0 : Int) ≤ m ∧ m < 1000 ∧ List.length [(77 : UInt8)] + (B8.dd m.toNat).length ≤ 9223372036854775807 ∧ ([(77 : UInt8)] ++ B8.dd m.toNat).length + List.length [(46 : UInt8)] ≤ 9223372036854775807 ∧ ((0 : Int) ≤ w ∧ w < 1000 ∧ ([(77 : UInt8)] ++ B8.dd m.toNat ++ [(46 : UInt8)]).length + (B8.dd w.toNat).length ≤ 9223372036854775807 ∧ ([(77 : UInt8)] ++ B8.dd m.toNat ++ [(46 : UInt8)] ++ B8.dd w.toNat).length + List.length [(46 : UInt8)] ≤ 9223372036854775807 ∧ (0 : Int) ≤ e ∧ e < 1000 ∧ ([(77 : UInt8)] ++ B8.dd m.toNat ++ [(46 : UInt8)] ++ B8.dd w.toNat ++ [(46 : UInt8)]).length + (B8.dd e.toNat).length ≤ 9223372036854775807 ∧ brn (t != 7200) (([(77 : UInt8)] ++ B8.dd m.toNat ++ [(46 : UInt8)] ++ B8.dd w.toNat ++ [(46 : UInt8)] ++ B8.dd e.toNat).length + List.length [(47 : UInt8)] ≤ 9223372036854775807 ∧ (-604799 : Int) ≤ t ∧ t ≤ 604799 ∧ ([(77 : UInt8)] ++ B8.dd m.toNat ++ [(46 : UInt8)] ++ B8.dd w.toNat ++ [(46 :
 UInt8)] ++ B8.dd e.toNat ++ [(47 : UInt8)]).length + (B8.fmt t).length ≤ 9223372036854775807 ∧ K [.imm (.str ([(77 : UInt8)] ++ B8.dd m.toNat ++ [(46 : UInt8)] ++ B8.dd w.toNat ++ [(46 : UInt8)] ++ B8.dd e.toNat ++ [(47 : UInt8)] ++ B8.fmt t))]) (K [.imm (.str ([(77 : UInt8)] ++ B8.dd m.toNat ++ [(46 : UInt8)] ++ B8.dd w.toNat ++ [(46 : UInt8)] ++ B8.dd e.toNat))])) ∧ (0 : Int) ≤ w ∧ w < 1000 ∧ ([(77 : UInt8)] ++ B8.dd m.toNat ++ [(46 : UInt8)]).length + (B8.dd w.toNat).length ≤ 9223372036854775807 ∧ ([(77 : UInt8)] ++ B8.dd m.toNat ++ [(46 : UInt8)] ++ B8.dd w.toNat).length + List.length [(46 : UInt8)] ≤ 9223372036854775807 ∧ (0 : Int) ≤ e ∧ e < 1000 ∧ ([(77 : UInt8)] ++ B8.dd m.toNat ++ [(46 : UInt8)] ++ B8.dd w.toNat ++ [(46 : UInt8)]).length + (B8.dd e.toNat).length ≤ 9223372036854775807 ∧ brn (t != 7200) (([(77 : UInt8)] ++ B8.dd m.toNat ++ [(46 : UInt8)] ++ B8.dd w.toNat ++ [(46 : UInt8)] ++ B8.dd e.toNat).length + List.length [(47 : UInt8)] ≤ 9223372036854775807 ∧ (-604799 : Int) ≤ t ∧ t ≤ 604799 ∧ ([(77 : UInt8)] ++ B8.dd m.toNat ++ [(46 : UInt8)] ++ B8.dd w.toNat ++ [(46 : UInt8)] ++ B8.dd e.toNat ++ [(47 : UInt8)]).length + (B8.fmt t).length ≤ 9223372036854775807 ∧ K [.imm
 (.str ([(77 : UInt8)] ++ B8.dd m.toNat ++ [(46 : UInt8)] ++ B8.dd w.toNat ++ [(46 : UInt8)] ++ B8.dd e.toNat ++ [(47 : UInt8)] ++ B8.fmt t))]) (K [.imm (.str ([(77 : UInt8)] ++ B8.dd m.toNat ++ [(46 : UInt8)] ++ B8.dd w.toNat ++ [(46 : UInt8)] ++ B8.dd e.toNat))])) ∧ (0 : Int) ≤ m ∧ m < 1000 ∧ List.length [(77 : UInt8)] + (B8.dd m.toNat).length ≤ 9223372036854775807 ∧ ([(77 : UInt8)] ++ B8.dd m.toNat).length + List.length [(46 : UInt8)] ≤ 9223372036854775807 ∧ (0 : Int) ≤ w ∧ w < 1000 ∧ ([(77 : UInt8)] ++ B8.dd m.toNat ++ [(46 : UInt8)]).length + (B8.dd w.toNat).length ≤ 9223372036854775807 ∧ ([(77 : UInt8)] ++ B8.dd m.toNat ++ [(46 : UInt8)] ++ B8.dd w.toNat).length + List.length [(46 : UInt8)] ≤ 9223372036854775807 ∧ (0 : Int) ≤ e ∧ e < 1000 ∧ ([(77 : UInt8)] ++ B8.dd m.toNat ++ [(46 : UInt8)] ++ B8.dd w.toNat ++ [(46 : UInt8)]).length + (B8.dd e.toNat).length ≤ 9223372036854775807 ∧ brn (t != 7200) (([(77 : UInt8)] ++ B8.dd m.toNat ++ [(46 : UInt8)] ++ B8.dd w.toNat ++ [(46 : UInt8)] ++ B8.dd e.toNat).length + List.length [(47 : UInt8)] ≤ 9223372036854775807 ∧ (-604799 : Int) ≤ t ∧ t ≤ 604799 ∧ ([(77 : UInt8)] ++ B8.dd m.toNat ++ [(46 : UInt8)] ++ B8.dd w.toNat ++ [(46 : UInt8)]
 ++ B8.dd e.toNat ++ [(47 : UInt8)]).length + (B8.fmt t).length ≤ 9223372036854775807 ∧ K [.imm (.str ([(77 : UInt8)] ++ B8.dd m.toNat ++ [(46 : UInt8)] ++ B8.dd w.toNat ++ [(46 : UInt8)] ++ B8.dd e.toNat ++ [(47 : UInt8)] ++ B8.fmt t))]) (K [.imm (.str ([(77 : UInt8)] ++ B8.dd m.toNat ++ [(46 : UInt8)] ++ B8.dd w.toNat ++ [(46 : UInt8)] ++ B8.dd e.toNat))])) ∧ ((0 : Int) ≤ m ∧ m < 1000 ∧ List.length [(77 : UInt8)] + (B8.dd m.toNat).length ≤ 9223372036854775807 ∧ ([(77 : UInt8)] ++ B8.dd m.toNat).length + List.length [(46 : UInt8)] ≤ 9223372036854775807 ∧ (0 : Int) ≤ w ∧ w < 1000 ∧ ([(77 : UInt8)] ++ B8.dd m.toNat ++ [(46 : UInt8)]).length + (B8.dd w.toNat).length ≤ 9223372036854775807 ∧ ([(77 : UInt8)] ++ B8.dd m.toNat ++ [(46 : UInt8)] ++ B8.dd w.toNat).length + List.length [(46 : UInt8)] ≤ 9223372036854775807 ∧ (0 : Int) ≤ e ∧ e < 1000 ∧ ([(77 : UInt8)] ++ B8.dd m.toNat ++ [(46 : UInt8)] ++ B8.dd w.toNat ++ [(46 : UInt8)]).length + (B8.dd e.toNat).length ≤ 9223372036854775807 ∧ brn (t != 7200) (([(77 : UInt8)] ++ B8.dd m.toNat ++ [(46 : UInt8)] ++ B8.dd w.toNat ++ [(46 : UInt8)] ++ B8.dd e.toNat).length + List.length [(47 : UInt8)] ≤ 9223372036854775807 ∧ (-604799 : Int) ≤ t ∧ t ≤
 604799 ∧ ([(77 : UInt8)] ++ B8.dd m.toNat ++ [(46 : UInt8)] ++ B8.dd w.toNat ++ [(46 : UInt8)] ++ B8.dd e.toNat ++ [(47 : UInt8)]).length + (B8.fmt t).length ≤ 9223372036854775807 ∧ K [.imm (.str ([(77 : UInt8)] ++ B8.dd m.toNat ++ [(46 : UInt8)] ++ B8.dd w.toNat ++ [(46 : UInt8)] ++ B8.dd e.toNat ++ [(47 : UInt8)] ++ B8.fmt t))]) (K [.imm (.str ([(77 : UInt8)] ++ B8.dd m.toNat ++ [(46 : UInt8)] ++ B8.dd w.toNat ++ [(46 : UInt8)] ++ B8.dd e.toNat))])) ∧ (0 : Int) ≤ m ∧ m < 1000 ∧ List.length [(77 : UInt8)] + (B8.dd m.toNat).length ≤ 9223372036854775807 ∧ ([(77 : UInt8)] ++ B8.dd m.toNat).length + List.length [(46 : UInt8)] ≤ 9223372036854775807 ∧ (0 : Int) ≤ w ∧ w < 1000 ∧ ([(77 : UInt8)] ++ B8.dd m.toNat ++ [(46 : UInt8)]).length + (B8.dd w.toNat).length ≤ 9223372036854775807 ∧ ([(77 : UInt8)] ++ B8.dd m.toNat ++ [(46 : UInt8)] ++ B8.dd w.toNat).length + List.length [(46 : UInt8)] ≤ 9223372036854775807 ∧ (0 : Int) ≤ e ∧ e < 1000 ∧ ([(77 : UInt8)] ++ B8.dd m.toNat ++ [(46 : UInt8)] ++ B8.dd w.toNat ++ [(46 : UInt8)]).length + (B8.dd e.toNat).length ≤ 9223372036854775807 ∧ brn (t != 7200) (([(77 : UInt8)] ++ B8.dd m.toNat ++ [(46 : UInt8)] ++ B8.dd w.toNat ++ [(46 : UInt8)] ++ B8.dd
 e.toNat).length + List.length [(47 : UInt8)] ≤ 9223372036854775807 ∧ (-604799 : Int) ≤ t ∧ t ≤ 604799 ∧ ([(77 : UInt8)] ++ B8.dd m.toNat ++ [(46 : UInt8)] ++ B8.dd w.toNat ++ [(46 : UInt8)] ++ B8.dd e.toNat ++ [(47 : UInt8)]).length + (B8.fmt t).length ≤ 9223372036854775807 ∧ K [.imm (.str ([(77 : UInt8)] ++ B8.dd m.toNat ++ [(46 : UInt8)] ++ B8.dd w.toNat ++ [(46 : UInt8)] ++ B8.dd e.toNat ++ [(47 : UInt8)] ++ B8.fmt t))]) (K [.imm (.str ([(77 : UInt8)] ++ B8.dd m.toNat ++ [(46 : UInt8)] ++ B8.dd w.toNat ++ [(46 : UInt8)] ++ B8.dd e.toNat))])) (brn (t != 7200) (([(74 : UInt8)] ++ B8.dd d.toNat).length + List.length [(47 : UInt8)] ≤ 9223372036854775807 ∧ (-604799 : Int) ≤ t ∧ t ≤ 604799 ∧ ([(74 : UInt8)] ++ B8.dd d.toNat ++ [(47 : UInt8)]).length + (B8.fmt t).length ≤ 9223372036854775807 ∧ K [.imm (.str ([(74 : UInt8)] ++ B8.dd d.toNat ++ [(47 : UInt8)] ++ B8.fmt t))]) (K [.imm (.str ([(74 : UInt8)] ++ B8.dd d.toNat))]))) (brn (k == 3) (((0 : Int) ≤ m ∧ m < 1000 ∧ List.length [(77 : UInt8)] + (B8.dd m.toNat).length ≤ 9223372036854775807 ∧ ([(77 : UInt8)] ++ B8.dd m.toNat).length + List.length [(46 : UInt8)] ≤ 9223372036854775807 ∧ ((0 : Int) ≤ w ∧ w < 1000 ∧ ([(77 : UInt8)] ++ B8.dd
 m.toNat ++ [(46 : UInt8)]).length + (B8.dd w.toNat).length ≤ 9223372036854775807 ∧ ([(77 : UInt8)] ++ B8.dd m.toNat ++ [(46 : UInt8)] ++ B8.dd w.toNat).length + List.length [(46 : UInt8)] ≤ 9223372036854775807 ∧ (0 : Int) ≤ e ∧ e < 1000 ∧ ([(77 : UInt8)] ++ B8.dd m.toNat ++ [(46 : UInt8)] ++ B8.dd w.toNat ++ [(46 : UInt8)]).length + (B8.dd e.toNat).length ≤ 9223372036854775807 ∧ brn (t != 7200) (([(77 : UInt8)] ++ B8.dd m.toNat ++ [(46 : UInt8)] ++ B8.dd w.toNat ++ [(46 : UInt8)] ++ B8.dd e.toNat).length + List.length [(47 : UInt8)] ≤ 9223372036854775807 ∧ (-604799 : Int) ≤ t ∧ t ≤ 604799 ∧ ([(77 : UInt8)] ++ B8.dd m.toNat ++ [(46 : UInt8)] ++ B8.dd w.toNat ++ [(46 : UInt8)] ++ B8.dd e.toNat ++ [(47 : UInt8)]).length + (B8.fmt t).length ≤ 9223372036854775807 ∧ K [.imm (.str ([(77 : UInt8)] ++ B8.dd m.toNat ++ [(46 : UInt8)] ++ B8.dd w.toNat ++ [(46 : UInt8)] ++ B8.dd e.toNat ++ [(47 : UInt8)] ++ B8.fmt t))]) (K [.imm (.str ([(77 : UInt8)] ++ B8.dd m.toNat ++ [(46 : UInt8)] ++ B8.dd w.toNat ++ [(46 : UInt8)] ++ B8.dd e.toNat))])) ∧ (0 : Int) ≤ w ∧ w < 1000 ∧ ([(77 : UInt8)] ++ B8.dd m.toNat ++ [(46 : UInt8)]).length + (B8.dd w.toNat).length ≤ 9223372036854775807 ∧ ([(77 : UInt8)] ++
 B8.dd m.toNat ++ [(46 : UInt8)] ++ B8.dd w.toNat).length + List.length [(46 : UInt8)] ≤ 9223372036854775807 ∧ (0 : Int) ≤ e ∧ e < 1000 ∧ ([(77 : UInt8)] ++ B8.dd m.toNat ++ [(46 : UInt8)] ++ B8.dd w.toNat ++ [(46 : UInt8)]).length + (B8.dd e.toNat).length ≤ 9223372036854775807 ∧ brn (t != 7200) (([(77 : UInt8)] ++ B8.dd m.toNat ++ [(46 : UInt8)] ++ B8.dd w.toNat ++ [(46 : UInt8)] ++ B8.dd e.toNat).length + List.length [(47 : UInt8)] ≤ 9223372036854775807 ∧ (-604799 : Int) ≤ t ∧ t ≤ 604799 ∧ ([(77 : UInt8)] ++ B8.dd m.toNat ++ [(46 : UInt8)] ++ B8.dd w.toNat ++ [(46 : UInt8)] ++ B8.dd e.toNat ++ [(47 : UInt8)]).length + (B8.fmt t).length ≤ 9223372036854775807 ∧ K [.imm (.str ([(77 : UInt8)] ++ B8.dd m.toNat ++ [(46 : UInt8)] ++ B8.dd w.toNat ++ [(46 : UInt8)] ++ B8.dd e.toNat ++ [(47 : UInt8)] ++ B8.fmt t))]) (K [.imm (.str ([(77 : UInt8)] ++ B8.dd m.toNat ++ [(46 : UInt8)] ++ B8.dd w.toNat ++ [(46 : UInt8)] ++ B8.dd e.toNat))])) ∧ (((0 : Int) ≤ m ∧ m < 1000 ∧ List.length [(77 : UInt8)] + (B8.dd m.toNat).length ≤ 9223372036854775807 ∧ ([(77 : UInt8)] ++ B8.dd m.toNat).length + List.length [(46 : UInt8)] ≤ 9223372036854775807 ∧ ((0 : Int) ≤ w ∧ w < 1000 ∧ ([(77 : UInt8)] ++ B8.dd
 m.toNat ++ [(46 : UInt8)]).length + (B8.dd w.toNat).length ≤ 9223372036854775807 ∧ ([(77 : UInt8)] ++ B8.dd m.toNat ++ [(46 : UInt8)] ++ B8.dd w.toNat).length + List.length [(46 : UInt8)] ≤ 9223372036854775807 ∧ (0 : Int) ≤ e ∧ e < 1000 ∧ ([(77 : UInt8)] ++ B8.dd m.toNat ++ [(46 : UInt8)] ++ B8.dd w.toNat ++ [(46 : UInt8)]).length + (B8.dd e.toNat).length ≤ 9223372036854775807 ∧ brn (t != 7200) (([(77 : UInt8)] ++ B8.dd m.toNat ++ [(46 : UInt8)] ++ B8.dd w.toNat ++ [(46 : UInt8)] ++ B8.dd e.toNat).length + List.length [(47 : UInt8)] ≤ 9223372036854775807 ∧ (-604799 : Int) ≤ t ∧ t ≤ 604799 ∧ ([(77 : UInt8)] ++ B8.dd m.toNat ++ [(46 : UInt8)] ++ B8.dd w.toNat ++ [(46 : UInt8)] ++ B8.dd e.toNat ++ [(47 : UInt8)]).length + (B8.fmt t).length ≤ 9223372036854775807 ∧ K [.imm (.str ([(77 : UInt8)] ++ B8.dd m.toNat ++ [(46 : UInt8)] ++ B8.dd w.toNat ++ [(46 : UInt8)] ++ B8.dd e.toNat ++ [(47 : UInt8)] ++ B8.fmt t))]) (K [.imm (.str ([(77 : UInt8)] ++ B8.dd m.toNat ++ [(46 : UInt8)] ++ B8.dd w.toNat ++ [(46 : UInt8)] ++ B8.dd e.toNat))])) ∧ (0 : Int) ≤ w ∧ w < 1000 ∧ ([(77 : UInt8)] ++ B8.dd m.toNat ++ [(46 : UInt8)]).length + (B8.dd w.toNat).length ≤ 9223372036854775807 ∧ ([(77 : UInt8)] ++
 B8.dd m.toNat ++ [(46 : UInt8)] ++ B8.dd w.toNat).length + List.length [(46 : UInt8)] ≤ 9223372036854775807 ∧ (0 : Int) ≤ e ∧ e < 1000 ∧ ([(77 : UInt8)] ++ B8.dd m.toNat ++ [(46 : UInt8)] ++ B8.dd w.toNat ++ [(46 : UInt8)]).length + (B8.dd e.toNat).length ≤ 9223372036854775807 ∧ brn (t != 7200) (([(77 : UInt8)] ++ B8.dd m.toNat ++ [(46 : UInt8)] ++ B8.dd w.toNat ++ [(46 : UInt8)] ++ B8.dd e.toNat).length + List.length [(47 : UInt8)] ≤ 9223372036854775807 ∧ (-604799 : Int) ≤ t ∧ t ≤ 604799 ∧ ([(77 : UInt8)] ++ B8.dd m.toNat ++ [(46 : UInt8)] ++ B8.dd w.toNat ++ [(46 : UInt8)] ++ B8.dd e.toNat ++ [(47 : UInt8)]).length + (B8.fmt t).length ≤ 9223372036854775807 ∧ K [.imm (.str ([(77 : UInt8)] ++ B8.dd m.toNat ++ [(46 : UInt8)] ++ B8.dd w.toNat ++ [(46 : UInt8)] ++ B8.dd e.toNat ++ [(47 : UInt8)] ++ B8.fmt t))]) (K [.imm (.str ([(77 : UInt8)] ++ B8.dd m.toNat ++ [(46 : UInt8)] ++ B8.dd w.toNat ++ [(46 : UInt8)] ++ B8.dd e.toNat))])) ∧ (0 : Int) ≤ m ∧ m < 1000 ∧ List.length [(77 : UInt8)] + (B8.dd m.toNat).length ≤ 9223372036854775807 ∧ ([(77 : UInt8)] ++ B8.dd m.toNat).length + List.length [(46 : UInt8)] ≤ 9223372036854775807 ∧ (0 : Int) ≤ w ∧ w < 1000 ∧ ([(77 : UInt8)] ++ B8.dd m.toNat
 ++ [(46 : UInt8)]).length + (B8.dd w.toNat).length ≤ 9223372036854775807 ∧ ([(77 : UInt8)] ++ B8.dd m.toNat ++ [(46 : UInt8)] ++ B8.dd w.toNat).length + List.length [(46 : UInt8)] ≤ 9223372036854775807 ∧ (0 : Int) ≤ e ∧ e < 1000 ∧ ([(77 : UInt8)] ++ B8.dd m.toNat ++ [(46 : UInt8)] ++ B8.dd w.toNat ++ [(46 : UInt8)]).length + (B8.dd e.toNat).length ≤ 9223372036854775807 ∧ brn (t != 7200) (([(77 : UInt8)] ++ B8.dd m.toNat ++ [(46 : UInt8)] ++ B8.dd w.toNat ++ [(46 : UInt8)] ++ B8.dd e.toNat).length + List.length [(47 : UInt8)] ≤ 9223372036854775807 ∧ (-604799 : Int) ≤ t ∧ t ≤ 604799 ∧ ([(77 : UInt8)] ++ B8.dd m.toNat ++ [(46 : UInt8)] ++ B8.dd w.toNat ++ [(46 : UInt8)] ++ B8.dd e.toNat ++ [(47 : UInt8)]).length + (B8.fmt t).length ≤ 9223372036854775807 ∧ K [.imm (.str ([(77 : UInt8)] ++ B8.dd m.toNat ++ [(46 : UInt8)] ++ B8.dd w.toNat ++ [(46 : UInt8)] ++ B8.dd e.toNat ++ [(47 : UInt8)] ++ B8.fmt t))]) (K [.imm (.str ([(77 : UInt8)] ++ B8.dd m.toNat ++ [(46 : UInt8)] ++ B8.dd w.toNat ++ [(46 : UInt8)] ++ B8.dd e.toNat))])) ∧ ((0 : Int) ≤ m ∧ m < 1000 ∧ List.length [(77 : UInt8)] + (B8.dd m.toNat).length ≤ 9223372036854775807 ∧ ([(77 : UInt8)] ++ B8.dd m.toNat).length + List.length
 [(46 : UInt8)] ≤ 9223372036854775807 ∧ (0 : Int) ≤ w ∧ w < 1000 ∧ ([(77 : UInt8)] ++ B8.dd m.toNat ++ [(46 : UInt8)]).length + (B8.dd w.toNat).length ≤ 9223372036854775807 ∧ ([(77 : UInt8)] ++ B8.dd m.toNat ++ [(46 : UInt8)] ++ B8.dd w.toNat).length + List.length [(46 : UInt8)] ≤ 9223372036854775807 ∧ (0 : Int) ≤ e ∧ e < 1000 ∧ ([(77 : UInt8)] ++ B8.dd m.toNat ++ [(46 : UInt8)] ++ B8.dd w.toNat ++ [(46 : UInt8)]).length + (B8.dd e.toNat).length ≤ 9223372036854775807 ∧ brn (t != 7200) (([(77 : UInt8)] ++ B8.dd m.toNat ++ [(46 : UInt8)] ++ B8.dd w.toNat ++ [(46 : UInt8)] ++ B8.dd e.toNat).length + List.length [(47 : UInt8)] ≤ 9223372036854775807 ∧ (-604799 : Int) ≤ t ∧ t ≤ 604799 ∧ ([(77 : UInt8)] ++ B8.dd m.toNat ++ [(46 : UInt8)] ++ B8.dd w.toNat ++ [(46 : UInt8)] ++ B8.dd e.toNat ++ [(47 : UInt8)]).length + (B8.fmt t).length ≤ 9223372036854775807 ∧ K [.imm (.str ([(77 : UInt8)] ++ B8.dd m.toNat ++ [(46 : UInt8)] ++ B8.dd w.toNat ++ [(46 : UInt8)] ++ B8.dd e.toNat ++ [(47 : UInt8)] ++ B8.fmt t))]) (K [.imm (.str ([(77 : UInt8)] ++ B8.dd m.toNat ++ [(46 : UInt8)] ++ B8.dd w.toNat ++ [(46 : UInt8)] ++ B8.dd e.toNat))])) ∧ (0 : Int) ≤ m ∧ m < 1000 ∧ List.length [(77 : UInt8)] + (B8.dd
 m.toNat).length ≤ 9223372036854775807 ∧ ([(77 : UInt8)] ++ B8.dd m.toNat).length + List.length [(46 : UInt8)] ≤ 9223372036854775807 ∧ (0 : Int) ≤ w ∧ w < 1000 ∧ ([(77 : UInt8)] ++ B8.dd m.toNat ++ [(46 : UInt8)]).length + (B8.dd w.toNat).length ≤ 9223372036854775807 ∧ ([(77 : UInt8)] ++ B8.dd m.toNat ++ [(46 : UInt8)] ++ B8.dd w.toNat).length + List.length [(46 : UInt8)] ≤ 9223372036854775807 ∧ (0 : Int) ≤ e ∧ e < 1000 ∧ ([(77 : UInt8)] ++ B8.dd m.toNat ++ [(46 : UInt8)] ++ B8.dd w.toNat ++ [(46 : UInt8)]).length + (B8.dd e.toNat).length ≤ 9223372036854775807 ∧ brn (t != 7200) (([(77 : UInt8)] ++ B8.dd m.toNat ++ [(46 : UInt8)] ++ B8.dd w.toNat ++ [(46 : UInt8)] ++ B8.dd e.toNat).length + List.length [(47 : UInt8)] ≤ 9223372036854775807 ∧ (-604799 : Int) ≤ t ∧ t ≤ 604799 ∧ ([(77 : UInt8)] ++ B8.dd m.toNat ++ [(46 : UInt8)] ++ B8.dd w.toNat ++ [(46 : UInt8)] ++ B8.dd e.toNat ++ [(47 : UInt8)]).length + (B8.fmt t).length ≤ 9223372036854775807 ∧ K [.imm (.str ([(77 : UInt8)] ++ B8.dd m.toNat ++ [(46 : UInt8)] ++ B8.dd w.toNat ++ [(46 : UInt8)] ++ B8.dd e.toNat ++ [(47 : UInt8)] ++ B8.fmt t))]) (K [.imm (.str ([(77 : UInt8)] ++ B8.dd m.toNat ++ [(46 : UInt8)] ++ B8.dd w.toNat ++ [(46 :
 UInt8)] ++ B8.dd e.toNat))])) (brn (t != 7200) ((B8.dd d.toNat).length + List.length [(47 : UInt8)] ≤ 9223372036854775807 ∧ (-604799 : Int) ≤ t ∧ t ≤ 604799 ∧ (B8.dd d.toNat ++ [(47 : UInt8)]).length + (B8.fmt t).length ≤ 9223372036854775807 ∧ K [.imm (.str (B8.dd d.toNat ++ [(47 : UInt8)] ++ B8.fmt t))]) (K [.imm (.str (B8.dd d.toNat))])))) := by kernel_rfl
theorem f45_in (s : List UInt8) (K : List AV → Prop) : evSpec Q0 Tryd.f45 [st s] K = ((decide ((s.length : Int) > 0) = true → (0 : Int) ≤ 0) ∧ (decide ((s.length : Int) > 0) = true → (0 : Int) < (s.length : Int)) ∧ brn (decide ((s.length : Int) > 0) && (↑(UInt8.toNat (List.getD s (0 : Int).toNat (0 : UInt8))) : Int) == 74) ((0 : Int) ≤ 1 ∧ (1 : Int) ≤ (s.length : Int) ∧ (s.length : Int) ≤ 4611686018427387904 ∧ ((decide ((refnum s (1 : Int).toNat).1 ≥ 0) && decide ((refnum s (1 : Int).toNat).2 < (s.length : Int))) = true → (0 : Int) ≤ (refnum s (1 : Int).toNat).2) ∧ ((decide ((refnum s (1 : Int).toNat).1 ≥ 0) && decide ((refnum s (1 : Int).toNat).2 < (s.length : Int))) = true → (refnum s (1 : Int).toNat).2 < (s.length : Int)) ∧ brn (decide ((refnum s (1 : Int).toNat).1 ≥ 0) && decide ((refnum s (1 : Int).toNat).2 < (s.length : Int)) && (↑(UInt8.toNat (List.getD s (refnum s (1 : Int).toNat).2.toNat (0 : UInt8))) : Int) == 47) ((0 : Int) ≤ IntKind.wrap .i64 ((refnum s (1 : Int).toNat).2 + 1) ∧ IntKind.wrap .i64 ((refnum s (1 : Int).toNat).2 + 1) ≤ (s.length : Int) ∧ (↑(List.take (s.length - (IntKind.wrap .i64 ((refnum s (1 : Int).toNat).2 + 1)).toNat) (List.drop (IntKind.wrap .i64
 ((refnum s (1 : Int).toNat).2 + 1)).toNat s)).length : Int) ≤ B8.big ∧ brn (!(B8.parse (List.take (s.length - (IntKind.wrap .i64 ((refnum s (1 : Int).toNat).2 + 1)).toNat) (List.drop (IntKind.wrap .i64 ((refnum s (1 : Int).toNat).2 + 1)).toNat s))).2.2 || !validDay (1 : Int) (refnum s (1 : Int).toNat).1 (0 : Int) (0 : Int) (0 : Int) (B8.parse (List.take (s.length - (IntKind.wrap .i64 ((refnum s (1 : Int).toNat).2 + 1)).toNat) (List.drop (IntKind.wrap .i64 ((refnum s (1 : Int).toNat).2 + 1)).toNat s))).1) (K [.agg [.imm (.int .i64 0), .imm (.int .i64 0), .imm (.int .i64 0), .imm (.int .i64 0), .imm (.int .i64 0), .imm (.int .i64 0)], .imm (.int .i64 0), .imm (.bool false)]) (K [.agg [.imm (.int .i64 1), .imm (.int .i64 (refnum s (1 : Int).toNat).1), .imm (.int .i64 0), .imm (.int .i64 0), .imm (.int .i64 0), .imm (.int .i64 (B8.parse (List.take (s.length - (IntKind.wrap .i64 ((refnum s (1 : Int).toNat).2 + 1)).toNat) (List.drop (IntKind.wrap .i64 ((refnum s (1 : Int).toNat).2 + 1)).toNat s))).1)], .imm (.int .i64 (IntKind.wrap .i64 (IntKind.wrap .i64 ((refnum s (1 : Int).toNat).2 + 1) + (B8.parse (List.take (s.length - (IntKind.wrap .i64 ((refnum s (1 : Int).toNat).2 + 1)).toNat)
 (List.drop (IntKind.wrap .i64 ((refnum s (1 : Int).toNat).2 + 1)).toNat s))).2.1))), .imm (.bool true)])) (brn (!decide ((refnum s (1 : Int).toNat).1 ≥ 0) || !validDay (1 : Int) (refnum s (1 : Int).toNat).1 (0 : Int) (0 : Int) (0 : Int) (7200 : Int)) (K [.agg [.imm (.int .i64 0), .imm (.int .i64 0), .imm (.int .i64 0), .imm (.int .i64 0), .imm (.int .i64 0), .imm (.int .i64 0)], .imm (.int .i64 0), .imm (.bool false)]) (K [.agg [.imm (.int .i64 1), .imm (.int .i64 (refnum s (1 : Int).toNat).1), .imm (.int .i64 0), .imm (.int .i64 0), .imm (.int .i64 0), .imm (.int .i64 7200)], .imm (.int .i64 (refnum s (1 : Int).toNat).2), .imm (.bool true)]))) ((decide ((s.length : Int) > 0) = true → (0 : Int) ≤ 0) ∧ (decide ((s.length : Int) > 0) = true → (0 : Int) < (s.length : Int)) ∧ brn (decide ((s.length : Int) > 0) && (↑(UInt8.toNat (List.getD s (0 : Int).toNat (0 : UInt8))) : Int) == 77) ((0 : Int) ≤ 1 ∧ (1 : Int) ≤ (s.length : Int) ∧ (s.length : Int) ≤ 4611686018427387904 ∧ ((decide ((refnum s (1 : Int).toNat).1 < 0) || decide ((refnum s (1 : Int).toNat).2 ≥ (s.length : Int))) = false → (0 : Int) ≤ (refnum s (1 : Int).toNat).2) ∧ ((decide ((refnum s (1 : Int).toNat).1 < 0) || decide
 ((refnum s (1 : Int).toNat).2 ≥ (s.length : Int))) = false → (refnum s (1 : Int).toNat).2 < (s.length : Int)) ∧ brn (decide ((refnum s (1 : Int).toNat).1 < 0) || decide ((refnum s (1 : Int).toNat).2 ≥ (s.length : Int)) || (↑(UInt8.toNat (List.getD s (refnum s (1 : Int).toNat).2.toNat (0 : UInt8))) : Int) != 46) (K [.agg [.imm (.int .i64 0), .imm (.int .i64 0), .imm (.int .i64 0), .imm (.int .i64 0), .imm (.int .i64 0), .imm (.int .i64 0)], .imm (.int .i64 0), .imm (.bool false)]) ((0 : Int) ≤ IntKind.wrap .i64 ((refnum s (1 : Int).toNat).2 + 1) ∧ IntKind.wrap .i64 ((refnum s (1 : Int).toNat).2 + 1) ≤ (s.length : Int) ∧ (s.length : Int) ≤ 4611686018427387904 ∧ ((decide ((refnum s (IntKind.wrap .i64 ((refnum s (1 : Int).toNat).2 + 1)).toNat).1 < 0) || decide ((refnum s (IntKind.wrap .i64 ((refnum s (1 : Int).toNat).2 + 1)).toNat).2 ≥ (s.length : Int))) = false → (0 : Int) ≤ (refnum s (IntKind.wrap .i64 ((refnum s (1 : Int).toNat).2 + 1)).toNat).2) ∧ ((decide ((refnum s (IntKind.wrap .i64 ((refnum s (1 : Int).toNat).2 + 1)).toNat).1 < 0) || decide ((refnum s (IntKind.wrap .i64 ((refnum s (1 : Int).toNat).2 + 1)).toNat).2 ≥ (s.length : Int))) = false → (refnum s (IntKind.wrap .i64
 ((refnum s (1 : Int).toNat).2 + 1)).toNat).2 < (s.length : Int)) ∧ brn (decide ((refnum s (IntKind.wrap .i64 ((refnum s (1 : Int).toNat).2 + 1)).toNat).1 < 0) || decide ((refnum s (IntKind.wrap .i64 ((refnum s (1 : Int).toNat).2 + 1)).toNat).2 ≥ (s.length : Int)) || (↑(UInt8.toNat (List.getD s (refnum s (IntKind.wrap .i64 ((refnum s (1 : Int).toNat).2 + 1)).toNat).2.toNat (0 : UInt8))) : Int) != 46) (K [.agg [.imm (.int .i64 0), .imm (.int .i64 0), .imm (.int .i64 0), .imm (.int .i64 0), .imm (.int .i64 0), .imm (.int .i64 0)], .imm (.int .i64 0), .imm (.bool false)]) ((0 : Int) ≤ IntKind.wrap .i64 ((refnum s (IntKind.wrap .i64 ((refnum s (1 : Int).toNat).2 + 1)).toNat).2 + 1) ∧ IntKind.wrap .i64 ((refnum s (IntKind.wrap .i64 ((refnum s (1 : Int).toNat).2 + 1)).toNat).2 + 1) ≤ (s.length : Int) ∧ (s.length : Int) ≤ 4611686018427387904 ∧ ((decide ((refnum s (IntKind.wrap .i64 ((refnum s (IntKind.wrap .i64 ((refnum s (1 : Int).toNat).2 + 1)).toNat).2 + 1)).toNat).1 ≥ 0) && decide ((refnum s (IntKind.wrap .i64 ((refnum s (IntKind.wrap .i64 ((refnum s (1 : Int).toNat).2 + 1)).toNat).2 + 1)).toNat).2 < (s.length : Int))) = true → (0 : Int) ≤ (refnum s (IntKind.wrap .i64 ((refnum s
 (IntKind.wrap .i64 ((refnum s (1 : Int).toNat).2 + 1)).toNat).2 + 1)).toNat).2) ∧ ((decide ((refnum s (IntKind.wrap .i64 ((refnum s (IntKind.wrap .i64 ((refnum s (1 : Int).toNat).2 + 1)).toNat).2 + 1)).toNat).1 ≥ 0) && decide ((refnum s (IntKind.wrap .i64 ((refnum s (IntKind.wrap .i64 ((refnum s (1 : Int).toNat).2 + 1)).toNat).2 + 1)).toNat).2 < (s.length : Int))) = true → (refnum s (IntKind.wrap .i64 ((refnum s (IntKind.wrap .i64 ((refnum s (1 : Int).toNat).2 + 1)).toNat).2 + 1)).toNat).2 < (s.length : Int)) ∧ brn (decide ((refnum s (IntKind.wrap .i64 ((refnum s (IntKind.wrap .i64 ((refnum s (1 : Int).toNat).2 + 1)).toNat).2 + 1)).toNat).1 ≥ 0) && decide ((refnum s (IntKind.wrap .i64 ((refnum s (IntKind.wrap .i64 ((refnum s (1 : Int).toNat).2 + 1)).toNat).2 + 1)).toNat).2 < (s.length : Int)) && (↑(UInt8.toNat (List.getD s (refnum s (IntKind.wrap .i64 ((refnum s (IntKind.wrap .i64 ((refnum s (1 : Int).toNat).2 + 1)).toNat).2 + 1)).toNat).2.toNat (0 : UInt8))) : Int) == 47) ((0 : Int) ≤ IntKind.wrap .i64 ((refnum s (IntKind.wrap .i64 ((refnum s (IntKind.wrap .i64 ((refnum s (1 : Int).toNat).2 + 1)).toNat).2 + 1)).toNat).2 + 1) ∧ IntKind.wrap .i64 ((refnum s (IntKind.wrap .i64
 ((refnum s (IntKind.wrap .i64 ((refnum s (1 : Int).toNat).2 + 1)).toNat).2 + 1)).toNat).2 + 1) ≤ (s.length : Int) ∧ (↑(List.take (s.length - (IntKind.wrap .i64 ((refnum s (IntKind.wrap .i64 ((refnum s (IntKind.wrap .i64 ((refnum s (1 : Int).toNat).2 + 1)).toNat).2 + 1)).toNat).2 + 1)).toNat) (List.drop (IntKind.wrap .i64 ((refnum s (IntKind.wrap .i64 ((refnum s (IntKind.wrap .i64 ((refnum s (1 : Int).toNat).2 + 1)).toNat).2 + 1)).toNat).2 + 1)).toNat s)).length : Int) ≤ B8.big ∧ brn (!(B8.parse (List.take (s.length - (IntKind.wrap .i64 ((refnum s (IntKind.wrap .i64 ((refnum s (IntKind.wrap .i64 ((refnum s (1 : Int).toNat).2 + 1)).toNat).2 + 1)).toNat).2 + 1)).toNat) (List.drop (IntKind.wrap .i64 ((refnum s (IntKind.wrap .i64 ((refnum s (IntKind.wrap .i64 ((refnum s (1 : Int).toNat).2 + 1)).toNat).2 + 1)).toNat).2 + 1)).toNat s))).2.2 || !validDay (3 : Int) (0 : Int) (refnum s (1 : Int).toNat).1 (refnum s (IntKind.wrap .i64 ((refnum s (1 : Int).toNat).2 + 1)).toNat).1 (refnum s (IntKind.wrap .i64 ((refnum s (IntKind.wrap .i64 ((refnum s (1 : Int).toNat).2 + 1)).toNat).2 + 1)).toNat).1 (B8.parse (List.take (s.length - (IntKind.wrap .i64 ((refnum s (IntKind.wrap .i64 ((refnum s
 (IntKind.wrap .i64 ((refnum s (1 : Int).toNat).2 + 1)).toNat).2 + 1)).toNat).2 + 1)).toNat) (List.drop (IntKind.wrap .i64 ((refnum s (IntKind.wrap .i64 ((refnum s (IntKind.wrap .i64 ((refnum s (1 : Int).toNat).2 + 1)).toNat).2 + 1)).toNat).2 + 1)).toNat s))).1) (K [.agg [.imm (.int .i64 0), .imm (.int .i64 0), .imm (.int .i64 0), .imm (.int .i64 0), .imm (.int .i64 0), .imm (.int .i64 0)], .imm (.int .i64 0), .imm (.bool false)]) (K [.agg [.imm (.int .i64 3), .imm (.int .i64 0), .imm (.int .i64 (refnum s (1 : Int).toNat).1), .imm (.int .i64 (refnum s (IntKind.wrap .i64 ((refnum s (1 : Int).toNat).2 + 1)).toNat).1), .imm (.int .i64 (refnum s (IntKind.wrap .i64 ((refnum s (IntKind.wrap .i64 ((refnum s (1 : Int).toNat).2 + 1)).toNat).2 + 1)).toNat).1), .imm (.int .i64 (B8.parse (List.take (s.length - (IntKind.wrap .i64 ((refnum s (IntKind.wrap .i64 ((refnum s (IntKind.wrap .i64 ((refnum s (1 : Int).toNat).2 + 1)).toNat).2 + 1)).toNat).2 + 1)).toNat) (List.drop (IntKind.wrap .i64 ((refnum s (IntKind.wrap .i64 ((refnum s (IntKind.wrap .i64 ((refnum s (1 : Int).toNat).2 + 1)).toNat).2 + 1)).toNat).2 + 1)).toNat s))).1)], .imm (.int .i64 (IntKind.wrap .i64 (IntKind.wrap .i64 ((refnum s
 (IntKind.wrap .i64 ((refnum s (IntKind.wrap .i64 ((refnum s (1 : Int).toNat).2 + 1)).toNat).2 + 1)).toNat).2 + 1) + (B8.parse (List.take (s.length - (IntKind.wrap .i64 ((refnum s (IntKind.wrap .i64 ((refnum s (IntKind.wrap .i64 ((refnum s (1 : Int).toNat).2 + 1)).toNat).2 + 1)).toNat).2 + 1)).toNat) (List.drop (IntKind.wrap .i64 ((refnum s (IntKind.wrap .i64 ((refnum s (IntKind.wrap .i64 ((refnum s (1 : Int).toNat).2 + 1)).toNat).2 + 1)).toNat).2 + 1)).toNat s))).2.1))), .imm (.bool true)])) (brn (!decide ((refnum s (IntKind.wrap .i64 ((refnum s (IntKind.wrap .i64 ((refnum s (1 : Int).toNat).2 + 1)).toNat).2 + 1)).toNat).1 ≥ 0) || !validDay (3 : Int) (0 : Int) (refnum s (1 : Int).toNat).1 (refnum s (IntKind.wrap .i64 ((refnum s (1 : Int).toNat).2 + 1)).toNat).1 (refnum s (IntKind.wrap .i64 ((refnum s (IntKind.wrap .i64 ((refnum s (1 : Int).toNat).2 + 1)).toNat).2 + 1)).toNat).1 (7200 : Int)) (K [.agg [.imm (.int .i64 0), .imm (.int .i64 0), .imm (.int .i64 0), .imm (.int .i64 0), .imm (.int .i64 0), .imm (.int .i64 0)], .imm (.int .i64 0), .imm (.bool false)]) (K [.agg [.imm (.int .i64 3), .imm (.int .i64 0), .imm (.int .i64 (refnum s (1 : Int).toNat).1), .imm (.int .i64 (refnum s
 (IntKind.wrap .i64 ((refnum s (1 : Int).toNat).2 + 1)).toNat).1), .imm (.int .i64 (refnum s (IntKind.wrap .i64 ((refnum s (IntKind.wrap .i64 ((refnum s (1 : Int).toNat).2 + 1)).toNat).2 + 1)).toNat).1), .imm (.int .i64 7200)], .imm (.int .i64 (refnum s (IntKind.wrap .i64 ((refnum s (IntKind.wrap .i64 ((refnum s (1 : Int).toNat).2 + 1)).toNat).2 + 1)).toNat).2), .imm (.bool true)]))))) ((0 : Int) ≤ 0 ∧ (0 : Int) ≤ (s.length : Int) ∧ (s.length : Int) ≤ 4611686018427387904 ∧ ((decide ((refnum s (0 : Int).toNat).1 ≥ 0) && decide ((refnum s (0 : Int).toNat).2 < (s.length : Int))) = true → (0 : Int) ≤ (refnum s (0 : Int).toNat).2) ∧ ((decide ((refnum s (0 : Int).toNat).1 ≥ 0) && decide ((refnum s (0 : Int).toNat).2 < (s.length : Int))) = true → (refnum s (0 : Int).toNat).2 < (s.length : Int)) ∧ brn (decide ((refnum s (0 : Int).toNat).1 ≥ 0) && decide ((refnum s (0 : Int).toNat).2 < (s.length : Int)) && (↑(UInt8.toNat (List.getD s (refnum s (0 : Int).toNat).2.toNat (0 : UInt8))) : Int) == 47) ((0 : Int) ≤ IntKind.wrap .i64 ((refnum s (0 : Int).toNat).2 + 1) ∧ IntKind.wrap .i64 ((refnum s (0 : Int).toNat).2 + 1) ≤ (s.length : Int) ∧ (↑(List.take (s.length - (IntKind.wrap .i64 ((refnum s (0
 : Int).toNat).2 + 1)).toNat) (List.drop (IntKind.wrap .i64 ((refnum s (0 : Int).toNat).2 + 1)).toNat s)).length : Int) ≤ B8.big ∧ brn (!(B8.parse (List.take (s.length - (IntKind.wrap .i64 ((refnum s (0 : Int).toNat).2 + 1)).toNat) (List.drop (IntKind.wrap .i64 ((refnum s (0 : Int).toNat).2 + 1)).toNat s))).2.2 || !validDay (2 : Int) (refnum s (0 : Int).toNat).1 (0 : Int) (0 : Int) (0 : Int) (B8.parse (List.take (s.length - (IntKind.wrap .i64 ((refnum s (0 : Int).toNat).2 + 1)).toNat) (List.drop (IntKind.wrap .i64 ((refnum s (0 : Int).toNat).2 + 1)).toNat s))).1) (K [.agg [.imm (.int .i64 0), .imm (.int .i64 0), .imm (.int .i64 0), .imm (.int .i64 0), .imm (.int .i64 0), .imm (.int .i64 0)], .imm (.int .i64 0), .imm (.bool false)]) (K [.agg [.imm (.int .i64 2), .imm (.int .i64 (refnum s (0 : Int).toNat).1), .imm (.int .i64 0), .imm (.int .i64 0), .imm (.int .i64 0), .imm (.int .i64 (B8.parse (List.take (s.length - (IntKind.wrap .i64 ((refnum s (0 : Int).toNat).2 + 1)).toNat) (List.drop (IntKind.wrap .i64 ((refnum s (0 : Int).toNat).2 + 1)).toNat s))).1)], .imm (.int .i64 (IntKind.wrap .i64 (IntKind.wrap .i64 ((refnum s (0 : Int).toNat).2 + 1) + (B8.parse (List.take (s.length -
 (IntKind.wrap .i64 ((refnum s (0 : Int).toNat).2 + 1)).toNat) (List.drop (IntKind.wrap .i64 ((refnum s (0 : Int).toNat).2 + 1)).toNat s))).2.1))), .imm (.bool true)])) (brn (!decide ((refnum s (0 : Int).toNat).1 ≥ 0) || !validDay (2 : Int) (refnum s (0 : Int).toNat).1 (0 : Int) (0 : Int) (0 : Int) (7200 : Int)) (K [.agg [.imm (.int .i64 0), .imm (.int .i64 0), .imm (.int .i64 0), .imm (.int .i64 0), .imm (.int .i64 0), .imm (.int .i64 0)], .imm (.int .i64 0), .imm (.bool false)]) (K [.agg [.imm (.int .i64 2), .imm (.int .i64 (refnum s (0 : Int).toNat).1), .imm (.int .i64 0), .imm (.int .i64 0), .imm (.int .i64 0), .imm (.int .i64 7200)], .imm (.int .i64 (refnum s (0 : Int).toNat).2), .imm (.bool true)]))))) := by kernel_rfl
theorem f16_in (a : List UInt8) (o : Int) (h : Bool) (b : List UInt8) (p : Int) (k : Int) (d : Int) (m : Int) (w : Int) (e : Int) (t : Int) (k' : Int) (d' : Int) (m' : Int) (w' : Int) (e' : Int) (t' : Int) (K : List AV → Prop) : evSpec Q1 Tryd.f16 [ruleAV a o h b p k d m w e t k' d' m' w' e' t'] K = (((a.length ≤ 9223372036854775800 ∧ (-604799 : Int) ≤ IntKind.wrap .i64 ((0 : Int) - o) ∧ IntKind.wrap .i64 ((0 : Int) - o) ≤ 604799 ∧ (B7.fmt a).length + (B8.fmt (IntKind.wrap .i64 ((0 : Int) - o))).length ≤ 9223372036854775807 ∧ brn (!h) (K [.imm (.str (B7.fmt a ++ B8.fmt (IntKind.wrap .i64 ((0 : Int) - o))))]) (b.length ≤ 9223372036854775800 ∧ (B7.fmt a ++ B8.fmt (IntKind.wrap .i64 ((0 : Int) - o))).length + (B7.fmt b).length ≤ 9223372036854775807 ∧ brn (IntKind.wrap .i64 (p - o) != 3600) ((-604799 : Int) ≤ IntKind.wrap .i64 ((0 : Int) - p) ∧ IntKind.wrap .i64 ((0 : Int) - p) ≤ 604799 ∧ (B7.fmt a ++ B8.fmt (IntKind.wrap .i64 ((0 : Int) - o)) ++ B7.fmt b).length + (B8.fmt (IntKind.wrap .i64 ((0 : Int) - p))).length ≤ 9223372036854775807 ∧ (B7.fmt a ++ B8.fmt (IntKind.wrap .i64 ((0 : Int) - o)) ++ B7.fmt b ++ B8.fmt (IntKind.wrap .i64 ((0 : Int) - p))).length + List.length [(44 :
 UInt8)] ≤ 9223372036854775807 ∧ (validDay k d m w e t = true ∧ (B7.fmt a ++ B8.fmt (IntKind.wrap .i64 ((0 : Int) - o)) ++ B7.fmt b ++ B8.fmt (IntKind.wrap .i64 ((0 : Int) - p)) ++ [(44 : UInt8)]).length + (dayS k d m w e t).length ≤ 9223372036854775807 ∧ (B7.fmt a ++ B8.fmt (IntKind.wrap .i64 ((0 : Int) - o)) ++ B7.fmt b ++ B8.fmt (IntKind.wrap .i64 ((0 : Int) - p)) ++ [(44 : UInt8)] ++ dayS k d m w e t).length + List.length [(44 : UInt8)] ≤ 9223372036854775807 ∧ validDay k' d' m' w' e' t' = true ∧ (B7.fmt a ++ B8.fmt (IntKind.wrap .i64 ((0 : Int) - o)) ++ B7.fmt b ++ B8.fmt (IntKind.wrap .i64 ((0 : Int) - p)) ++ [(44 : UInt8)] ++ dayS k d m w e t ++ [(44 : UInt8)]).length + (dayS k' d' m' w' e' t').length ≤ 9223372036854775807 ∧ K [.imm (.str (B7.fmt a ++ B8.fmt (IntKind.wrap .i64 ((0 : Int) - o)) ++ B7.fmt b ++ B8.fmt (IntKind.wrap .i64 ((0 : Int) - p)) ++ [(44 : UInt8)] ++ dayS k d m w e t ++ [(44 : UInt8)] ++ dayS k' d' m' w' e' t'))]) ∧ validDay k d m w e t = true ∧ (B7.fmt a ++ B8.fmt (IntKind.wrap .i64 ((0 : Int) - o)) ++ B7.fmt b ++ B8.fmt (IntKind.wrap .i64 ((0 : Int) - p)) ++ [(44 : UInt8)]).length + (dayS k d m w e t).length ≤ 9223372036854775807 ∧ (B7.fmt a ++ B8.fmt
 (IntKind.wrap .i64 ((0 : Int) - o)) ++ B7.fmt b ++ B8.fmt (IntKind.wrap .i64 ((0 : Int) - p)) ++ [(44 : UInt8)] ++ dayS k d m w e t).length + List.length [(44 : UInt8)] ≤ 9223372036854775807 ∧ validDay k' d' m' w' e' t' = true ∧ (B7.fmt a ++ B8.fmt (IntKind.wrap .i64 ((0 : Int) - o)) ++ B7.fmt b ++ B8.fmt (IntKind.wrap .i64 ((0 : Int) - p)) ++ [(44 : UInt8)] ++ dayS k d m w e t ++ [(44 : UInt8)]).length + (dayS k' d' m' w' e' t').length ≤ 9223372036854775807 ∧ K [.imm (.str (B7.fmt a ++ B8.fmt (IntKind.wrap .i64 ((0 : Int) - o)) ++ B7.fmt b ++ B8.fmt (IntKind.wrap .i64 ((0 : Int) - p)) ++ [(44 : UInt8)] ++ dayS k d m w e t ++ [(44 : UInt8)] ++ dayS k' d' m' w' e' t'))]) ((B7.fmt a ++ B8.fmt (IntKind.wrap .i64 ((0 : Int) - o)) ++ B7.fmt b).length + List.length [(44 : UInt8)] ≤ 9223372036854775807 ∧ (validDay k d m w e t = true ∧ (B7.fmt a ++ B8.fmt (IntKind.wrap .i64 ((0 : Int) - o)) ++ B7.fmt b ++ [(44 : UInt8)]).length + (dayS k d m w e t).length ≤ 9223372036854775807 ∧ (B7.fmt a ++ B8.fmt (IntKind.wrap .i64 ((0 : Int) - o)) ++ B7.fmt b ++ [(44 : UInt8)] ++ dayS k d m w e t).length + List.length [(44 : UInt8)] ≤ 9223372036854775807 ∧ validDay k' d' m' w' e' t' = true ∧ (B7.fmt a ++
 B8.fmt (IntKind.wrap .i64 ((0 : Int) - o)) ++ B7.fmt b ++ [(44 : UInt8)] ++ dayS k d m w e t ++ [(44 : UInt8)]).length + (dayS k' d' m' w' e' t').length ≤ 9223372036854775807 ∧ K [.imm (.str (B7.fmt a ++ B8.fmt (IntKind.wrap .i64 ((0 : Int) - o)) ++ B7.fmt b ++ [(44 : UInt8)] ++ dayS k d m w e t ++ [(44 : UInt8)] ++ dayS k' d' m' w' e' t'))]) ∧ validDay k d m w e t = true ∧ (B7.fmt a ++ B8.fmt (IntKind.wrap .i64 ((0 : Int) - o)) ++ B7.fmt b ++ [(44 : UInt8)]).length + (dayS k d m w e t).length ≤ 9223372036854775807 ∧ (B7.fmt a ++ B8.fmt (IntKind.wrap .i64 ((0 : Int) - o)) ++ B7.fmt b ++ [(44 : UInt8)] ++ dayS k d m w e t).length + List.length [(44 : UInt8)] ≤ 9223372036854775807 ∧ validDay k' d' m' w' e' t' = true ∧ (B7.fmt a ++ B8.fmt (IntKind.wrap .i64 ((0 : Int) - o)) ++ B7.fmt b ++ [(44 : UInt8)] ++ dayS k d m w e t ++ [(44 : UInt8)]).length + (dayS k' d' m' w' e' t').length ≤ 9223372036854775807 ∧ K [.imm (.str (B7.fmt a ++ B8.fmt (IntKind.wrap .i64 ((0 : Int) - o)) ++ B7.fmt b ++ [(44 : UInt8)] ++ dayS k d m w e t ++ [(44 : UInt8)] ++ dayS k' d' m' w' e' t'))]))) ∧ a.length ≤ 9223372036854775800 ∧ (-604799 : Int) ≤ IntKind.wrap .i64 ((0 : Int) - o) ∧ IntKind.wrap .i64 ((0 :
 Int) - o) ≤ 604799 ∧ (B7.fmt a).length + (B8.fmt (IntKind.wrap .i64 ((0 : Int) - o))).length ≤ 9223372036854775807 ∧ brn (!h) (K [.imm (.str (B7.fmt a ++ B8.fmt (IntKind.wrap .i64 ((0 : Int) - o))))]) (b.length ≤ 9223372036854775800 ∧ (B7.fmt a ++ B8.fmt (IntKind.wrap .i64 ((0 : Int) - o))).length + (B7.fmt b).length ≤ 9223372036854775807 ∧ brn (IntKind.wrap .i64 (p - o) != 3600) ((-604799 : Int) ≤ IntKind.wrap .i64 ((0 : Int) - p) ∧ IntKind.wrap .i64 ((0 : Int) - p) ≤ 604799 ∧ (B7.fmt a ++ B8.fmt (IntKind.wrap .i64 ((0 : Int) - o)) ++ B7.fmt b).length + (B8.fmt (IntKind.wrap .i64 ((0 : Int) - p))).length ≤ 9223372036854775807 ∧ (B7.fmt a ++ B8.fmt (IntKind.wrap .i64 ((0 : Int) - o)) ++ B7.fmt b ++ B8.fmt (IntKind.wrap .i64 ((0 : Int) - p))).length + List.length [(44 : UInt8)] ≤ 9223372036854775807 ∧ (validDay k d m w e t = true ∧ (B7.fmt a ++ B8.fmt (IntKind.wrap .i64 ((0 : Int) - o)) ++ B7.fmt b ++ B8.fmt (IntKind.wrap .i64 ((0 : Int) - p)) ++ [(44 : UInt8)]).length + (dayS k d m w e t).length ≤ 9223372036854775807 ∧ (B7.fmt a ++ B8.fmt (IntKind.wrap .i64 ((0 : Int) - o)) ++ B7.fmt b ++ B8.fmt (IntKind.wrap .i64 ((0 : Int) - p)) ++ [(44 : UInt8)] ++ dayS k d m w e t).length +
 List.length [(44 : UInt8)] ≤ 9223372036854775807 ∧ validDay k' d' m' w' e' t' = true ∧ (B7.fmt a ++ B8.fmt (IntKind.wrap .i64 ((0 : Int) - o)) ++ B7.fmt b ++ B8.fmt (IntKind.wrap .i64 ((0 : Int) - p)) ++ [(44 : UInt8)] ++ dayS k d m w e t ++ [(44 : UInt8)]).length + (dayS k' d' m' w' e' t').length ≤ 9223372036854775807 ∧ K [.imm (.str (B7.fmt a ++ B8.fmt (IntKind.wrap .i64 ((0 : Int) - o)) ++ B7.fmt b ++ B8.fmt (IntKind.wrap .i64 ((0 : Int) - p)) ++ [(44 : UInt8)] ++ dayS k d m w e t ++ [(44 : UInt8)] ++ dayS k' d' m' w' e' t'))]) ∧ validDay k d m w e t = true ∧ (B7.fmt a ++ B8.fmt (IntKind.wrap .i64 ((0 : Int) - o)) ++ B7.fmt b ++ B8.fmt (IntKind.wrap .i64 ((0 : Int) - p)) ++ [(44 : UInt8)]).length + (dayS k d m w e t).length ≤ 9223372036854775807 ∧ (B7.fmt a ++ B8.fmt (IntKind.wrap .i64 ((0 : Int) - o)) ++ B7.fmt b ++ B8.fmt (IntKind.wrap .i64 ((0 : Int) - p)) ++ [(44 : UInt8)] ++ dayS k d m w e t).length + List.length [(44 : UInt8)] ≤ 9223372036854775807 ∧ validDay k' d' m' w' e' t' = true ∧ (B7.fmt a ++ B8.fmt (IntKind.wrap .i64 ((0 : Int) - o)) ++ B7.fmt b ++ B8.fmt (IntKind.wrap .i64 ((0 : Int) - p)) ++ [(44 : UInt8)] ++ dayS k d m w e t ++ [(44 : UInt8)]).length + (dayS k' d'
 m' w' e' t').length ≤ 9223372036854775807 ∧ K [.imm (.str (B7.fmt a ++ B8.fmt (IntKind.wrap .i64 ((0 : Int) - o)) ++ B7.fmt b ++ B8.fmt (IntKind.wrap .i64 ((0 : Int) - p)) ++ [(44 : UInt8)] ++ dayS k d m w e t ++ [(44 : UInt8)] ++ dayS k' d' m' w' e' t'))]) ((B7.fmt a ++ B8.fmt (IntKind.wrap .i64 ((0 : Int) - o)) ++ B7.fmt b).length + List.length [(44 : UInt8)] ≤ 9223372036854775807 ∧ (validDay k d m w e t = true ∧ (B7.fmt a ++ B8.fmt (IntKind.wrap .i64 ((0 : Int) - o)) ++ B7.fmt b ++ [(44 : UInt8)]).length + (dayS k d m w e t).length ≤ 9223372036854775807 ∧ (B7.fmt a ++ B8.fmt (IntKind.wrap .i64 ((0 : Int) - o)) ++ B7.fmt b ++ [(44 : UInt8)] ++ dayS k d m w e t).length + List.length [(44 : UInt8)] ≤ 9223372036854775807 ∧ validDay k' d' m' w' e' t' = true ∧ (B7.fmt a ++ B8.fmt (IntKind.wrap .i64 ((0 : Int) - o)) ++ B7.fmt b ++ [(44 : UInt8)] ++ dayS k d m w e t ++ [(44 : UInt8)]).length + (dayS k' d' m' w' e' t').length ≤ 9223372036854775807 ∧ K [.imm (.str (B7.fmt a ++ B8.fmt (IntKind.wrap .i64 ((0 : Int) - o)) ++ B7.fmt b ++ [(44 : UInt8)] ++ dayS k d m w e t ++ [(44 : UInt8)] ++ dayS k' d' m' w' e' t'))]) ∧ validDay k d m w e t = true ∧ (B7.fmt a ++ B8.fmt (IntKind.wrap .i64 ((0
 : Int) - o)) ++ B7.fmt b ++ [(44 : UInt8)]).length + (dayS k d m w e t).length ≤ 9223372036854775807 ∧ (B7.fmt a ++ B8.fmt (IntKind.wrap .i64 ((0 : Int) - o)) ++ B7.fmt b ++ [(44 : UInt8)] ++ dayS k d m w e t).length + List.length [(44 : UInt8)] ≤ 9223372036854775807 ∧ validDay k' d' m' w' e' t' = true ∧ (B7.fmt a ++ B8.fmt (IntKind.wrap .i64 ((0 : Int) - o)) ++ B7.fmt b ++ [(44 : UInt8)] ++ dayS k d m w e t ++ [(44 : UInt8)]).length + (dayS k' d' m' w' e' t').length ≤ 9223372036854775807 ∧ K [.imm (.str (B7.fmt a ++ B8.fmt (IntKind.wrap .i64 ((0 : Int) - o)) ++ B7.fmt b ++ [(44 : UInt8)] ++ dayS k d m w e t ++ [(44 : UInt8)] ++ dayS k' d' m' w' e' t'))]))) ∧ a.length ≤ 9223372036854775800 ∧ (-604799 : Int) ≤ IntKind.wrap .i64 ((0 : Int) - o) ∧ IntKind.wrap .i64 ((0 : Int) - o) ≤ 604799 ∧ (B7.fmt a).length + (B8.fmt (IntKind.wrap .i64 ((0 : Int) - o))).length ≤ 9223372036854775807 ∧ brn (!h) (K [.imm (.str (B7.fmt a ++ B8.fmt (IntKind.wrap .i64 ((0 : Int) - o))))]) (b.length ≤ 9223372036854775800 ∧ (B7.fmt a ++ B8.fmt (IntKind.wrap .i64 ((0 : Int) - o))).length + (B7.fmt b).length ≤ 9223372036854775807 ∧ brn (IntKind.wrap .i64 (p - o) != 3600) ((-604799 : Int) ≤ IntKind.wrap .i64
 ((0 : Int) - p) ∧ IntKind.wrap .i64 ((0 : Int) - p) ≤ 604799 ∧ (B7.fmt a ++ B8.fmt (IntKind.wrap .i64 ((0 : Int) - o)) ++ B7.fmt b).length + (B8.fmt (IntKind.wrap .i64 ((0 : Int) - p))).length ≤ 9223372036854775807 ∧ (B7.fmt a ++ B8.fmt (IntKind.wrap .i64 ((0 : Int) - o)) ++ B7.fmt b ++ B8.fmt (IntKind.wrap .i64 ((0 : Int) - p))).length + List.length [(44 : UInt8)] ≤ 9223372036854775807 ∧ (validDay k d m w e t = true ∧ (B7.fmt a ++ B8.fmt (IntKind.wrap .i64 ((0 : Int) - o)) ++ B7.fmt b ++ B8.fmt (IntKind.wrap .i64 ((0 : Int) - p)) ++ [(44 : UInt8)]).length + (dayS k d m w e t).length ≤ 9223372036854775807 ∧ (B7.fmt a ++ B8.fmt (IntKind.wrap .i64 ((0 : Int) - o)) ++ B7.fmt b ++ B8.fmt (IntKind.wrap .i64 ((0 : Int) - p)) ++ [(44 : UInt8)] ++ dayS k d m w e t).length + List.length [(44 : UInt8)] ≤ 9223372036854775807 ∧ validDay k' d' m' w' e' t' = true ∧ (B7.fmt a ++ B8.fmt (IntKind.wrap .i64 ((0 : Int) - o)) ++ B7.fmt b ++ B8.fmt (IntKind.wrap .i64 ((0 : Int) - p)) ++ [(44 : UInt8)] ++ dayS k d m w e t ++ [(44 : UInt8)]).length + (dayS k' d' m' w' e' t').length ≤ 9223372036854775807 ∧ K [.imm (.str (B7.fmt a ++ B8.fmt (IntKind.wrap .i64 ((0 : Int) - o)) ++ B7.fmt b ++ B8.fmt
 (IntKind.wrap .i64 ((0 : Int) - p)) ++ [(44 : UInt8)] ++ dayS k d m w e t ++ [(44 : UInt8)] ++ dayS k' d' m' w' e' t'))]) ∧ validDay k d m w e t = true ∧ (B7.fmt a ++ B8.fmt (IntKind.wrap .i64 ((0 : Int) - o)) ++ B7.fmt b ++ B8.fmt (IntKind.wrap .i64 ((0 : Int) - p)) ++ [(44 : UInt8)]).length + (dayS k d m w e t).length ≤ 9223372036854775807 ∧ (B7.fmt a ++ B8.fmt (IntKind.wrap .i64 ((0 : Int) - o)) ++ B7.fmt b ++ B8.fmt (IntKind.wrap .i64 ((0 : Int) - p)) ++ [(44 : UInt8)] ++ dayS k d m w e t).length + List.length [(44 : UInt8)] ≤ 9223372036854775807 ∧ validDay k' d' m' w' e' t' = true ∧ (B7.fmt a ++ B8.fmt (IntKind.wrap .i64 ((0 : Int) - o)) ++ B7.fmt b ++ B8.fmt (IntKind.wrap .i64 ((0 : Int) - p)) ++ [(44 : UInt8)] ++ dayS k d m w e t ++ [(44 : UInt8)]).length + (dayS k' d' m' w' e' t').length ≤ 9223372036854775807 ∧ K [.imm (.str (B7.fmt a ++ B8.fmt (IntKind.wrap .i64 ((0 : Int) - o)) ++ B7.fmt b ++ B8.fmt (IntKind.wrap .i64 ((0 : Int) - p)) ++ [(44 : UInt8)] ++ dayS k d m w e t ++ [(44 : UInt8)] ++ dayS k' d' m' w' e' t'))]) ((B7.fmt a ++ B8.fmt (IntKind.wrap .i64 ((0 : Int) - o)) ++ B7.fmt b).length + List.length [(44 : UInt8)] ≤ 9223372036854775807 ∧ (validDay k d m w e t =
 true ∧ (B7.fmt a ++ B8.fmt (IntKind.wrap .i64 ((0 : Int) - o)) ++ B7.fmt b ++ [(44 : UInt8)]).length + (dayS k d m w e t).length ≤ 9223372036854775807 ∧ (B7.fmt a ++ B8.fmt (IntKind.wrap .i64 ((0 : Int) - o)) ++ B7.fmt b ++ [(44 : UInt8)] ++ dayS k d m w e t).length + List.length [(44 : UInt8)] ≤ 9223372036854775807 ∧ validDay k' d' m' w' e' t' = true ∧ (B7.fmt a ++ B8.fmt (IntKind.wrap .i64 ((0 : Int) - o)) ++ B7.fmt b ++ [(44 : UInt8)] ++ dayS k d m w e t ++ [(44 : UInt8)]).length + (dayS k' d' m' w' e' t').length ≤ 9223372036854775807 ∧ K [.imm (.str (B7.fmt a ++ B8.fmt (IntKind.wrap .i64 ((0 : Int) - o)) ++ B7.fmt b ++ [(44 : UInt8)] ++ dayS k d m w e t ++ [(44 : UInt8)] ++ dayS k' d' m' w' e' t'))]) ∧ validDay k d m w e t = true ∧ (B7.fmt a ++ B8.fmt (IntKind.wrap .i64 ((0 : Int) - o)) ++ B7.fmt b ++ [(44 : UInt8)]).length + (dayS k d m w e t).length ≤ 9223372036854775807 ∧ (B7.fmt a ++ B8.fmt (IntKind.wrap .i64 ((0 : Int) - o)) ++ B7.fmt b ++ [(44 : UInt8)] ++ dayS k d m w e t).length + List.length [(44 : UInt8)] ≤ 9223372036854775807 ∧ validDay k' d' m' w' e' t' = true ∧ (B7.fmt a ++ B8.fmt (IntKind.wrap .i64 ((0 : Int) - o)) ++ B7.fmt b ++ [(44 : UInt8)] ++ dayS k d m w e t
 ++ [(44 : UInt8)]).length + (dayS k' d' m' w' e' t').length ≤ 9223372036854775807 ∧ K [.imm (.str (B7.fmt a ++ B8.fmt (IntKind.wrap .i64 ((0 : Int) - o)) ++ B7.fmt b ++ [(44 : UInt8)] ++ dayS k d m w e t ++ [(44 : UInt8)] ++ dayS k' d' m' w' e' t'))]))) := by kernel_rfl
theorem f10_in (s : List UInt8) (K : List AV → Prop) : evSpec Q2 Tryd.f10 [st s] K =
  ((↑(List.length s) : Int) ≤ (1000000000000000000 : Int) ∧
  brn (whyP s != (0 : Int)) (K [AV.imm (IV.str []), AV.imm (IV.bool false)])
    (validRule (Ru.a (ruP s)) (Ru.o (ruP s)) (Ru.h (ruP s)) (Ru.b (ruP s)) (Ru.p (ruP s)) (Dv.k (Ru.S (ruP s)))
          (Dv.d (Ru.S (ruP s))) (Dv.m (Ru.S (ruP s))) (Dv.w (Ru.S (ruP s))) (Dv.e (Ru.S (ruP s))) (Dv.t (Ru.S (ruP s)))
          (Dv.k (Ru.E (ruP s))) (Dv.d (Ru.E (ruP s))) (Dv.m (Ru.E (ruP s))) (Dv.w (Ru.E (ruP s))) (Dv.e (Ru.E (ruP s)))
          (Dv.t (Ru.E (ruP s))) =
        true ∧
      K
        [AV.imm
            (IV.str
              (ruleS (Ru.a (ruP s)) (Ru.o (ruP s)) (Ru.h (ruP s)) (Ru.b (ruP s)) (Ru.p (ruP s)) (Dv.k (Ru.S (ruP s)))
                (Dv.d (Ru.S (ruP s))) (Dv.m (Ru.S (ruP s))) (Dv.w (Ru.S (ruP s))) (Dv.e (Ru.S (ruP s)))
                (Dv.t (Ru.S (ruP s))) (Dv.k (Ru.E (ruP s))) (Dv.d (Ru.E (ruP s))) (Dv.m (Ru.E (ruP s)))
                (Dv.w (Ru.E (ruP s))) (Dv.e (Ru.E (ruP s))) (Dv.t (Ru.E (ruP s))))),
          AV.imm (IV.bool true)])) := by kernel_rfl
theorem f17_in (a : List UInt8) (o : Int) (h : Bool) (b : List UInt8) (p : Int) (k : Int) (d : Int) (m : Int) (w : Int) (e : Int) (t : Int) (k' : Int) (d' : Int) (m' : Int) (w' : Int) (e' : Int) (t' : Int) (K : List AV → Prop) : evSpec U0 Tryd.f17 [ruleAV a o h b p k d m w e t k' d' m' w' e' t'] K = ((0 : Int) ≤ 0 ∧ (0 : Int) < (↑(List.length [[IV.int .i64 k, IV.int .i64 d, IV.int .i64 m, IV.int .i64 w, IV.int .i64 e, IV.int .i64 t], [IV.int .i64 k', IV.int .i64 d', IV.int .i64 m', IV.int .i64 w', IV.int .i64 e', IV.int .i64 t']]) : Int) ∧ kcells (List.getD [[IV.int .i64 k, IV.int .i64 d, IV.int .i64 m, IV.int .i64 w, IV.int .i64 e, IV.int .i64 t], [IV.int .i64 k', IV.int .i64 d', IV.int .i64 m', IV.int .i64 w', IV.int .i64 e', IV.int .i64 t']] (0 : Int).toNat []) (0 : Nat) (lapp [CK.int IntKind.i64] (lapp [CK.int IntKind.i64] (lapp [CK.int IntKind.i64] (lapp [CK.int IntKind.i64] (lapp [CK.int IntKind.i64] (lapp [CK.int IntKind.i64] [])))))) = List.getD [[IV.int .i64 k, IV.int .i64 d, IV.int .i64 m, IV.int .i64 w, IV.int .i64 e, IV.int .i64 t], [IV.int .i64 k', IV.int .i64 d', IV.int .i64 m', IV.int .i64 w', IV.int .i64 e', IV.int .i64 t']] (0 : Int).toNat [] ∧ brn (decide (ivInt
 (ivNth (List.getD [[IV.int .i64 k, IV.int .i64 d, IV.int .i64 m, IV.int .i64 w, IV.int .i64 e, IV.int .i64 t], [IV.int .i64 k', IV.int .i64 d', IV.int .i64 m', IV.int .i64 w', IV.int .i64 e', IV.int .i64 t']] (0 : Int).toNat []) ((0 : Nat) + 1 + 1 + 1 + 1 + 1)) < 0) || decide (ivInt (ivNth (List.getD [[IV.int .i64 k, IV.int .i64 d, IV.int .i64 m, IV.int .i64 w, IV.int .i64 e, IV.int .i64 t], [IV.int .i64 k', IV.int .i64 d', IV.int .i64 m', IV.int .i64 w', IV.int .i64 e', IV.int .i64 t']] (0 : Int).toNat []) ((0 : Nat) + 1 + 1 + 1 + 1 + 1)) > 86400)) (K [.imm (.bool h)]) ((0 : Int) ≤ IntKind.wrap .i64 ((0 : Int) + 1) ∧ IntKind.wrap .i64 ((0 : Int) + 1) < (↑(List.length [[IV.int .i64 k, IV.int .i64 d, IV.int .i64 m, IV.int .i64 w, IV.int .i64 e, IV.int .i64 t], [IV.int .i64 k', IV.int .i64 d', IV.int .i64 m', IV.int .i64 w', IV.int .i64 e', IV.int .i64 t']]) : Int) ∧ kcells (List.getD [[IV.int .i64 k, IV.int .i64 d, IV.int .i64 m, IV.int .i64 w, IV.int .i64 e, IV.int .i64 t], [IV.int .i64 k', IV.int .i64 d', IV.int .i64 m', IV.int .i64 w', IV.int .i64 e', IV.int .i64 t']] (IntKind.wrap .i64 ((0 : Int) + 1)).toNat []) (0 : Nat) (lapp [CK.int IntKind.i64] (lapp [CK.int IntKind.i64]
 (lapp [CK.int IntKind.i64] (lapp [CK.int IntKind.i64] (lapp [CK.int IntKind.i64] (lapp [CK.int IntKind.i64] [])))))) = List.getD [[IV.int .i64 k, IV.int .i64 d, IV.int .i64 m, IV.int .i64 w, IV.int .i64 e, IV.int .i64 t], [IV.int .i64 k', IV.int .i64 d', IV.int .i64 m', IV.int .i64 w', IV.int .i64 e', IV.int .i64 t']] (IntKind.wrap .i64 ((0 : Int) + 1)).toNat [] ∧ brn (decide (ivInt (ivNth (List.getD [[IV.int .i64 k, IV.int .i64 d, IV.int .i64 m, IV.int .i64 w, IV.int .i64 e, IV.int .i64 t], [IV.int .i64 k', IV.int .i64 d', IV.int .i64 m', IV.int .i64 w', IV.int .i64 e', IV.int .i64 t']] (IntKind.wrap .i64 ((0 : Int) + 1)).toNat []) ((0 : Nat) + 1 + 1 + 1 + 1 + 1)) < 0) || decide (ivInt (ivNth (List.getD [[IV.int .i64 k, IV.int .i64 d, IV.int .i64 m, IV.int .i64 w, IV.int .i64 e, IV.int .i64 t], [IV.int .i64 k', IV.int .i64 d', IV.int .i64 m', IV.int .i64 w', IV.int .i64 e', IV.int .i64 t']] (IntKind.wrap .i64 ((0 : Int) + 1)).toNat []) ((0 : Nat) + 1 + 1 + 1 + 1 + 1)) > 86400)) (K [.imm (.bool h)]) (K [.imm (.bool false)]))) := by kernel_rfl
end Z10
set_option maxRecDepth 100000
namespace Z10
open Go Go.AE Go.Proofs B9
attribute [local irreducible] loopK evCode evSpec loopB norm
theorem f66_out (s : List
  UInt8) (i : Int) (v : Int) (n : Int) (K : List AV →
  Prop) : loopK K0 (bodyOf Tryd.f66) (0 : Nat) (finK K0 Tryd.f66 K) (AX.exit (0 : Nat))
  (St.mk
    (let y :=
      let y :=
        let y := [AV.dead, AV.dead, AV.dead, AV.dead, AV.dead, AV.dead, AV.dead];
        AV.dead :: AV.dead :: AV.dead :: AV.dead :: AV.dead :: AV.dead :: y;
      let y := AV.dead :: AV.dead :: AV.dead :: AV.dead :: AV.dead :: AV.dead :: AV.dead :: y;
      AV.dead :: AV.dead :: AV.dead :: AV.dead :: AV.dead :: AV.dead :: y;
    let y :=
      let y :=
        AV.imm
            (IV.bool
              (decide (n < (↑(List.length s) : Int)) &&
                decide ((↑(UInt8.toNat (List.getD s (Int.toNat n) (0 : UInt8))) : Int) ≥ (48 : Int)))) ::
          AV.imm
              (IV.bool
                (decide (n < (↑(List.length s) : Int)) &&
                  decide ((↑(UInt8.toNat (List.getD s (Int.toNat n) (0 : UInt8))) : Int) ≥ (48 : Int)))) ::
            AV.opt [((19 : Nat), true)] (AV.imm (IV.str s)) ::
              AV.opt [((19 : Nat), true)] (AV.imm (IV.int IntKind.i64 n)) ::
                AV.opt [((19 : Nat), true)]
                    (AV.imm (IV.int IntKind.u8 (↑(UInt8.toNat (List.getD s (Int.toNat n) (0 : UInt8))) : Int))) ::
                  AV.opt [((19 : Nat), true)]
                      (AV.imm
                        (IV.bool
                          (decide ((↑(UInt8.toNat (List.getD s (Int.toNat n) (0 : UInt8))) : Int) ≤ (57 : Int))))) ::
                    AV.imm
                        (IV.bool
                          (decide (n < (↑(List.length s) : Int)) &&
                              decide ((↑(UInt8.toNat (List.getD s (Int.toNat n) (0 : UInt8))) : Int) ≥ (48 : Int)) &&
                            decide ((↑(UInt8.toNat (List.getD s (Int.toNat n) (0 : UInt8))) : Int) ≤ (57 : Int)))) ::
                      y;
      AV.imm (IV.bool (decide (n < (↑(List.length s) : Int)))) ::
        AV.imm (IV.bool (decide (n < (↑(List.length s) : Int)))) ::
          AV.opt [((13 : Nat), true)] (AV.imm (IV.str s)) ::
            AV.opt [((13 : Nat), true)] (AV.imm (IV.int IntKind.i64 n)) ::
              AV.opt [((13 : Nat), true)]
                  (AV.imm (IV.int IntKind.u8 (↑(UInt8.toNat (List.getD s (Int.toNat n) (0 : UInt8))) : Int))) ::
                AV.opt [((13 : Nat), true)]
                    (AV.imm
                      (IV.bool
                        (decide ((↑(UInt8.toNat (List.getD s (Int.toNat n) (0 : UInt8))) : Int) ≥ (48 : Int))))) ::
                  y;
    let y :=
      AV.imm (IV.int IntKind.i64 v) ::
        AV.imm (IV.int IntKind.i64 n) ::
          AV.dead ::
            AV.imm (IV.int IntKind.i64 n) ::
              AV.imm (IV.str s) :: AV.imm (IV.int IntKind.i64 (↑(List.length s) : Int)) :: y;
    AV.imm (IV.str s) ::
      AV.imm (IV.int IntKind.i64 i) ::
        AV.dead :: AV.dead :: AV.imm (IV.int IntKind.i64 (0 : Int)) :: AV.imm (IV.int IntKind.i64 (0 : Int)) :: y)
    [] (0 : Nat) []) =
  (brn (n == i || decide (n > IntKind.wrap IntKind.i64 (i + (3 : Int))))
  (K [AV.imm (IV.int IntKind.i64 (-1 : Int)), AV.imm (IV.int IntKind.i64 i)])
  (K [AV.imm (IV.int IntKind.i64 v), AV.imm (IV.int IntKind.i64 n)])) := by kernel_rfl
end Z10
set_option maxRecDepth 100000
namespace Z10
open Go Go.AE Go.Proofs B9
attribute [local irreducible] loopK evCode evSpec loopB norm
theorem mk {E : FuncId → List AV → Option (List Prop × List AV)} (hE : EOK Tryd.prog E B8.G8) {f : FuncId} {fn : Func} {args res : List AV} {pres : List Prop} (hf : Tryd.prog.funcs[f]? = some fn) (hn : (fn.name == "runtime.NumGoroutine") = false) (hb : fn.body.isNone = false)
    (h : (∀ p, p ∈ pres → p) → ∀ K : List AV → Prop, K res → evSpec (cx E) fn args K) : SpecOK Tryd.prog B8.G8 f args pres res :=
  spec_ok (C := cx E) hE noCall_ok hf hn hb (fun hp => h hp _ rfl)
theorem mku {E : FuncId → List AV → Option (List Prop × List AV)} (hE : EOK Tryd.prog E B8.G8) {f : FuncId} {fn : Func} {args res : List AV} {pres : List Prop} (hf : Tryd.prog.funcs[f]? = some fn) (hn : (fn.name == "runtime.NumGoroutine") = false) (hb : fn.body.isNone = false)
    (h : (∀ p, p ∈ pres → p) → ∀ K : List AV → Prop, K res → evSpec (cxu E) fn args K) : SpecOK Tryd.prog B8.G8 f args pres res :=
  spec_ok (C := cxu E) hE noCall_ok hf hn hb (fun hp => h hp _ rfl)
theorem ok0 : EOK Tryd.prog noE B8.G8 := noE_ok
theorem wrap64 {n : Int} (h1 : -9223372036854775808 ≤ n) (h2 : n ≤ 9223372036854775807) : IntKind.wrap .i64 n = n := B8.wrap64 h1 h2
theorem dd_step {n : Nat} (h : 10 ≤ n) (h2 : n < 1000) : B8.dd n = B8.dd (n / 10) ++ [B8.dg (n % 10)] := by
  unfold B8.dd
  rw [if_neg (by omega)]
  by_cases h3 : n < 100
  · rw [if_pos h3, if_pos (by omega)]; rfl
  · rw [if_neg h3, if_neg (by omega), if_pos (by omega)]
    rw [show n / 10 / 10 = n / 100 from by omega]
    rfl
theorem dg_u8 {n : Nat} (h : n < 10) : List.map u8 [IntKind.wrap .u8 (IntKind.wrap .i64 (48 + (n : Int)))] = [B8.dg n] := by
  rw [wrap64 (by omega) (by omega), B8.wrap8 (by omega) (by omega)]
  have : (48 + (n : Int)) = ((48 + n : Nat) : Int) := by omega
  rw [this, List.map_cons, B8.u8_dg h]
  rfl
theorem dd_len (n : Nat) : (B8.dd n).length ≤ 3 := (B8.dd_len n).2
theorem ok24_0 : ∀ args pres res, sDec1 args = some (pres, res) → SpecOK Tryd.prog B8.G8 24 args pres res := by
  intro args pres res h
  unfold sDec1 at h
  split at h
  case h_2 => cases h
  cases h
  rename_i n
  refine mk ok0 Tryd.func24 (by kernel_rfl) (by kernel_rfl) (fun hp K hK => ?_)
  have h0 := hp _ (List.mem_cons_self ..)
  have h1 := hp _ (List.mem_cons_of_mem _ (List.mem_cons_self ..))
  obtain ⟨i, rfl⟩ := B9.nat_of h0
  rw [show cx noE = K0 from rfl]
  refine Eq.mpr (f24_0 _ K) (brn_intro (fun h => ?_) (fun h => ?_))
  · rw [dg_u8 (by omega)]
    rw [Int.toNat_natCast, B8.dd_small (by omega)] at hK
    exact hK
  · simp only [decide_eq_false_iff_not] at h; omega
theorem dec_end {i : Nat} (h : 10 ≤ i) (h2 : i < 1000) (K : List AV → Prop) (hK : K [st (B8.dd i)]) (M : Int) (hM : ((i / 10 : Nat) : Int) < M) :
    (0 : Int) ≤ IntKind.wrap IntKind.i64 (Int.tdiv (i : Int) (10 : Int)) ∧
          IntKind.wrap IntKind.i64 (Int.tdiv (i : Int) (10 : Int)) < M ∧
            List.length (B8.dd (Int.toNat (IntKind.wrap IntKind.i64 (Int.tdiv (i : Int) (10 : Int))))) +
                  List.length (List.map u8 [IntKind.wrap IntKind.u8 (IntKind.wrap IntKind.i64 ((48 : Int) + Int.tmod (i : Int) (10 : Int)))]) ≤ (9223372036854775807 : Nat) ∧
              K [AV.imm (IV.str (B8.dd (Int.toNat (IntKind.wrap IntKind.i64 (Int.tdiv (i : Int) (10 : Int)))) ++ List.map u8 [IntKind.wrap IntKind.u8 (IntKind.wrap IntKind.i64 ((48 : Int) + Int.tmod (i : Int) (10 : Int)))]))] := by
  rw [B8.tdiv10, B8.tmod10, dg_u8 (by omega), wrap64 (by omega) (by omega), Int.toNat_natCast]
  rw [dd_step h h2] at hK
  have := dd_len (i / 10)
  exact ⟨by omega, hM, by simp; omega, hK⟩
theorem okD1 : EOK Tryd.prog D1 B8.G8 := addE_ok ok0 ok24_0
theorem ok24_1 : ∀ args pres res, sDec2 args = some (pres, res) → SpecOK Tryd.prog B8.G8 24 args pres res := by
  intro args pres res h
  unfold sDec2 at h
  split at h
  case h_2 => cases h
  cases h
  rename_i n
  refine mk okD1 Tryd.func24 (by kernel_rfl) (by kernel_rfl) (fun hp K hK => ?_)
  have h0 := hp _ (List.mem_cons_self ..)
  have h1 := hp _ (List.mem_cons_of_mem _ (List.mem_cons_self ..))
  obtain ⟨i, rfl⟩ := B9.nat_of h0
  rw [show cx D1 = K1 from rfl]
  rw [Int.toNat_natCast] at hK
  refine Eq.mpr (f24_1 _ K) (brn_intro (fun h => ?_) (fun h => ?_))
  · simp only [decide_eq_true_eq] at h
    rw [dg_u8 (by omega)]
    rw [B8.dd_small (by omega)] at hK
    exact hK
  · simp only [decide_eq_false_iff_not] at h
    have e := dec_end (i := i) (by omega) (by omega) K hK 10 (by omega)
    exact ⟨by decide, by decide, e, e, e⟩
theorem okD2 : EOK Tryd.prog D2 B8.G8 := addE_ok ok0 ok24_1
theorem ok24 : ∀ args pres res, sDec args = some (pres, res) → SpecOK Tryd.prog B8.G8 24 args pres res := by
  intro args pres res h
  unfold sDec at h
  split at h
  case h_2 => cases h
  cases h
  rename_i n
  refine mk okD2 Tryd.func24 (by kernel_rfl) (by kernel_rfl) (fun hp K hK => ?_)
  have h0 := hp _ (List.mem_cons_self ..)
  have h1 := hp _ (List.mem_cons_of_mem _ (List.mem_cons_self ..))
  obtain ⟨i, rfl⟩ := B9.nat_of h0
  rw [show cx D2 = K2 from rfl]
  rw [Int.toNat_natCast] at hK
  refine Eq.mpr (f24_2 _ K) (brn_intro (fun h => ?_) (fun h => ?_))
  · simp only [decide_eq_true_eq] at h
    rw [dg_u8 (by omega)]
    rw [B8.dd_small (by omega)] at hK
    exact hK
  · simp only [decide_eq_false_iff_not] at h
    have e := dec_end (i := i) (by omega) (by omega) K hK 100 (by omega)
    exact ⟨by decide, by decide, e, e, e⟩
theorem ok27 : ∀ args pres res, sSide args = some (pres, res) → SpecOK Tryd.prog B8.G8 27 args pres res := by
  intro args pres res h
  unfold sSide at h
  split at h
  case h_2 => cases h
  cases h
  rename_i n
  exact mk ok0 Tryd.func27 (by kernel_rfl) (by kernel_rfl) (fun _ K hK => Eq.mpr (f27_in n K) hK)
theorem ok43 : ∀ args pres res, sFail args = some (pres, res) → SpecOK Tryd.prog B8.G8 43 args pres res := by
  intro args pres res h
  unfold sFail at h
  split at h
  case h_2 => cases h
  cases h
  rename_i n
  exact mk ok0 Tryd.func43 (by kernel_rfl) (by kernel_rfl) (fun _ K hK => Eq.mpr (f43_in n K) hK)
theorem ok32 : ∀ args pres res, sLate args = some (pres, res) → SpecOK Tryd.prog B8.G8 32 args pres res := by
  intro args pres res h
  unfold sLate at h
  split at h
  case h_2 => cases h
  cases h
  exact mk ok0 Tryd.func32 (by kernel_rfl) (by kernel_rfl) (fun _ K hK => by refine Eq.mpr (f32_in ..) ?_; exact hK)
def p66 : Plan := ⟨[], [true, true, false, false, true, true, true, true], []⟩
theorem w10' {h b : Int} (h0 : 0 ≤ h) (h1 : h ≤ 9999) (h2 : 48 ≤ b) (h3 : b ≤ 57) : IntKind.wrap .i64 (IntKind.wrap .i64 (IntKind.wrap .i64 (10 * h) + IntKind.wrap .i64 b) - 48) = 10 * h + (b - 48) := by
  rw [wrap64 (n := b) (by omega) (by omega), wrap64 (n := 10 * h) (by omega) (by omega), wrap64 (n := 10 * h + b) (by omega) (by omega), wrap64 (by omega) (by omega)]; omega
theorem f66_ev (s : List UInt8) (i : Nat) (hi : i ≤ s.length) (hs : (s.length : Int) ≤ 4611686018427387904) (K : List AV → Prop) (hK : K [i64 (refnum s i).1, i64 (refnum s i).2]) : evSpec K0 Tryd.f66 [st s, i64 (i : Int)] K := by
  rw [f66_in]
  have hrl := B8.run_le (s.drop i)
  have hdl : (s.drop i).length = s.length - i := List.length_drop
  unfold LoopI
  refine loop_rule (fun j : Nat => h66 s i (B8.num ((B8.runD (s.drop i)).take (min j 4))) ((i + j : Nat) : Int)) (fun j => j ≤ (B8.runD (s.drop i)).length) (fun j => (B8.runD (s.drop i)).length - j)
    (fun j hP K' hnorm hexit => ?_) rfl 0 p66 _ (by omega) (by kernel_rfl)
  have ej : IntKind.wrap .i64 (((i + j : Nat) : Int) + 1) = ((i + (j + 1) : Nat) : Int) := by rw [wrap64 (by omega) (by omega)]; omega
  have en : IntKind.wrap .i64 (((i + j : Nat) : Int) - (i : Int)) = (j : Int) := by rw [wrap64 (by omega) (by omega)]; omega
  have hd := B8.run_digit (s.drop i) j hP
  rw [← B8.digit_drop] at hd
  rw [f66_lp]
  refine ⟨fun _ => by omega, fun h => by simpa using h, fun _ => by omega, fun h => ?_, ?_⟩
  · rw [Bool.and_eq_true] at h; simpa using h.1
  by_cases hlt : j < (B8.runD (s.drop i)).length
  · rw [if_pos hlt] at hd
    have hh : (B8.digit s (i + j)).2 = true := by rw [hd]
    refine brn_intro (fun _ => ?_) (fun h => by rw [Int.toNat_natCast] at h; rw [B9.digit_read, hh] at h; cases h)
    obtain ⟨v1, v2, v3, v4⟩ := B9.digit_val hh
    rw [en]
    refine brn_intro (fun h4 => ?_) (fun h4 => ?_)
    · have hj4 : j < 4 := by simp only [decide_eq_true_eq] at h4; omega
      have hm : min j 4 = j := by omega
      have hm1 : min (j + 1) 4 = j + 1 := by omega
      have hnl := B8.num_le (s.drop i) j hP
      have hn9 : B8.num ((B8.runD (s.drop i)).take j) < 1000 := by
        have : 10 ^ j ≤ 10 ^ 3 := Nat.pow_le_pow_right (by decide) (by omega)
        omega
      refine ⟨by omega, by omega, hnorm (j + 1) p66 _ (by omega) (by omega) ?_⟩
      have e2 : (B8.num ((B8.runD (s.drop i)).take (min (j + 1) 4)) : Int) = 10 * (B8.num ((B8.runD (s.drop i)).take (min j 4)) : Int) + (((s.getD (i + j) 0).toNat : Int) - 48) := by
        rw [hm, hm1, B8.num_succ _ _ hlt]
        have : B8.dv ((B8.runD (s.drop i)).getD j 0) = (s.getD (i + j) 0).toNat - 48 := by
          rw [← v4, hd]
        rw [this]
        omega
      have e3 := w10' (h := (B8.num ((B8.runD (s.drop i)).take (min j 4)) : Int)) (b := ((s.getD (i + j) 0).toNat : Int)) (by omega) (by rw [hm]; omega) (by omega) (by omega)
      rw [e2, ← e3, ← ej]
      show _ = _
      kernel_rfl
    · have hj4 : ¬ j < 4 := by simp only [decide_eq_false_iff_not] at h4; omega
      have hm : min (j + 1) 4 = min j 4 := by omega
      refine hnorm (j + 1) p66 _ (by omega) (by omega) ?_
      rw [hm, ← ej]
      show _ = _
      kernel_rfl
  · rw [if_neg hlt] at hd
    have hj : j = (B8.runD (s.drop i)).length := by omega
    have hh : (B8.digit s (i + j)).2 = false := by rw [hd]
    refine brn_intro (fun h => by rw [Int.toNat_natCast] at h; rw [B9.digit_read, hh] at h; cases h) (fun _ => ?_)
    refine hexit _ _ (by simp) ?_
    refine Eq.mpr (f66_out s (i : Int) (B8.num ((B8.runD (s.drop i)).take (min j 4))) ((i + j : Nat) : Int) K) ?_
    have e3 : IntKind.wrap .i64 ((i : Int) + 3) = (i : Int) + 3 := wrap64 (by omega) (by omega)
    rw [e3]
    unfold refnum number at hK
    refine brn_intro (fun h => ?_) (fun h => ?_)
    · simp only [Bool.or_eq_true, beq_iff_eq, decide_eq_true_eq] at h
      by_cases h3 : (B8.runD (s.drop i)).length ≤ 3
      · rw [if_pos h3] at hK
        have h0 : (B8.runD (s.drop i)).length = 0 := by omega
        rw [h0] at hK
        exact hK
      · rw [if_neg h3] at hK
        exact hK
    · simp only [Bool.or_eq_false_iff, beq_eq_false_iff_ne, ne_eq, decide_eq_false_iff_not] at h
      have h3 : (B8.runD (s.drop i)).length ≤ 3 := by omega
      rw [if_pos h3] at hK
      have hm : min j 4 = (B8.runD (s.drop i)).length := by omega
      rw [hm, List.take_length]
      have h0 : decide (0 < (B8.runD (s.drop i)).length) = true := by rw [decide_eq_true_eq]; omega
      rw [h0] at hK
      simp only at hK
      rw [if_pos trivial] at hK
      rw [hj]
      have e4 : (i : Int) + ((B8.runD (s.drop i)).length : Int) = ((i + (B8.runD (s.drop i)).length : Nat) : Int) := by omega
      rw [e4] at hK
      exact hK
theorem ok66 : ∀ args pres res, sNum args = some (pres, res) → SpecOK Tryd.prog B8.G8 66 args pres res := by
  intro args pres res h
  unfold sNum at h
  split at h
  case h_2 => cases h
  cases h
  rename_i s n
  refine mk ok0 Tryd.func66 (by kernel_rfl) (by kernel_rfl) (fun hp K hK => ?_)
  have h1 := hp _ (List.mem_cons_self ..)
  have h2 := hp _ (List.mem_cons_of_mem _ (List.mem_cons_self ..))
  have h3 := hp _ (List.mem_cons_of_mem _ (List.mem_cons_of_mem _ (List.mem_cons_self ..)))
  obtain ⟨i, rfl⟩ := B9.nat_of h1
  rw [Int.toNat_natCast] at hK
  exact f66_ev s i (by omega) h3 K hK
theorem okR0 : EOK Tryd.prog R0 B8.G8 := addE_ok (addE_ok (addE_ok (addE_ok (addE_ok okF6 ok24) ok27) ok43) ok32) ok66
end Z10
set_option maxRecDepth 100000
namespace Z10
open Go Go.AE Go.Proofs B9
attribute [local irreducible] loopK evCode evSpec loopB norm
theorem ok14 : ∀ args pres res, sValidRule args = some (pres, res) → SpecOK Tryd.prog B8.G8 14 args pres res := by
  intro args pres res h
  unfold sValidRule at h
  split at h
  case h_2 => cases h
  cases h
  rename_i a o h b p k d m w e t k' d' m' w' e' t'
  refine mk okR0 Tryd.func14 (by kernel_rfl) (by kernel_rfl) (fun hp K hK => ?_)
  have ha := hp _ (List.mem_cons_self ..)
  have hb := hp _ (List.mem_cons_of_mem _ (List.mem_cons_self ..))
  rw [show cx R0 = Q0 from rfl]
  refine Eq.mpr (f14_in a o h b p k d m w e t k' d' m' w' e' t' K) ?_
  have fin : ∀ x, x = validRule a o h b p k d m w e t k' d' m' w' e' t' → K [.imm (.bool x)] := fun x hx => by rw [hx]; exact hK
  unfold validRule at fin
  refine ⟨ha, brn_intro (fun h1 => fin _ ?_) (fun h1 => brn_intro (fun h2 => fin _ ?_) (fun h2 => ⟨hb, fin _ ?_⟩))⟩
  · simp only [Bool.or_eq_true, Bool.not_eq_true'] at h1
    rcases h1 with h1 | h1 <;> simp [h1]
  · simp only [Bool.or_eq_false_iff, Bool.not_eq_false'] at h1
    simp only [Bool.not_eq_true'] at h2
    rw [h1.1, h1.2, h2]
    simp [Bool.and_assoc]
  · simp only [Bool.or_eq_false_iff, Bool.not_eq_false'] at h1
    simp only [Bool.not_eq_false'] at h2
    rw [h1.1, h1.2, h2]
    simp
theorem ok18 : ∀ args pres res, sExt args = some (pres, res) → SpecOK Tryd.prog B8.G8 18 args pres res := by
  intro args pres res h
  unfold sExt at h
  split at h
  case h_2 => cases h
  cases h
  exact mk okR0 Tryd.func18 (by kernel_rfl) (by kernel_rfl) (fun _ K hK => by rw [show cx R0 = Q0 from rfl]; refine Eq.mpr (f18_in ..) ?_; exact hK)
theorem fmt8_len {t : Int} (h0 : -604799 ≤ t) (h1 : t ≤ 604799) : (B8.fmt t).length ≤ 10 := (B8.fmt_len h0 h1).2
theorem ok13 : ∀ args pres res, sDayS args = some (pres, res) → SpecOK Tryd.prog B8.G8 13 args pres res := by
  intro args pres res h
  unfold sDayS at h
  split at h
  case h_2 => cases h
  cases h
  rename_i k d m w e t
  refine mk okR0 Tryd.func13 (by kernel_rfl) (by kernel_rfl) (fun hp K hK => ?_)
  have hv := hp _ (List.mem_cons_self ..)
  rw [show cx R0 = Q0 from rfl]
  refine Eq.mpr (f13_in k d m w e t K) ?_
  have fin : ∀ x, x = dayS k d m w e t → K [.imm (.str x)] := fun x hx => by rw [hx]; exact hK
  unfold dayS dspell at fin
  obtain ⟨t0, t1, d0, d1, m0, m1, w0, w1, e0, e1, _⟩ := validDay_b hv
  have l1 := dd_len d.toNat
  have l2 := dd_len m.toNat
  have l3 := dd_len w.toNat
  have l4 := dd_len e.toNat
  have l5 := fmt8_len t0 t1
  refine ⟨d0, by omega, ?_⟩
  rcases valid_cases hv with ⟨rfl, rfl, rfl, rfl, _, _⟩ | ⟨rfl, rfl, rfl, rfl, _, _⟩ | ⟨rfl, rfl, _, _, _, _, _, _⟩
  · refine brn_intro (fun _ => ⟨by simp; omega, brn_intro (fun h => absurd h (by decide)) (fun _ => brn_intro (fun ht => ?_) (fun ht => ?_))⟩) (fun h => absurd h (by decide))
    · have ht' : t ≠ 7200 := by simpa using ht
      refine ⟨by simp; omega, t0, t1, by simp; omega, fin _ ?_⟩
      rw [if_neg ht', if_pos rfl]
      simp [B9.dd]
    · have ht' : t = 7200 := by simpa using ht
      refine fin _ ?_
      rw [if_pos ht', if_pos rfl]
      simp [B9.dd]
  · refine brn_intro (fun h => absurd h (by decide)) (fun _ => brn_intro (fun h => absurd h (by decide)) (fun _ => brn_intro (fun ht => ?_) (fun ht => ?_)))
    · have ht' : t ≠ 7200 := by simpa using ht
      refine ⟨by simp; omega, t0, t1, by simp; omega, fin _ ?_⟩
      rw [if_neg ht', if_neg (by decide), if_neg (by decide)]
      simp [B9.dd]
    · have ht' : t = 7200 := by simpa using ht
      refine fin _ ?_
      rw [if_pos ht', if_neg (by decide), if_neg (by decide)]
      simp [B9.dd]
  · refine brn_intro (fun h => absurd h (by decide)) (fun _ => brn_intro (fun _ => ?_) (fun h => absurd h (by decide)))
    by_cases ht : t = 7200
    · subst ht
      repeat' first
        | exact fin _ (by rw [if_pos rfl, if_neg (by decide), if_pos rfl]; simp [B9.dd])
        | exact brn_intro (fun h => absurd h (by decide)) (fun _ => fin _ (by rw [if_pos rfl, if_neg (by decide), if_pos rfl]; simp [B9.dd]))
        | refine And.intro ?_ ?_
      all_goals first | omega | (simp; omega)
    · have hb : (t != (7200 : Int)) = true := by simpa using ht
      rw [hb]
      repeat' first
        | exact fin _ (by rw [if_neg ht, if_neg (by decide), if_pos rfl]; simp [B9.dd])
        | refine brn_intro (fun _ => ?_) (fun h => absurd h (by decide))
        | refine And.intro ?_ ?_
      all_goals first | omega | (simp; omega)
theorem u8s {s : List UInt8} {i : Nat} {c : UInt8} : ((((s.getD i 0).toNat : Int) == (c.toNat : Int)) = true) ↔ s.getD i 0 = c := by
  rw [beq_iff_eq]
  constructor
  · intro h; exact UInt8.toNat_inj.1 (by omega)
  · intro h; rw [h]
theorem refnum_n (s : List UInt8) (i : Nat) (hi : i ≤ s.length) : ∃ n : Nat, (refnum s i).2 = (n : Int) ∧ i ≤ n ∧ n ≤ s.length := by
  obtain ⟨v, n, e1, e2, h3, _, _⟩ := number_n (s.drop i)
  rw [List.length_drop] at h3
  unfold refnum
  split
  · exact ⟨i + n, by show (i : Int) + (number (s.drop i)).2.1 = _; rw [e2]; omega, by omega, by omega⟩
  · exact ⟨i, rfl, Nat.le_refl _, hi⟩
theorem refnum_ok {s : List UInt8} {i : Nat} : decide ((refnum s i).1 ≥ 0) = (number (s.drop i)).2.2 := by
  obtain ⟨v, n, e1, e2, h3, _, _⟩ := number_n (s.drop i)
  unfold refnum
  cases h : (number (s.drop i)).2.2 with
  | true => rw [if_pos rfl]; simp only [decide_eq_true_eq]; omega
  | false => rw [if_neg (by simp)]; rfl
theorem tail45 (s : List UInt8) (k d m w e v : Int) (nn : Nat) (ok : Bool) (hok : decide (v ≥ 0) = ok) (hn : nn ≤ s.length) (hs : (s.length : Int) ≤ 4000000000000000000)
    (hx : ok = true → date s = ⟨k, d, m, w, e, nn, true⟩) (hx' : ok = false → (date s).ok = false) (K : List AV → Prop)
    (hK : K [dayAV (day s).k (day s).d (day s).m (day s).w (day s).e (day s).t, i64 (day s).n, bo (day s).ok]) :
    ((decide (v ≥ 0) && decide ((nn : Int) < (s.length : Int))) = true → (0 : Int) ≤ (nn : Int)) ∧
    ((decide (v ≥ 0) && decide ((nn : Int) < (s.length : Int))) = true → (nn : Int) < (s.length : Int)) ∧
    brn (decide (v ≥ 0) && decide ((nn : Int) < (s.length : Int)) && ((s.getD (Int.toNat (nn : Int)) 0).toNat : Int) == (47 : Int))
      ((0 : Int) ≤ IntKind.wrap .i64 ((nn : Int) + 1) ∧ IntKind.wrap .i64 ((nn : Int) + 1) ≤ (s.length : Int) ∧
        (((s.drop (IntKind.wrap .i64 ((nn : Int) + 1)).toNat).take (s.length - (IntKind.wrap .i64 ((nn : Int) + 1)).toNat)).length : Int) ≤ B8.big ∧
        brn (!(B8.parse ((s.drop (IntKind.wrap .i64 ((nn : Int) + 1)).toNat).take (s.length - (IntKind.wrap .i64 ((nn : Int) + 1)).toNat))).2.2 ||
            !validDay k d m w e (B8.parse ((s.drop (IntKind.wrap .i64 ((nn : Int) + 1)).toNat).take (s.length - (IntKind.wrap .i64 ((nn : Int) + 1)).toNat))).1)
          (K [dayAV 0 0 0 0 0 0, i64 0, bo false])
          (K [dayAV k d m w e (B8.parse ((s.drop (IntKind.wrap .i64 ((nn : Int) + 1)).toNat).take (s.length - (IntKind.wrap .i64 ((nn : Int) + 1)).toNat))).1,
            i64 (IntKind.wrap .i64 (IntKind.wrap .i64 ((nn : Int) + 1) + (B8.parse ((s.drop (IntKind.wrap .i64 ((nn : Int) + 1)).toNat).take (s.length - (IntKind.wrap .i64 ((nn : Int) + 1)).toNat))).2.1)), bo true]))
      (brn (!decide (v ≥ 0) || !validDay k d m w e 7200) (K [dayAV 0 0 0 0 0 0, i64 0, bo false]) (K [dayAV k d m w e 7200, i64 (nn : Int), bo true])) := by
  have hb8 : B8.big = 9223372036854775000 := rfl
  rw [hok]
  have w1 : IntKind.wrap .i64 ((nn : Int) + 1) = ((nn + 1 : Nat) : Int) := by rw [wrap64 (by omega) (by omega)]; rfl
  rw [w1]
  simp only [Int.toNat_natCast, B9.take_rest]
  refine ⟨fun _ => by omega, fun h => ?_, ?_⟩
  · rw [Bool.and_eq_true] at h; simpa using h.2
  cases ok with
  | false =>
    have hz : day s = noDy := by
      unfold day
      have hsl : slash s (date s) = false := by unfold slash; rw [hx' rfl]; rfl
      rw [if_neg (by rw [hsl]; simp)]
      unfold dayT
      rw [hx' rfl]
      rfl
    rw [hz] at hK
    refine brn_intro (fun h => ?_) (fun _ => brn_intro (fun _ => hK) (fun h => ?_))
    · simp at h
    · simp at h
  | true =>
    have hd := hx rfl
    refine brn_intro (fun h => ?_) (fun h => ?_)
    · simp only [Bool.true_and, Bool.and_eq_true, decide_eq_true_eq] at h
      have h47 : s.getD nn 0 = 47 := u8s.1 h.2
      have hsl : slash s (date s) = true := by
        unfold slash
        rw [hd]
        simp only [Bool.true_and, Bool.and_eq_true, decide_eq_true_eq, beq_iff_eq, Int.toNat_natCast]
        exact ⟨h.1, h47⟩
      unfold day at hK
      rw [if_pos hsl, hd] at hK
      simp only [Int.toNat_natCast] at hK
      obtain ⟨q, eq, hq⟩ := parse_n (s.drop (nn + 1))
      rw [List.length_drop] at hq
      have w2 : IntKind.wrap .i64 (((nn + 1 : Nat) : Int) + (B8.parse (s.drop (nn + 1))).2.1) = (nn : Int) + 1 + (B8.parse (s.drop (nn + 1))).2.1 := by rw [eq, wrap64 (by omega) (by omega)]; omega
      rw [w2]
      unfold dayT at hK
      refine ⟨by omega, by omega, by rw [List.length_drop]; omega, brn_intro (fun h1 => ?_) (fun h1 => ?_)⟩
      · rw [if_neg] at hK
        · exact hK
        · simp only [Bool.or_eq_true, Bool.not_eq_true'] at h1
          simp only [Bool.and_eq_true, not_and, Bool.not_eq_true]
          rcases h1 with h1 | h1
          · intro h2; rw [h1] at h2; cases h2
          · intro _; exact h1
      · rw [if_pos] at hK
        · exact hK
        · simp only [Bool.or_eq_false_iff, Bool.not_eq_false'] at h1
          rw [h1.1, h1.2]; rfl
    · have hsl : slash s (date s) = false := by
        cases hc : slash s (date s) with
        | false => rfl
        | true =>
          unfold slash at hc
          rw [hd] at hc
          simp only [Bool.true_and, Bool.and_eq_true, decide_eq_true_eq, beq_iff_eq, Int.toNat_natCast] at hc
          have : (true && decide ((nn : Int) < (s.length : Int)) && (((s.getD nn 0).toNat : Int) == (47 : Int))) = true := by
            simp only [Bool.true_and, Bool.and_eq_true, decide_eq_true_eq]
            exact ⟨hc.1, by rw [hc.2]; rfl⟩
          rw [this] at h; cases h
      unfold day at hK
      rw [if_neg (by rw [hsl]; simp), hd] at hK
      unfold dayT at hK
      refine brn_intro (fun h1 => ?_) (fun h1 => ?_)
      · rw [if_neg] at hK
        · exact hK
        · simp only [Bool.not_true, Bool.false_or, Bool.not_eq_true'] at h1
          rw [h1]; simp
      · rw [if_pos] at hK
        · exact hK
        · simp only [Bool.not_true, Bool.false_or, Bool.not_eq_false'] at h1
          rw [h1]; rfl
end Z10
set_option maxRecDepth 100000
namespace Z10
open Go Go.AE Go.Proofs B9
attribute [local irreducible] loopK evCode evSpec loopB norm
theorem day_noD {s : List UInt8} (h : (date s).ok = false) : day s = noDy := by
  unfold day
  have hsl : slash s (date s) = false := by unfold slash; rw [h]; rfl
  rw [if_neg (by rw [hsl]; simp)]
  unfold dayT
  rw [h]
  rfl
theorem after_not {s : List UInt8} {i : Nat} (h : ¬ (i < s.length ∧ s.getD i 0 = 46)) : after s i 46 = (0, 0, false) := by
  unfold after
  by_cases hl : i < s.length
  · rw [B8.getD_drop hl]
    simp only
    rw [if_neg (fun e => h ⟨hl, e⟩)]
  · rw [List.drop_eq_nil_of_le (by omega)]
theorem after_yes {s : List UInt8} {i : Nat} (h : i < s.length) (h2 : s.getD i 0 = 46) :
    after s i 46 = ((number (s.drop (i + 1))).1, ((i + 1 : Nat) : Int) + (number (s.drop (i + 1))).2.1, (number (s.drop (i + 1))).2.2) := by
  unfold after
  rw [B8.getD_drop h]
  simp only
  rw [if_pos h2]
theorem refnum_t {s : List UInt8} {i : Nat} (h : (number (s.drop i)).2.2 = true) : refnum s i = ((number (s.drop i)).1, (i : Int) + (number (s.drop i)).2.1) := if_pos h
theorem refnum_neg {s : List UInt8} {i : Nat} : decide ((refnum s i).1 < 0) = !(number (s.drop i)).2.2 := by
  have := refnum_ok (s := s) (i := i)
  cases h : (number (s.drop i)).2.2 with
  | true => rw [h] at this; simp only [decide_eq_true_eq] at this; simp; omega
  | false => rw [h] at this; simp only [decide_eq_false_iff_not] at this; simp; omega
theorem bad46 {s : List UInt8} {v : Int} {n : Nat} {ok : Bool} (hv : decide (v < 0) = !ok) : (decide (v < 0) || decide ((n : Int) ≥ (s.length : Int)) || (((s.getD (Int.toNat (n : Int)) 0).toNat : Int) != (46 : Int))) = !(ok && (decide (n < s.length) && decide (s.getD n 0 = 46))) := by
  rw [hv, Int.toNat_natCast]
  have e1 : decide ((n : Int) ≥ (s.length : Int)) = !decide (n < s.length) := by rw [Bool.eq_iff_iff]; simp
  have e2 : (((s.getD n 0).toNat : Int) != (46 : Int)) = !decide (s.getD n 0 = 46) := by
    rw [Bool.eq_iff_iff]
    simp only [bne_iff_ne, ne_eq, Bool.not_eq_true', decide_eq_false_iff_not]
    constructor
    · intro h e; exact h (by rw [e]; rfl)
    · intro h e; exact h (UInt8.toNat_inj.1 (by show _ = 46; omega))
  rw [e1, e2]
  cases ok <;> cases decide (n < s.length) <;> cases decide (s.getD n 0 = 46) <;> rfl
theorem f45_ev (s : List UInt8) (hs : (s.length : Int) ≤ 4000000000000000000) (K : List AV → Prop)
    (hK : K [dayAV (day s).k (day s).d (day s).m (day s).w (day s).e (day s).t, i64 (day s).n, bo (day s).ok]) : evSpec Q0 Tryd.f45 [st s] K := by
  refine Eq.mpr (f45_in s K) ?_
  have T0 : Int.toNat (0 : Int) = 0 := rfl
  have T1 : Int.toNat (1 : Int) = 1 := rfl
  simp only [T0, T1]
  have dflt : (s = [] ∨ (s.getD 0 0 ≠ 74 ∧ s.getD 0 0 ≠ 77)) → ∀ n : Nat, (refnum s 0).2 = (n : Int) → ((number (s.drop 0)).2.2 = true → date s = ⟨2, (refnum s 0).1, 0, 0, 0, n, true⟩) ∧ ((number (s.drop 0)).2.2 = false → (date s).ok = false) := fun h n en => by
    refine ⟨fun hok => ?_, fun hok => ?_⟩
    · rw [refnum_t hok] at en ⊢
      rw [List.drop_zero] at hok en ⊢
      rcases h with rfl | ⟨h74, h77⟩
      · cases hok
      · cases s with
        | nil => cases hok
        | cons b r =>
          rw [date_cons, if_neg (by simpa using h74), if_neg (by simpa using h77)]
          simp only at en ⊢
          rw [hok]
          congr 1
          omega
    · rw [List.drop_zero] at hok
      rcases h with rfl | ⟨h74, h77⟩
      · rfl
      · cases s with
        | nil => rfl
        | cons b r =>
          rw [date_cons, if_neg (by simpa using h74), if_neg (by simpa using h77)]
          exact hok
  by_cases hne : s = []
  · refine ⟨fun _ => by omega, fun h => by simpa using h, brn_intro (fun h => ?_) (fun _ => ⟨fun _ => by omega, fun h => by simpa using h, brn_intro (fun h => ?_) (fun _ => ?_)⟩)⟩
    · subst hne; simp at h
    · subst hne; simp at h
    · obtain ⟨n, en, h1, h2⟩ := refnum_n s 0 (Nat.zero_le _)
      have dx := dflt (.inl hne) n en
      rw [en]
      exact ⟨by decide, by omega, by omega, tail45 s 2 _ 0 0 0 _ n _ refnum_ok h2 hs dx.1 dx.2 K hK⟩
  · obtain ⟨b, r, rfl⟩ : ∃ b r, s = b :: r := by
      cases s with
      | nil => exact absurd rfl hne
      | cons b r => exact ⟨b, r, rfl⟩
    have hl : ((b :: r).length : Int) = (r.length : Int) + 1 := by simp
    refine ⟨fun _ => by omega, fun h => by simpa using h, brn_intro (fun h => ?_) (fun h => ?_)⟩
    · rw [Bool.and_eq_true] at h
      have hb : b = 74 := u8s (s := b :: r) (i := 0) (c := 74) |>.1 h.2
      subst hb
      obtain ⟨n, en, h1, h2⟩ := refnum_n (74 :: r) 1 (by simp)
      rw [en]
      refine ⟨by decide, by omega, by omega, tail45 (74 :: r) 1 _ 0 0 0 _ n _ refnum_ok h2 hs (fun hok => ?_) (fun hok => ?_) K hK⟩
      · have e1 : (74 :: r : List UInt8).drop 1 = r := rfl
        rw [refnum_t hok] at en ⊢
        rw [e1] at en hok ⊢
        simp only at en ⊢
        rw [date_cons, if_pos rfl, hok]
        congr 1
        omega
      · exact hok
    · have hb74 : b ≠ 74 := fun e => by
        subst e
        simp at h
      refine ⟨fun _ => by omega, fun h => by simpa using h, brn_intro (fun h => ?_) (fun h => ?_)⟩
      · rw [Bool.and_eq_true] at h
        have hb : b = 77 := u8s (s := b :: r) (i := 0) (c := 77) |>.1 h.2
        subst hb
        have hdate : date (77 :: r) = dateM (77 :: r) := rfl
        obtain ⟨n, en, h1, h2⟩ := refnum_n (77 :: r) 1 (by simp)
        have w1 : IntKind.wrap .i64 ((n : Int) + 1) = ((n + 1 : Nat) : Int) := by rw [wrap64 (by omega) (by omega)]; rfl
        simp only [en, w1, Int.toNat_natCast (n + 1)]
        refine ⟨by decide, by omega, by omega, fun _ => by omega, fun h => ?_, ?_⟩
        · simp only [Bool.or_eq_false_iff, decide_eq_false_iff_not] at h; omega
        rw [bad46 refnum_neg]
        refine brn_intro (fun h3 => ?_) (fun h3 => ?_)
        · have : (date (77 :: r)).ok = false := by
            rw [hdate]
            unfold dateM
            cases hok : (number ((77 :: r : List UInt8).drop 1)).2.2 with
            | false => rfl
            | true =>
              rw [hok] at h3
              rw [refnum_t hok] at en
              simp only at en
              rw [if_pos rfl]
              have en' : (number ((77 :: r : List UInt8).drop 1)).2.1.toNat + 1 = n := by omega
              rw [en', after_not (fun hh => by
                have e1 : decide (n < (77 :: r : List UInt8).length) = true := by simpa using hh.1
                have e2 : decide ((77 :: r : List UInt8).getD n 0 = 46) = true := by rw [decide_eq_true_eq]; exact hh.2
                rw [e1, e2] at h3
                cases h3)]
              rfl
          rw [day_noD this] at hK
          exact hK
        · simp only [Bool.not_eq_false', Bool.and_eq_true, decide_eq_true_eq] at h3
          obtain ⟨hok, hlt, h46⟩ := h3
          obtain ⟨n2, en2, g1, g2⟩ := refnum_n (77 :: r) (n + 1) (by omega)
          have w2 : IntKind.wrap .i64 ((n2 : Int) + 1) = ((n2 + 1 : Nat) : Int) := by rw [wrap64 (by omega) (by omega)]; rfl
          simp only [en2, w2, Int.toNat_natCast (n2 + 1)]
          have en' : (number ((77 :: r : List UInt8).drop 1)).2.1.toNat + 1 = n := by
            rw [refnum_t hok] at en
            simp only at en
            omega
          have hd1 : dateM (77 :: r) = if (number ((77 :: r : List UInt8).drop (n + 1))).2.2 then (⟨3, 0, (number ((77 :: r : List UInt8).drop 1)).1, (number ((77 :: r : List UInt8).drop (n + 1))).1, (after (77 :: r) (((n + 1 : Nat) : Int) + (number ((77 :: r : List UInt8).drop (n + 1))).2.1).toNat 46).1,
              (after (77 :: r) (((n + 1 : Nat) : Int) + (number ((77 :: r : List UInt8).drop (n + 1))).2.1).toNat 46).2.1, (after (77 :: r) (((n + 1 : Nat) : Int) + (number ((77 :: r : List UInt8).drop (n + 1))).2.1).toNat 46).2.2⟩ : D) else noD := by
            unfold dateM
            rw [if_pos hok, en', after_yes hlt h46]
          refine ⟨by omega, by omega, by omega, fun _ => by omega, fun h => ?_, ?_⟩
          · simp only [Bool.or_eq_false_iff, decide_eq_false_iff_not] at h; omega
          rw [bad46 refnum_neg]
          refine brn_intro (fun h4 => ?_) (fun h4 => ?_)
          · have : (date (77 :: r)).ok = false := by
              rw [hdate, hd1]
              cases hok2 : (number ((77 :: r : List UInt8).drop (n + 1))).2.2 with
              | false => rfl
              | true =>
                rw [hok2] at h4
                rw [refnum_t hok2] at en2
                simp only at en2
                rw [if_pos rfl]
                have en2' : (((n + 1 : Nat) : Int) + (number ((77 :: r : List UInt8).drop (n + 1))).2.1).toNat = n2 := by omega
                rw [en2', after_not (fun hh => by
                  have e1 : decide (n2 < (77 :: r : List UInt8).length) = true := by simpa using hh.1
                  have e2 : decide ((77 :: r : List UInt8).getD n2 0 = 46) = true := by rw [decide_eq_true_eq]; exact hh.2
                  rw [e1, e2] at h4
                  cases h4)]
            rw [day_noD this] at hK
            exact hK
          · simp only [Bool.not_eq_false', Bool.and_eq_true, decide_eq_true_eq] at h4
            obtain ⟨hok2, hlt2, h462⟩ := h4
            obtain ⟨n3, en3, q1, q2⟩ := refnum_n (77 :: r) (n2 + 1) (by omega)
            have en2' : (((n + 1 : Nat) : Int) + (number ((77 :: r : List UInt8).drop (n + 1))).2.1).toNat = n2 := by
              rw [refnum_t hok2] at en2
              simp only at en2
              omega
            rw [if_pos hok2, en2', after_yes hlt2 h462] at hd1
            rw [en3]
            refine ⟨by omega, by omega, by omega, tail45 (77 :: r) 3 0 _ _ _ _ n3 _ refnum_ok q2 hs (fun hok3 => ?_) (fun hok3 => ?_) K hK⟩
            · rw [hdate, hd1]
              rw [refnum_t hok, refnum_t hok2]
              rw [refnum_t hok3] at en3 ⊢
              simp only at en3 ⊢
              rw [hok3]
              congr 1
            · rw [hdate, hd1]
              exact hok3
      · have hb77 : b ≠ 77 := fun e => by
          subst e
          simp at h
        obtain ⟨n, en, h1, h2⟩ := refnum_n (b :: r) 0 (Nat.zero_le _)
        have dx := dflt (.inr ⟨hb74, hb77⟩) n en
        rw [en]
        exact ⟨by decide, by omega, by omega, tail45 (b :: r) 2 _ 0 0 0 _ n _ refnum_ok h2 hs dx.1 dx.2 K hK⟩
theorem ok45 : ∀ args pres res, sDayR args = some (pres, res) → SpecOK Tryd.prog B8.G8 45 args pres res := by
  intro args pres res h
  unfold sDayR at h
  split at h
  case h_2 => cases h
  cases h
  rename_i s
  exact mk okR0 Tryd.func45 (by kernel_rfl) (by kernel_rfl) (fun hp K hK => f45_ev s (hp _ (List.mem_cons_self ..)) K hK)
theorem okR1 : EOK Tryd.prog R1 B8.G8 := addE_ok (addE_ok (addE_ok okR0 ok45) ok14) ok13
end Z10
