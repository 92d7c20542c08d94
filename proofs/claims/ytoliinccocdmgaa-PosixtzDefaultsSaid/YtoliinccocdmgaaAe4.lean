/- The walk's evaluator and its laws (over whatever program), and contracts of the program's functions. -/
import Derived.Test.YtoliinccocdmgaaAe3
import Derived.KernelRfl
import Derived.Recover
set_option linter.all false
set_option maxRecDepth 100000
namespace Z09
open Go Go.AE Go.Proofs
attribute [local irreducible] loopK evCode evSpec loopB norm
theorem f9_in (a : List
  UInt8) (o : Int) (h : Bool) (b : List
  UInt8) (p : Int) (k : Int) (d : Int) (m : Int) (w : Int) (e : Int) (t : Int) (k' : Int) (d' : Int) (m' : Int) (w' : Int) (e' : Int) (t' : Int) (K : List
    AV →
  Prop) : evSpec C4 Try.f9 [ruleAV a o h b p k d m w e t k' d' m' w' e' t'] K =
  (List.length a ≤ (9223372036854775807 : Nat) ∧
  brn (!A7.valid a || !side o) (K [AV.imm (IV.bool false)])
    (brn (!h)
      (K
        [AV.imm
            (IV.bool
              (decide (a = a) &&
                (o == o &&
                  (h == false &&
                    (decide (b = []) &&
                      (p == (0 : Int) &&
                        (k == (0 : Int) &&
                            (d == (0 : Int) &&
                              (m == (0 : Int) && (w == (0 : Int) && (e == (0 : Int) && (t == (0 : Int) && true))))) &&
                          (k' == (0 : Int) &&
                              (d' == (0 : Int) &&
                                (m' == (0 : Int) &&
                                  (w' == (0 : Int) && (e' == (0 : Int) && (t' == (0 : Int) && true))))) &&
                            true))))))))])
      (List.length b ≤ (9223372036854775807 : Nat) ∧
        K
          [AV.imm
              (IV.bool
                (A7.valid b && side p && validDay k d m w e t && validDay k' d' m' w' e' t'))]))) := by kernel_rfl
theorem f8_a (s : List UInt8) (k : AX → St → Prop) : evCode C5 a8 (e8 s) k =
  (k AX.normal
  (St.mk
    [AV.imm (IV.str s), AV.dead, AV.ptr (0 : Nat) (0 : Nat), AV.ptr (1 : Nat) (0 : Nat), AV.ptr (2 : Nat) (0 : Nat),
      AV.ptr (3 : Nat) (0 : Nat), AV.imm (IV.str s), AV.agg [AV.imm (IV.str s), AV.imm (IV.int IntKind.i64 (0 : Int))],
      AV.ptr (3 : Nat) (0 : Nat), AV.dead, AV.dead, AV.dead, AV.dead, AV.dead, AV.dead, AV.dead, AV.dead, AV.dead,
      AV.dead, AV.dead, AV.dead, AV.dead, AV.dead, AV.dead, AV.dead, AV.dead, AV.dead, AV.dead, AV.dead, AV.dead,
      AV.dead, AV.dead, AV.dead, AV.dead, AV.dead, AV.dead, AV.dead, AV.dead, AV.dead, AV.dead]
    [((0 : Nat),
        Ob.mk true (0 : Nat)
          (AObj.cells
            [AV.imm (IV.str []), AV.imm (IV.int IntKind.i64 (0 : Int)), AV.imm (IV.bool false), AV.imm (IV.str []),
              AV.imm (IV.int IntKind.i64 (0 : Int)), AV.imm (IV.int IntKind.i64 (0 : Int)),
              AV.imm (IV.int IntKind.i64 (0 : Int)), AV.imm (IV.int IntKind.i64 (0 : Int)),
              AV.imm (IV.int IntKind.i64 (0 : Int)), AV.imm (IV.int IntKind.i64 (0 : Int)),
              AV.imm (IV.int IntKind.i64 (0 : Int)), AV.imm (IV.int IntKind.i64 (0 : Int)),
              AV.imm (IV.int IntKind.i64 (0 : Int)), AV.imm (IV.int IntKind.i64 (0 : Int)),
              AV.imm (IV.int IntKind.i64 (0 : Int)), AV.imm (IV.int IntKind.i64 (0 : Int)),
              AV.imm (IV.int IntKind.i64 (0 : Int))])),
      ((1 : Nat), Ob.mk true (0 : Nat) (AObj.cells [AV.imm (IV.int IntKind.i64 (0 : Int))])),
      ((2 : Nat), Ob.mk true (0 : Nat) (AObj.cells [AV.imm (IV.int IntKind.i64 (0 : Int))])),
      ((3 : Nat), Ob.mk true (0 : Nat) (AObj.cells [AV.imm (IV.str s), AV.imm (IV.int IntKind.i64 (0 : Int))]))]
    (4 : Nat) [])) := by kernel_rfl

theorem f8_n (s : List
  UInt8) (i : Int) (a : List
  UInt8) (o : Int) (x : AV) (y : AV) (z : AV) (t : Nat →
  AV) (k : AX → St → Prop) : evCode C5 (c8 [Dir.r, Dir.r, Dir.r, Dir.l]) (S8 s i (R8 a o) x y z t) k =
  ((0 : Int) ≤ i ∧
  i ≤ (↑(List.length s) : Int) ∧
    List.length (List.take (List.length s - Int.toNat i) (List.drop (Int.toNat i) s)) ≤ (9223372036854775800 : Nat) ∧
      brn (!Prod.snd (Prod.snd (A7.parse (List.take (List.length s - Int.toNat i) (List.drop (Int.toNat i) s)))))
        (k (AX.panic (AV.ifc (44 : Nat) (AV.agg [AV.imm (IV.int IntKind.i64 i)])))
          (St.mk
            [AV.imm (IV.str s), AV.dead, AV.ptr (0 : Nat) (0 : Nat), AV.ptr (1 : Nat) (0 : Nat),
              AV.ptr (2 : Nat) (0 : Nat), AV.ptr (3 : Nat) (0 : Nat), x, y, z,
              AV.fn (16 : Nat) [] [AV.ptr (0 : Nat) (0 : Nat), AV.ptr (1 : Nat) (0 : Nat), AV.ptr (2 : Nat) (0 : Nat)],
              AV.ptr (3 : Nat) (0 : Nat), t (11 : Nat), t (12 : Nat), t (13 : Nat), t (14 : Nat), t (15 : Nat),
              t (16 : Nat), t (17 : Nat), t (18 : Nat), t (19 : Nat), t (20 : Nat), t (21 : Nat), t (22 : Nat),
              t (23 : Nat), t (24 : Nat), t (25 : Nat), t (26 : Nat), t (27 : Nat), t (28 : Nat), t (29 : Nat),
              t (30 : Nat), t (31 : Nat), t (32 : Nat), t (33 : Nat), t (34 : Nat), t (35 : Nat), t (36 : Nat),
              t (37 : Nat), t (38 : Nat), t (39 : Nat)]
            [((0 : Nat),
                Ob.mk true (0 : Nat)
                  (AObj.cells
                    [AV.imm (IV.str a), AV.imm (IV.int IntKind.i64 o), AV.imm (IV.bool false), AV.imm (IV.str []),
                      AV.imm (IV.int IntKind.i64 (0 : Int)), AV.imm (IV.int IntKind.i64 (0 : Int)),
                      AV.imm (IV.int IntKind.i64 (0 : Int)), AV.imm (IV.int IntKind.i64 (0 : Int)),
                      AV.imm (IV.int IntKind.i64 (0 : Int)), AV.imm (IV.int IntKind.i64 (0 : Int)),
                      AV.imm (IV.int IntKind.i64 (0 : Int)), AV.imm (IV.int IntKind.i64 (0 : Int)),
                      AV.imm (IV.int IntKind.i64 (0 : Int)), AV.imm (IV.int IntKind.i64 (0 : Int)),
                      AV.imm (IV.int IntKind.i64 (0 : Int)), AV.imm (IV.int IntKind.i64 (0 : Int)),
                      AV.imm (IV.int IntKind.i64 (0 : Int))])),
              ((1 : Nat), Ob.mk true (0 : Nat) (AObj.cells [AV.imm (IV.int IntKind.i64 (0 : Int))])),
              ((2 : Nat), Ob.mk true (0 : Nat) (AObj.cells [AV.imm (IV.int IntKind.i64 (0 : Int))])),
              ((3 : Nat), Ob.mk true (0 : Nat) (AObj.cells [AV.imm (IV.str s), AV.imm (IV.int IntKind.i64 i)]))]
            (4 : Nat) [AV.ptr (0 : Nat) (0 : Nat), AV.ptr (1 : Nat) (0 : Nat), AV.ptr (2 : Nat) (0 : Nat)]))
        (k AX.normal
          (St.mk
            [AV.imm (IV.str s), AV.dead, AV.ptr (0 : Nat) (0 : Nat), AV.ptr (1 : Nat) (0 : Nat),
              AV.ptr (2 : Nat) (0 : Nat), AV.ptr (3 : Nat) (0 : Nat), x, y, z,
              AV.fn (16 : Nat) [] [AV.ptr (0 : Nat) (0 : Nat), AV.ptr (1 : Nat) (0 : Nat), AV.ptr (2 : Nat) (0 : Nat)],
              AV.ptr (3 : Nat) (0 : Nat),
              AV.imm
                (IV.str (Prod.fst (A7.parse (List.take (List.length s - Int.toNat i) (List.drop (Int.toNat i) s))))),
              AV.ptr (0 : Nat) (0 : Nat), t (13 : Nat), t (14 : Nat), t (15 : Nat), t (16 : Nat), t (17 : Nat),
              t (18 : Nat), t (19 : Nat), t (20 : Nat), t (21 : Nat), t (22 : Nat), t (23 : Nat), t (24 : Nat),
              t (25 : Nat), t (26 : Nat), t (27 : Nat), t (28 : Nat), t (29 : Nat), t (30 : Nat), t (31 : Nat),
              t (32 : Nat), t (33 : Nat), t (34 : Nat), t (35 : Nat), t (36 : Nat), t (37 : Nat), t (38 : Nat),
              t (39 : Nat)]
            [((0 : Nat),
                Ob.mk true (0 : Nat)
                  (AObj.cells
                    [AV.imm
                        (IV.str
                          (Prod.fst (A7.parse (List.take (List.length s - Int.toNat i) (List.drop (Int.toNat i) s))))),
                      AV.imm (IV.int IntKind.i64 o), AV.imm (IV.bool false), AV.imm (IV.str []),
                      AV.imm (IV.int IntKind.i64 (0 : Int)), AV.imm (IV.int IntKind.i64 (0 : Int)),
                      AV.imm (IV.int IntKind.i64 (0 : Int)), AV.imm (IV.int IntKind.i64 (0 : Int)),
                      AV.imm (IV.int IntKind.i64 (0 : Int)), AV.imm (IV.int IntKind.i64 (0 : Int)),
                      AV.imm (IV.int IntKind.i64 (0 : Int)), AV.imm (IV.int IntKind.i64 (0 : Int)),
                      AV.imm (IV.int IntKind.i64 (0 : Int)), AV.imm (IV.int IntKind.i64 (0 : Int)),
                      AV.imm (IV.int IntKind.i64 (0 : Int)), AV.imm (IV.int IntKind.i64 (0 : Int)),
                      AV.imm (IV.int IntKind.i64 (0 : Int))])),
              ((1 : Nat), Ob.mk true (0 : Nat) (AObj.cells [AV.imm (IV.int IntKind.i64 (0 : Int))])),
              ((2 : Nat), Ob.mk true (0 : Nat) (AObj.cells [AV.imm (IV.int IntKind.i64 (0 : Int))])),
              ((3 : Nat),
                Ob.mk true (0 : Nat)
                  (AObj.cells
                    [AV.imm (IV.str s),
                      AV.imm
                        (IV.int IntKind.i64
                          (IntKind.wrap IntKind.i64
                            (i +
                              Prod.fst
                                (Prod.snd
                                  (A7.parse
                                    (List.take (List.length s - Int.toNat i) (List.drop (Int.toNat i) s)))))))]))]
            (4 : Nat)
            [AV.ptr (0 : Nat) (0 : Nat), AV.ptr (1 : Nat) (0 : Nat), AV.ptr (2 : Nat) (0 : Nat)]))) := by kernel_rfl
theorem f8_o (s : List
  UInt8) (i : Int) (a : List
  UInt8) (o : Int) (x : AV) (y : AV) (z : AV) (t : Nat →
  AV) (k : AX → St → Prop) : evCode C5 (c8 [Dir.r, Dir.r, Dir.r, Dir.r, Dir.l]) (S8 s i (R8 a o) x y z t) k =
  ((0 : Int) ≤ i ∧
  i ≤ (↑(List.length s) : Int) ∧
    (↑(List.length (List.take (List.length s - Int.toNat i) (List.drop (Int.toNat i) s))) : Int) ≤ A8.big ∧
      brn
        (!(Prod.snd (Prod.snd (A8.parse (List.take (List.length s - Int.toNat i) (List.drop (Int.toNat i) s)))) &&
            side (Prod.fst (A8.parse (List.take (List.length s - Int.toNat i) (List.drop (Int.toNat i) s))))))
        (k (AX.panic (AV.ifc (44 : Nat) (AV.agg [AV.imm (IV.int IntKind.i64 i)])))
          (St.mk
            [AV.imm (IV.str s), AV.dead, AV.ptr (0 : Nat) (0 : Nat), AV.ptr (1 : Nat) (0 : Nat),
              AV.ptr (2 : Nat) (0 : Nat), AV.ptr (3 : Nat) (0 : Nat), x, y, z,
              AV.fn (16 : Nat) [] [AV.ptr (0 : Nat) (0 : Nat), AV.ptr (1 : Nat) (0 : Nat), AV.ptr (2 : Nat) (0 : Nat)],
              t (10 : Nat), t (11 : Nat), t (12 : Nat), AV.ptr (3 : Nat) (0 : Nat), t (14 : Nat), t (15 : Nat),
              t (16 : Nat), t (17 : Nat), t (18 : Nat), t (19 : Nat), t (20 : Nat), t (21 : Nat), t (22 : Nat),
              t (23 : Nat), t (24 : Nat), t (25 : Nat), t (26 : Nat), t (27 : Nat), t (28 : Nat), t (29 : Nat),
              t (30 : Nat), t (31 : Nat), t (32 : Nat), t (33 : Nat), t (34 : Nat), t (35 : Nat), t (36 : Nat),
              t (37 : Nat), t (38 : Nat), t (39 : Nat)]
            [((0 : Nat),
                Ob.mk true (0 : Nat)
                  (AObj.cells
                    [AV.imm (IV.str a), AV.imm (IV.int IntKind.i64 o), AV.imm (IV.bool false), AV.imm (IV.str []),
                      AV.imm (IV.int IntKind.i64 (0 : Int)), AV.imm (IV.int IntKind.i64 (0 : Int)),
                      AV.imm (IV.int IntKind.i64 (0 : Int)), AV.imm (IV.int IntKind.i64 (0 : Int)),
                      AV.imm (IV.int IntKind.i64 (0 : Int)), AV.imm (IV.int IntKind.i64 (0 : Int)),
                      AV.imm (IV.int IntKind.i64 (0 : Int)), AV.imm (IV.int IntKind.i64 (0 : Int)),
                      AV.imm (IV.int IntKind.i64 (0 : Int)), AV.imm (IV.int IntKind.i64 (0 : Int)),
                      AV.imm (IV.int IntKind.i64 (0 : Int)), AV.imm (IV.int IntKind.i64 (0 : Int)),
                      AV.imm (IV.int IntKind.i64 (0 : Int))])),
              ((1 : Nat), Ob.mk true (0 : Nat) (AObj.cells [AV.imm (IV.int IntKind.i64 (0 : Int))])),
              ((2 : Nat), Ob.mk true (0 : Nat) (AObj.cells [AV.imm (IV.int IntKind.i64 (0 : Int))])),
              ((3 : Nat), Ob.mk true (0 : Nat) (AObj.cells [AV.imm (IV.str s), AV.imm (IV.int IntKind.i64 i)]))]
            (4 : Nat) [AV.ptr (0 : Nat) (0 : Nat), AV.ptr (1 : Nat) (0 : Nat), AV.ptr (2 : Nat) (0 : Nat)]))
        (k AX.normal
          (St.mk
            [AV.imm (IV.str s), AV.dead, AV.ptr (0 : Nat) (0 : Nat), AV.ptr (1 : Nat) (0 : Nat),
              AV.ptr (2 : Nat) (0 : Nat), AV.ptr (3 : Nat) (0 : Nat), x, y, z,
              AV.fn (16 : Nat) [] [AV.ptr (0 : Nat) (0 : Nat), AV.ptr (1 : Nat) (0 : Nat), AV.ptr (2 : Nat) (0 : Nat)],
              t (10 : Nat), t (11 : Nat), t (12 : Nat), AV.ptr (3 : Nat) (0 : Nat),
              AV.imm
                (IV.int IntKind.i64
                  (IntKind.wrap IntKind.i64
                    ((0 : Int) -
                      Prod.fst (A8.parse (List.take (List.length s - Int.toNat i) (List.drop (Int.toNat i) s)))))),
              AV.ptr (0 : Nat) (1 : Nat), t (16 : Nat), t (17 : Nat), t (18 : Nat), t (19 : Nat), t (20 : Nat),
              t (21 : Nat), t (22 : Nat), t (23 : Nat), t (24 : Nat), t (25 : Nat), t (26 : Nat), t (27 : Nat),
              t (28 : Nat), t (29 : Nat), t (30 : Nat), t (31 : Nat), t (32 : Nat), t (33 : Nat), t (34 : Nat),
              t (35 : Nat), t (36 : Nat), t (37 : Nat), t (38 : Nat), t (39 : Nat)]
            [((0 : Nat),
                Ob.mk true (0 : Nat)
                  (AObj.cells
                    [AV.imm (IV.str a),
                      AV.imm
                        (IV.int IntKind.i64
                          (IntKind.wrap IntKind.i64
                            ((0 : Int) -
                              Prod.fst
                                (A8.parse (List.take (List.length s - Int.toNat i) (List.drop (Int.toNat i) s)))))),
                      AV.imm (IV.bool false), AV.imm (IV.str []), AV.imm (IV.int IntKind.i64 (0 : Int)),
                      AV.imm (IV.int IntKind.i64 (0 : Int)), AV.imm (IV.int IntKind.i64 (0 : Int)),
                      AV.imm (IV.int IntKind.i64 (0 : Int)), AV.imm (IV.int IntKind.i64 (0 : Int)),
                      AV.imm (IV.int IntKind.i64 (0 : Int)), AV.imm (IV.int IntKind.i64 (0 : Int)),
                      AV.imm (IV.int IntKind.i64 (0 : Int)), AV.imm (IV.int IntKind.i64 (0 : Int)),
                      AV.imm (IV.int IntKind.i64 (0 : Int)), AV.imm (IV.int IntKind.i64 (0 : Int)),
                      AV.imm (IV.int IntKind.i64 (0 : Int)), AV.imm (IV.int IntKind.i64 (0 : Int))])),
              ((1 : Nat), Ob.mk true (0 : Nat) (AObj.cells [AV.imm (IV.int IntKind.i64 (0 : Int))])),
              ((2 : Nat), Ob.mk true (0 : Nat) (AObj.cells [AV.imm (IV.int IntKind.i64 (0 : Int))])),
              ((3 : Nat),
                Ob.mk true (0 : Nat)
                  (AObj.cells
                    [AV.imm (IV.str s),
                      AV.imm
                        (IV.int IntKind.i64
                          (IntKind.wrap IntKind.i64
                            (i +
                              Prod.fst
                                (Prod.snd
                                  (A8.parse
                                    (List.take (List.length s - Int.toNat i) (List.drop (Int.toNat i) s)))))))]))]
            (4 : Nat)
            [AV.ptr (0 : Nat) (0 : Nat), AV.ptr (1 : Nat) (0 : Nat), AV.ptr (2 : Nat) (0 : Nat)]))) := by kernel_rfl
theorem d_1 (s : List
  UInt8) (i : Int) (R0 : List
  AV) (R2 : List
  AV) (a : List
  UInt8) (o : Int) (h : Bool) (b : List
  UInt8) (p : Int) (k : Int) (d : Int) (m : Int) (w : Int) (e : Int) (t : Int) (k' : Int) (d' : Int) (m' : Int) (w' : Int) (e' : Int) (t' : Int) (x : AV) (y : AV) (OUT : List
  AV) (T : Nat →
  AV) (K : AX →
  St →
    Prop) : evCode C4i (c19 [Dir.r, Dir.l]) (S19 s i R0 (R17 a o h b p k d m w e t k' d' m' w' e' t') R2 x y OUT T) K =
  (((0 : Int) ≤ i ∧
    i ≤ (↑(List.length s) : Int) ∧
      List.length (List.take (List.length s - Int.toNat i) (List.drop (Int.toNat i) s)) ≤ (9223372036854775800 : Nat) ∧
        brn (!Prod.snd (Prod.snd (A7.parse (List.take (List.length s - Int.toNat i) (List.drop (Int.toNat i) s)))))
          (K (AX.panic (AV.ifc (44 : Nat) (AV.agg [AV.imm (IV.int IntKind.i64 i)])))
            (St.mk
              [AV.ptr (3 : Nat) (0 : Nat), x, y, AV.ptr (4 : Nat) (0 : Nat), AV.ptr (5 : Nat) (0 : Nat), T (5 : Nat),
                T (6 : Nat), T (7 : Nat), AV.ptr (3 : Nat) (0 : Nat), T (9 : Nat), AV.ptr (4 : Nat) (1 : Nat),
                T (11 : Nat), T (12 : Nat), T (13 : Nat), T (14 : Nat), T (15 : Nat), T (16 : Nat), T (17 : Nat),
                T (18 : Nat), T (19 : Nat), T (20 : Nat), T (21 : Nat), T (22 : Nat), T (23 : Nat), T (24 : Nat),
                T (25 : Nat), T (26 : Nat), T (27 : Nat), T (28 : Nat), T (29 : Nat), T (30 : Nat), T (31 : Nat),
                T (32 : Nat), T (33 : Nat), T (34 : Nat), T (35 : Nat), T (36 : Nat), T (37 : Nat), T (38 : Nat),
                T (39 : Nat), T (40 : Nat), T (41 : Nat), T (42 : Nat), T (43 : Nat), T (44 : Nat)]
              [((0 : Nat), Ob.mk true (0 : Nat) (AObj.cells R0)),
                ((1 : Nat), Ob.mk true (0 : Nat) (AObj.cells [AV.imm (IV.int IntKind.i64 (0 : Int))])),
                ((2 : Nat), Ob.mk true (0 : Nat) (AObj.cells [AV.imm (IV.int IntKind.i64 (0 : Int))])),
                ((3 : Nat), Ob.mk true (0 : Nat) (AObj.cells [AV.imm (IV.str s), AV.imm (IV.int IntKind.i64 i)])),
                ((4 : Nat),
                  Ob.mk true (0 : Nat)
                    (AObj.cells
                      [AV.imm (IV.str a), AV.imm (IV.int IntKind.i64 o), AV.imm (IV.bool h), AV.imm (IV.str b),
                        AV.imm (IV.int IntKind.i64 p), AV.imm (IV.int IntKind.i64 k), AV.imm (IV.int IntKind.i64 d),
                        AV.imm (IV.int IntKind.i64 m), AV.imm (IV.int IntKind.i64 w), AV.imm (IV.int IntKind.i64 e),
                        AV.imm (IV.int IntKind.i64 t), AV.imm (IV.int IntKind.i64 k'), AV.imm (IV.int IntKind.i64 d'),
                        AV.imm (IV.int IntKind.i64 m'), AV.imm (IV.int IntKind.i64 w'), AV.imm (IV.int IntKind.i64 e'),
                        AV.imm (IV.int IntKind.i64 t')])),
                ((5 : Nat), Ob.mk true (0 : Nat) (AObj.cells R2))]
              (6 : Nat) OUT))
          (K AX.normal
            (St.mk
              [AV.ptr (3 : Nat) (0 : Nat), x, y, AV.ptr (4 : Nat) (0 : Nat), AV.ptr (5 : Nat) (0 : Nat), T (5 : Nat),
                T (6 : Nat), T (7 : Nat), AV.ptr (3 : Nat) (0 : Nat),
                AV.imm
                  (IV.str (Prod.fst (A7.parse (List.take (List.length s - Int.toNat i) (List.drop (Int.toNat i) s))))),
                AV.ptr (4 : Nat) (1 : Nat), AV.imm (IV.int IntKind.i64 o),
                AV.imm (IV.int IntKind.i64 (IntKind.wrap IntKind.i64 (o + (3600 : Int)))), AV.ptr (4 : Nat) (2 : Nat),
                AV.ptr (4 : Nat) (3 : Nat), AV.ptr (4 : Nat) (4 : Nat), T (16 : Nat), T (17 : Nat), T (18 : Nat),
                T (19 : Nat), T (20 : Nat), T (21 : Nat), T (22 : Nat), T (23 : Nat), T (24 : Nat), T (25 : Nat),
                T (26 : Nat), T (27 : Nat), T (28 : Nat), T (29 : Nat), T (30 : Nat), T (31 : Nat), T (32 : Nat),
                T (33 : Nat), T (34 : Nat), T (35 : Nat), T (36 : Nat), T (37 : Nat), T (38 : Nat), T (39 : Nat),
                T (40 : Nat), T (41 : Nat), T (42 : Nat), T (43 : Nat), T (44 : Nat)]
              [((0 : Nat), Ob.mk true (0 : Nat) (AObj.cells R0)),
                ((1 : Nat), Ob.mk true (0 : Nat) (AObj.cells [AV.imm (IV.int IntKind.i64 (0 : Int))])),
                ((2 : Nat), Ob.mk true (0 : Nat) (AObj.cells [AV.imm (IV.int IntKind.i64 (0 : Int))])),
                ((3 : Nat),
                  Ob.mk true (0 : Nat)
                    (AObj.cells
                      [AV.imm (IV.str s),
                        AV.imm
                          (IV.int IntKind.i64
                            (IntKind.wrap IntKind.i64
                              (i +
                                Prod.fst
                                  (Prod.snd
                                    (A7.parse
                                      (List.take (List.length s - Int.toNat i) (List.drop (Int.toNat i) s)))))))])),
                ((4 : Nat),
                  Ob.mk true (0 : Nat)
                    (AObj.cells
                      [AV.imm (IV.str a), AV.imm (IV.int IntKind.i64 o), AV.imm (IV.bool true),
                        AV.imm
                          (IV.str
                            (Prod.fst
                              (A7.parse (List.take (List.length s - Int.toNat i) (List.drop (Int.toNat i) s))))),
                        AV.imm (IV.int IntKind.i64 (IntKind.wrap IntKind.i64 (o + (3600 : Int)))),
                        AV.imm (IV.int IntKind.i64 k), AV.imm (IV.int IntKind.i64 d), AV.imm (IV.int IntKind.i64 m),
                        AV.imm (IV.int IntKind.i64 w), AV.imm (IV.int IntKind.i64 e), AV.imm (IV.int IntKind.i64 t),
                        AV.imm (IV.int IntKind.i64 k'), AV.imm (IV.int IntKind.i64 d'), AV.imm (IV.int IntKind.i64 m'),
                        AV.imm (IV.int IntKind.i64 w'), AV.imm (IV.int IntKind.i64 e'),
                        AV.imm (IV.int IntKind.i64 t')])),
                ((5 : Nat), Ob.mk true (0 : Nat) (AObj.cells R2))]
              (6 : Nat) OUT))) ∧
  (0 : Int) ≤ i ∧
    i ≤ (↑(List.length s) : Int) ∧
      List.length (List.take (List.length s - Int.toNat i) (List.drop (Int.toNat i) s)) ≤ (9223372036854775800 : Nat) ∧
        brn (!Prod.snd (Prod.snd (A7.parse (List.take (List.length s - Int.toNat i) (List.drop (Int.toNat i) s)))))
          (K (AX.panic (AV.ifc (44 : Nat) (AV.agg [AV.imm (IV.int IntKind.i64 i)])))
            (St.mk
              [AV.ptr (3 : Nat) (0 : Nat), x, y, AV.ptr (4 : Nat) (0 : Nat), AV.ptr (5 : Nat) (0 : Nat), T (5 : Nat),
                T (6 : Nat), T (7 : Nat), AV.ptr (3 : Nat) (0 : Nat), T (9 : Nat), AV.ptr (4 : Nat) (1 : Nat),
                AV.imm (IV.int IntKind.i64 o),
                AV.imm (IV.int IntKind.i64 (IntKind.wrap IntKind.i64 (o + (3600 : Int)))), AV.ptr (4 : Nat) (2 : Nat),
                T (14 : Nat), T (15 : Nat), T (16 : Nat), T (17 : Nat), T (18 : Nat), T (19 : Nat), T (20 : Nat),
                T (21 : Nat), T (22 : Nat), T (23 : Nat), T (24 : Nat), T (25 : Nat), T (26 : Nat), T (27 : Nat),
                T (28 : Nat), T (29 : Nat), T (30 : Nat), T (31 : Nat), T (32 : Nat), T (33 : Nat), T (34 : Nat),
                T (35 : Nat), T (36 : Nat), T (37 : Nat), T (38 : Nat), T (39 : Nat), T (40 : Nat), T (41 : Nat),
                T (42 : Nat), T (43 : Nat), T (44 : Nat)]
              [((0 : Nat), Ob.mk true (0 : Nat) (AObj.cells R0)),
                ((1 : Nat), Ob.mk true (0 : Nat) (AObj.cells [AV.imm (IV.int IntKind.i64 (0 : Int))])),
                ((2 : Nat), Ob.mk true (0 : Nat) (AObj.cells [AV.imm (IV.int IntKind.i64 (0 : Int))])),
                ((3 : Nat), Ob.mk true (0 : Nat) (AObj.cells [AV.imm (IV.str s), AV.imm (IV.int IntKind.i64 i)])),
                ((4 : Nat),
                  Ob.mk true (0 : Nat)
                    (AObj.cells
                      [AV.imm (IV.str a), AV.imm (IV.int IntKind.i64 o), AV.imm (IV.bool h), AV.imm (IV.str b),
                        AV.imm (IV.int IntKind.i64 p), AV.imm (IV.int IntKind.i64 k), AV.imm (IV.int IntKind.i64 d),
                        AV.imm (IV.int IntKind.i64 m), AV.imm (IV.int IntKind.i64 w), AV.imm (IV.int IntKind.i64 e),
                        AV.imm (IV.int IntKind.i64 t), AV.imm (IV.int IntKind.i64 k'), AV.imm (IV.int IntKind.i64 d'),
                        AV.imm (IV.int IntKind.i64 m'), AV.imm (IV.int IntKind.i64 w'), AV.imm (IV.int IntKind.i64 e'),
                        AV.imm (IV.int IntKind.i64 t')])),
                ((5 : Nat), Ob.mk true (0 : Nat) (AObj.cells R2))]
              (6 : Nat) OUT))
          (K AX.normal
            (St.mk
              [AV.ptr (3 : Nat) (0 : Nat), x, y, AV.ptr (4 : Nat) (0 : Nat), AV.ptr (5 : Nat) (0 : Nat), T (5 : Nat),
                T (6 : Nat), T (7 : Nat), AV.ptr (3 : Nat) (0 : Nat),
                AV.imm
                  (IV.str (Prod.fst (A7.parse (List.take (List.length s - Int.toNat i) (List.drop (Int.toNat i) s))))),
                AV.ptr (4 : Nat) (1 : Nat), AV.imm (IV.int IntKind.i64 o),
                AV.imm (IV.int IntKind.i64 (IntKind.wrap IntKind.i64 (o + (3600 : Int)))), AV.ptr (4 : Nat) (2 : Nat),
                AV.ptr (4 : Nat) (3 : Nat), AV.ptr (4 : Nat) (4 : Nat), T (16 : Nat), T (17 : Nat), T (18 : Nat),
                T (19 : Nat), T (20 : Nat), T (21 : Nat), T (22 : Nat), T (23 : Nat), T (24 : Nat), T (25 : Nat),
                T (26 : Nat), T (27 : Nat), T (28 : Nat), T (29 : Nat), T (30 : Nat), T (31 : Nat), T (32 : Nat),
                T (33 : Nat), T (34 : Nat), T (35 : Nat), T (36 : Nat), T (37 : Nat), T (38 : Nat), T (39 : Nat),
                T (40 : Nat), T (41 : Nat), T (42 : Nat), T (43 : Nat), T (44 : Nat)]
              [((0 : Nat), Ob.mk true (0 : Nat) (AObj.cells R0)),
                ((1 : Nat), Ob.mk true (0 : Nat) (AObj.cells [AV.imm (IV.int IntKind.i64 (0 : Int))])),
                ((2 : Nat), Ob.mk true (0 : Nat) (AObj.cells [AV.imm (IV.int IntKind.i64 (0 : Int))])),
                ((3 : Nat),
                  Ob.mk true (0 : Nat)
                    (AObj.cells
                      [AV.imm (IV.str s),
                        AV.imm
                          (IV.int IntKind.i64
                            (IntKind.wrap IntKind.i64
                              (i +
                                Prod.fst
                                  (Prod.snd
                                    (A7.parse
                                      (List.take (List.length s - Int.toNat i) (List.drop (Int.toNat i) s)))))))])),
                ((4 : Nat),
                  Ob.mk true (0 : Nat)
                    (AObj.cells
                      [AV.imm (IV.str a), AV.imm (IV.int IntKind.i64 o), AV.imm (IV.bool true),
                        AV.imm
                          (IV.str
                            (Prod.fst
                              (A7.parse (List.take (List.length s - Int.toNat i) (List.drop (Int.toNat i) s))))),
                        AV.imm (IV.int IntKind.i64 (IntKind.wrap IntKind.i64 (o + (3600 : Int)))),
                        AV.imm (IV.int IntKind.i64 k), AV.imm (IV.int IntKind.i64 d), AV.imm (IV.int IntKind.i64 m),
                        AV.imm (IV.int IntKind.i64 w), AV.imm (IV.int IntKind.i64 e), AV.imm (IV.int IntKind.i64 t),
                        AV.imm (IV.int IntKind.i64 k'), AV.imm (IV.int IntKind.i64 d'), AV.imm (IV.int IntKind.i64 m'),
                        AV.imm (IV.int IntKind.i64 w'), AV.imm (IV.int IntKind.i64 e'),
                        AV.imm (IV.int IntKind.i64 t')])),
                ((5 : Nat), Ob.mk true (0 : Nat) (AObj.cells R2))]
              (6 : Nat) OUT))) := by kernel_rfl
theorem d_2 (s : List
  UInt8) (i : Int) (R0 : List
  AV) (R2 : List
  AV) (a : List
  UInt8) (o : Int) (h : Bool) (b : List
  UInt8) (p : Int) (k : Int) (d : Int) (m : Int) (w : Int) (e : Int) (t : Int) (k' : Int) (d' : Int) (m' : Int) (w' : Int) (e' : Int) (t' : Int) (x : AV) (y : AV) (OUT : List
  AV) (T : Nat →
  AV) (K : AX →
  St →
    Prop) : evCode C4i (c19 [Dir.r, Dir.r, Dir.l])
  (S19 s i R0 (R17 a o h b p k d m w e t k' d' m' w' e' t') R2 x y OUT T) K =
  ((0 : Int) ≤ i ∧
  i ≤ (↑(List.length s) : Int) ∧
    (↑(List.length (List.take (List.length s - Int.toNat i) (List.drop (Int.toNat i) s))) : Int) ≤ A8.big ∧
      brn (Prod.snd (Prod.snd (A8.parse (List.take (List.length s - Int.toNat i) (List.drop (Int.toNat i) s)))))
        ((0 : Int) ≤ i ∧
          i ≤ (↑(List.length s) : Int) ∧
            (↑(List.length (List.take (List.length s - Int.toNat i) (List.drop (Int.toNat i) s))) : Int) ≤ A8.big ∧
              brn
                (!(Prod.snd
                      (Prod.snd (A8.parse (List.take (List.length s - Int.toNat i) (List.drop (Int.toNat i) s)))) &&
                    side (Prod.fst (A8.parse (List.take (List.length s - Int.toNat i) (List.drop (Int.toNat i) s))))))
                (K (AX.panic (AV.ifc (44 : Nat) (AV.agg [AV.imm (IV.int IntKind.i64 i)])))
                  (St.mk
                    [AV.ptr (3 : Nat) (0 : Nat), x, y, AV.ptr (4 : Nat) (0 : Nat), AV.ptr (5 : Nat) (0 : Nat),
                      AV.imm
                        (IV.int IntKind.i64
                          (Prod.fst (A8.parse (List.take (List.length s - Int.toNat i) (List.drop (Int.toNat i) s))))),
                      AV.imm
                        (IV.int IntKind.i64
                          (Prod.fst
                            (Prod.snd
                              (A8.parse (List.take (List.length s - Int.toNat i) (List.drop (Int.toNat i) s)))))),
                      AV.imm
                        (IV.bool
                          (Prod.snd
                            (Prod.snd
                              (A8.parse (List.take (List.length s - Int.toNat i) (List.drop (Int.toNat i) s)))))),
                      T (8 : Nat), T (9 : Nat), T (10 : Nat), T (11 : Nat), T (12 : Nat), T (13 : Nat), T (14 : Nat),
                      T (15 : Nat),
                      AV.tup
                        [AV.imm
                            (IV.int IntKind.i64
                              (Prod.fst
                                (A8.parse (List.take (List.length s - Int.toNat i) (List.drop (Int.toNat i) s))))),
                          AV.imm
                            (IV.int IntKind.i64
                              (Prod.fst
                                (Prod.snd
                                  (A8.parse (List.take (List.length s - Int.toNat i) (List.drop (Int.toNat i) s)))))),
                          AV.imm
                            (IV.bool
                              (Prod.snd
                                (Prod.snd
                                  (A8.parse (List.take (List.length s - Int.toNat i) (List.drop (Int.toNat i) s))))))],
                      AV.ptr (3 : Nat) (0 : Nat), AV.ptr (3 : Nat) (0 : Nat), AV.ptr (3 : Nat) (0 : Nat),
                      AV.imm (IV.str s), AV.ptr (3 : Nat) (0 : Nat), AV.ptr (3 : Nat) (0 : Nat),
                      AV.ptr (3 : Nat) (1 : Nat), AV.imm (IV.int IntKind.i64 i),
                      AV.imm (IV.str (List.take (List.length s - Int.toNat i) (List.drop (Int.toNat i) s))),
                      AV.tup
                        [AV.imm
                            (IV.int IntKind.i64
                              (Prod.fst
                                (A8.parse (List.take (List.length s - Int.toNat i) (List.drop (Int.toNat i) s))))),
                          AV.imm
                            (IV.int IntKind.i64
                              (Prod.fst
                                (Prod.snd
                                  (A8.parse (List.take (List.length s - Int.toNat i) (List.drop (Int.toNat i) s)))))),
                          AV.imm
                            (IV.bool
                              (Prod.snd
                                (Prod.snd
                                  (A8.parse (List.take (List.length s - Int.toNat i) (List.drop (Int.toNat i) s))))))],
                      AV.imm
                        (IV.int IntKind.i64
                          (Prod.fst (A8.parse (List.take (List.length s - Int.toNat i) (List.drop (Int.toNat i) s))))),
                      AV.imm
                        (IV.int IntKind.i64
                          (Prod.fst
                            (Prod.snd
                              (A8.parse (List.take (List.length s - Int.toNat i) (List.drop (Int.toNat i) s)))))),
                      AV.imm
                        (IV.bool
                          (Prod.snd
                            (Prod.snd
                              (A8.parse (List.take (List.length s - Int.toNat i) (List.drop (Int.toNat i) s)))))),
                      AV.imm
                        (IV.bool
                          (Prod.snd
                            (Prod.snd
                              (A8.parse (List.take (List.length s - Int.toNat i) (List.drop (Int.toNat i) s)))))),
                      AV.ptr (3 : Nat) (0 : Nat), T (32 : Nat), T (33 : Nat), T (34 : Nat), T (35 : Nat), T (36 : Nat),
                      T (37 : Nat), T (38 : Nat), T (39 : Nat), T (40 : Nat), T (41 : Nat), T (42 : Nat), T (43 : Nat),
                      T (44 : Nat)]
                    [((0 : Nat), Ob.mk true (0 : Nat) (AObj.cells R0)),
                      ((1 : Nat), Ob.mk true (0 : Nat) (AObj.cells [AV.imm (IV.int IntKind.i64 (0 : Int))])),
                      ((2 : Nat), Ob.mk true (0 : Nat) (AObj.cells [AV.imm (IV.int IntKind.i64 (0 : Int))])),
                      ((3 : Nat), Ob.mk true (0 : Nat) (AObj.cells [AV.imm (IV.str s), AV.imm (IV.int IntKind.i64 i)])),
                      ((4 : Nat),
                        Ob.mk true (0 : Nat)
                          (AObj.cells
                            [AV.imm (IV.str a), AV.imm (IV.int IntKind.i64 o), AV.imm (IV.bool h), AV.imm (IV.str b),
                              AV.imm (IV.int IntKind.i64 p), AV.imm (IV.int IntKind.i64 k),
                              AV.imm (IV.int IntKind.i64 d), AV.imm (IV.int IntKind.i64 m),
                              AV.imm (IV.int IntKind.i64 w), AV.imm (IV.int IntKind.i64 e),
                              AV.imm (IV.int IntKind.i64 t), AV.imm (IV.int IntKind.i64 k'),
                              AV.imm (IV.int IntKind.i64 d'), AV.imm (IV.int IntKind.i64 m'),
                              AV.imm (IV.int IntKind.i64 w'), AV.imm (IV.int IntKind.i64 e'),
                              AV.imm (IV.int IntKind.i64 t')])),
                      ((5 : Nat), Ob.mk true (0 : Nat) (AObj.cells R2))]
                    (6 : Nat) OUT))
                (K AX.normal
                  (St.mk
                    [AV.ptr (3 : Nat) (0 : Nat), x, y, AV.ptr (4 : Nat) (0 : Nat), AV.ptr (5 : Nat) (0 : Nat),
                      AV.imm
                        (IV.int IntKind.i64
                          (Prod.fst (A8.parse (List.take (List.length s - Int.toNat i) (List.drop (Int.toNat i) s))))),
                      AV.imm
                        (IV.int IntKind.i64
                          (Prod.fst
                            (Prod.snd
                              (A8.parse (List.take (List.length s - Int.toNat i) (List.drop (Int.toNat i) s)))))),
                      AV.imm
                        (IV.bool
                          (Prod.snd
                            (Prod.snd
                              (A8.parse (List.take (List.length s - Int.toNat i) (List.drop (Int.toNat i) s)))))),
                      T (8 : Nat), T (9 : Nat), T (10 : Nat), T (11 : Nat), T (12 : Nat), T (13 : Nat), T (14 : Nat),
                      T (15 : Nat),
                      AV.tup
                        [AV.imm
                            (IV.int IntKind.i64
                              (Prod.fst
                                (A8.parse (List.take (List.length s - Int.toNat i) (List.drop (Int.toNat i) s))))),
                          AV.imm
                            (IV.int IntKind.i64
                              (Prod.fst
                                (Prod.snd
                                  (A8.parse (List.take (List.length s - Int.toNat i) (List.drop (Int.toNat i) s)))))),
                          AV.imm
                            (IV.bool
                              (Prod.snd
                                (Prod.snd
                                  (A8.parse (List.take (List.length s - Int.toNat i) (List.drop (Int.toNat i) s))))))],
                      AV.ptr (3 : Nat) (0 : Nat), AV.ptr (3 : Nat) (0 : Nat), AV.ptr (3 : Nat) (0 : Nat),
                      AV.imm (IV.str s), AV.ptr (3 : Nat) (0 : Nat), AV.ptr (3 : Nat) (0 : Nat),
                      AV.ptr (3 : Nat) (1 : Nat), AV.imm (IV.int IntKind.i64 i),
                      AV.imm (IV.str (List.take (List.length s - Int.toNat i) (List.drop (Int.toNat i) s))),
                      AV.tup
                        [AV.imm
                            (IV.int IntKind.i64
                              (Prod.fst
                                (A8.parse (List.take (List.length s - Int.toNat i) (List.drop (Int.toNat i) s))))),
                          AV.imm
                            (IV.int IntKind.i64
                              (Prod.fst
                                (Prod.snd
                                  (A8.parse (List.take (List.length s - Int.toNat i) (List.drop (Int.toNat i) s)))))),
                          AV.imm
                            (IV.bool
                              (Prod.snd
                                (Prod.snd
                                  (A8.parse (List.take (List.length s - Int.toNat i) (List.drop (Int.toNat i) s))))))],
                      AV.imm
                        (IV.int IntKind.i64
                          (Prod.fst (A8.parse (List.take (List.length s - Int.toNat i) (List.drop (Int.toNat i) s))))),
                      AV.imm
                        (IV.int IntKind.i64
                          (Prod.fst
                            (Prod.snd
                              (A8.parse (List.take (List.length s - Int.toNat i) (List.drop (Int.toNat i) s)))))),
                      AV.imm
                        (IV.bool
                          (Prod.snd
                            (Prod.snd
                              (A8.parse (List.take (List.length s - Int.toNat i) (List.drop (Int.toNat i) s)))))),
                      AV.imm
                        (IV.bool
                          (Prod.snd
                            (Prod.snd
                              (A8.parse (List.take (List.length s - Int.toNat i) (List.drop (Int.toNat i) s)))))),
                      AV.ptr (3 : Nat) (0 : Nat),
                      AV.imm
                        (IV.int IntKind.i64
                          (IntKind.wrap IntKind.i64
                            ((0 : Int) -
                              Prod.fst
                                (A8.parse (List.take (List.length s - Int.toNat i) (List.drop (Int.toNat i) s)))))),
                      AV.ptr (4 : Nat) (4 : Nat), T (34 : Nat), T (35 : Nat), T (36 : Nat), T (37 : Nat), T (38 : Nat),
                      T (39 : Nat), T (40 : Nat), T (41 : Nat), T (42 : Nat), T (43 : Nat), T (44 : Nat)]
                    [((0 : Nat), Ob.mk true (0 : Nat) (AObj.cells R0)),
                      ((1 : Nat), Ob.mk true (0 : Nat) (AObj.cells [AV.imm (IV.int IntKind.i64 (0 : Int))])),
                      ((2 : Nat), Ob.mk true (0 : Nat) (AObj.cells [AV.imm (IV.int IntKind.i64 (0 : Int))])),
                      ((3 : Nat),
                        Ob.mk true (0 : Nat)
                          (AObj.cells
                            [AV.imm (IV.str s),
                              AV.imm
                                (IV.int IntKind.i64
                                  (IntKind.wrap IntKind.i64
                                    (i +
                                      Prod.fst
                                        (Prod.snd
                                          (A8.parse
                                            (List.take (List.length s - Int.toNat i)
                                              (List.drop (Int.toNat i) s)))))))])),
                      ((4 : Nat),
                        Ob.mk true (0 : Nat)
                          (AObj.cells
                            [AV.imm (IV.str a), AV.imm (IV.int IntKind.i64 o), AV.imm (IV.bool h), AV.imm (IV.str b),
                              AV.imm
                                (IV.int IntKind.i64
                                  (IntKind.wrap IntKind.i64
                                    ((0 : Int) -
                                      Prod.fst
                                        (A8.parse
                                          (List.take (List.length s - Int.toNat i) (List.drop (Int.toNat i) s)))))),
                              AV.imm (IV.int IntKind.i64 k), AV.imm (IV.int IntKind.i64 d),
                              AV.imm (IV.int IntKind.i64 m), AV.imm (IV.int IntKind.i64 w),
                              AV.imm (IV.int IntKind.i64 e), AV.imm (IV.int IntKind.i64 t),
                              AV.imm (IV.int IntKind.i64 k'), AV.imm (IV.int IntKind.i64 d'),
                              AV.imm (IV.int IntKind.i64 m'), AV.imm (IV.int IntKind.i64 w'),
                              AV.imm (IV.int IntKind.i64 e'), AV.imm (IV.int IntKind.i64 t')])),
                      ((5 : Nat), Ob.mk true (0 : Nat) (AObj.cells R2))]
                    (6 : Nat) OUT)))
        (K AX.normal
          (St.mk
            [AV.ptr (3 : Nat) (0 : Nat), x, y, AV.ptr (4 : Nat) (0 : Nat), AV.ptr (5 : Nat) (0 : Nat),
              AV.imm
                (IV.int IntKind.i64
                  (Prod.fst (A8.parse (List.take (List.length s - Int.toNat i) (List.drop (Int.toNat i) s))))),
              AV.imm
                (IV.int IntKind.i64
                  (Prod.fst
                    (Prod.snd (A8.parse (List.take (List.length s - Int.toNat i) (List.drop (Int.toNat i) s)))))),
              AV.imm
                (IV.bool
                  (Prod.snd
                    (Prod.snd (A8.parse (List.take (List.length s - Int.toNat i) (List.drop (Int.toNat i) s)))))),
              T (8 : Nat), T (9 : Nat), T (10 : Nat), T (11 : Nat), T (12 : Nat), T (13 : Nat), T (14 : Nat),
              T (15 : Nat),
              AV.tup
                [AV.imm
                    (IV.int IntKind.i64
                      (Prod.fst (A8.parse (List.take (List.length s - Int.toNat i) (List.drop (Int.toNat i) s))))),
                  AV.imm
                    (IV.int IntKind.i64
                      (Prod.fst
                        (Prod.snd (A8.parse (List.take (List.length s - Int.toNat i) (List.drop (Int.toNat i) s)))))),
                  AV.imm
                    (IV.bool
                      (Prod.snd
                        (Prod.snd (A8.parse (List.take (List.length s - Int.toNat i) (List.drop (Int.toNat i) s))))))],
              AV.ptr (3 : Nat) (0 : Nat), AV.ptr (3 : Nat) (0 : Nat), AV.ptr (3 : Nat) (0 : Nat), AV.imm (IV.str s),
              AV.ptr (3 : Nat) (0 : Nat), AV.ptr (3 : Nat) (0 : Nat), AV.ptr (3 : Nat) (1 : Nat),
              AV.imm (IV.int IntKind.i64 i),
              AV.imm (IV.str (List.take (List.length s - Int.toNat i) (List.drop (Int.toNat i) s))),
              AV.tup
                [AV.imm
                    (IV.int IntKind.i64
                      (Prod.fst (A8.parse (List.take (List.length s - Int.toNat i) (List.drop (Int.toNat i) s))))),
                  AV.imm
                    (IV.int IntKind.i64
                      (Prod.fst
                        (Prod.snd (A8.parse (List.take (List.length s - Int.toNat i) (List.drop (Int.toNat i) s)))))),
                  AV.imm
                    (IV.bool
                      (Prod.snd
                        (Prod.snd (A8.parse (List.take (List.length s - Int.toNat i) (List.drop (Int.toNat i) s))))))],
              AV.imm
                (IV.int IntKind.i64
                  (Prod.fst (A8.parse (List.take (List.length s - Int.toNat i) (List.drop (Int.toNat i) s))))),
              AV.imm
                (IV.int IntKind.i64
                  (Prod.fst
                    (Prod.snd (A8.parse (List.take (List.length s - Int.toNat i) (List.drop (Int.toNat i) s)))))),
              AV.imm
                (IV.bool
                  (Prod.snd
                    (Prod.snd (A8.parse (List.take (List.length s - Int.toNat i) (List.drop (Int.toNat i) s)))))),
              AV.imm
                (IV.bool
                  (Prod.snd
                    (Prod.snd (A8.parse (List.take (List.length s - Int.toNat i) (List.drop (Int.toNat i) s)))))),
              T (31 : Nat), T (32 : Nat), T (33 : Nat), T (34 : Nat), T (35 : Nat), T (36 : Nat), T (37 : Nat),
              T (38 : Nat), T (39 : Nat), T (40 : Nat), T (41 : Nat), T (42 : Nat), T (43 : Nat), T (44 : Nat)]
            [((0 : Nat), Ob.mk true (0 : Nat) (AObj.cells R0)),
              ((1 : Nat), Ob.mk true (0 : Nat) (AObj.cells [AV.imm (IV.int IntKind.i64 (0 : Int))])),
              ((2 : Nat), Ob.mk true (0 : Nat) (AObj.cells [AV.imm (IV.int IntKind.i64 (0 : Int))])),
              ((3 : Nat), Ob.mk true (0 : Nat) (AObj.cells [AV.imm (IV.str s), AV.imm (IV.int IntKind.i64 i)])),
              ((4 : Nat),
                Ob.mk true (0 : Nat)
                  (AObj.cells
                    [AV.imm (IV.str a), AV.imm (IV.int IntKind.i64 o), AV.imm (IV.bool h), AV.imm (IV.str b),
                      AV.imm (IV.int IntKind.i64 p), AV.imm (IV.int IntKind.i64 k), AV.imm (IV.int IntKind.i64 d),
                      AV.imm (IV.int IntKind.i64 m), AV.imm (IV.int IntKind.i64 w), AV.imm (IV.int IntKind.i64 e),
                      AV.imm (IV.int IntKind.i64 t), AV.imm (IV.int IntKind.i64 k'), AV.imm (IV.int IntKind.i64 d'),
                      AV.imm (IV.int IntKind.i64 m'), AV.imm (IV.int IntKind.i64 w'), AV.imm (IV.int IntKind.i64 e'),
                      AV.imm (IV.int IntKind.i64 t')])),
              ((5 : Nat), Ob.mk true (0 : Nat) (AObj.cells R2))]
            (6 : Nat) OUT))) := by kernel_rfl
theorem d_3 (s : List
  UInt8) (i : Int) (R0 : List
  AV) (R2 : List
  AV) (a : List
  UInt8) (o : Int) (h : Bool) (b : List
  UInt8) (p : Int) (k : Int) (d : Int) (m : Int) (w : Int) (e : Int) (t : Int) (k' : Int) (d' : Int) (m' : Int) (w' : Int) (e' : Int) (t' : Int) (x : AV) (y : AV) (OUT : List
  AV) (T : Nat →
  AV) (K : AX →
  St →
    Prop) : evCode C4i (c19 [Dir.r, Dir.r, Dir.r, Dir.l])
  (S19 s i R0 (R17 a o h b p k d m w e t k' d' m' w' e' t') R2 x y OUT T) K =
  ((decide (i < (↑(List.length s) : Int)) = true → (0 : Int) ≤ i) ∧
  (decide (i < (↑(List.length s) : Int)) = true → i < (↑(List.length s) : Int)) ∧
    brn
      (!(decide (i < (↑(List.length s) : Int)) &&
          (↑(UInt8.toNat (List.getD s (Int.toNat i) (0 : UInt8))) : Int) == (44 : Int)))
      (K (AX.panic (AV.ifc (44 : Nat) (AV.agg [AV.imm (IV.int IntKind.i64 i)])))
        (St.mk
          [AV.ptr (3 : Nat) (0 : Nat), x, y, AV.ptr (4 : Nat) (0 : Nat), AV.ptr (5 : Nat) (0 : Nat), T (5 : Nat),
            T (6 : Nat), T (7 : Nat), T (8 : Nat), T (9 : Nat), T (10 : Nat), T (11 : Nat), T (12 : Nat), T (13 : Nat),
            T (14 : Nat), T (15 : Nat), T (16 : Nat), T (17 : Nat), T (18 : Nat), T (19 : Nat), T (20 : Nat),
            T (21 : Nat), T (22 : Nat), T (23 : Nat), T (24 : Nat), T (25 : Nat), T (26 : Nat), T (27 : Nat),
            T (28 : Nat), T (29 : Nat), T (30 : Nat), T (31 : Nat), T (32 : Nat), T (33 : Nat),
            AV.ptr (3 : Nat) (0 : Nat), T (35 : Nat), T (36 : Nat), T (37 : Nat), T (38 : Nat), T (39 : Nat),
            T (40 : Nat), T (41 : Nat), T (42 : Nat), T (43 : Nat), T (44 : Nat)]
          [((0 : Nat), Ob.mk true (0 : Nat) (AObj.cells R0)),
            ((1 : Nat), Ob.mk true (0 : Nat) (AObj.cells [AV.imm (IV.int IntKind.i64 (0 : Int))])),
            ((2 : Nat), Ob.mk true (0 : Nat) (AObj.cells [AV.imm (IV.int IntKind.i64 (0 : Int))])),
            ((3 : Nat), Ob.mk true (0 : Nat) (AObj.cells [AV.imm (IV.str s), AV.imm (IV.int IntKind.i64 i)])),
            ((4 : Nat),
              Ob.mk true (0 : Nat)
                (AObj.cells
                  [AV.imm (IV.str a), AV.imm (IV.int IntKind.i64 o), AV.imm (IV.bool h), AV.imm (IV.str b),
                    AV.imm (IV.int IntKind.i64 p), AV.imm (IV.int IntKind.i64 k), AV.imm (IV.int IntKind.i64 d),
                    AV.imm (IV.int IntKind.i64 m), AV.imm (IV.int IntKind.i64 w), AV.imm (IV.int IntKind.i64 e),
                    AV.imm (IV.int IntKind.i64 t), AV.imm (IV.int IntKind.i64 k'), AV.imm (IV.int IntKind.i64 d'),
                    AV.imm (IV.int IntKind.i64 m'), AV.imm (IV.int IntKind.i64 w'), AV.imm (IV.int IntKind.i64 e'),
                    AV.imm (IV.int IntKind.i64 t')])),
            ((5 : Nat), Ob.mk true (0 : Nat) (AObj.cells R2))]
          (6 : Nat) OUT))
      (K AX.normal
        (St.mk
          [AV.ptr (3 : Nat) (0 : Nat), x, y, AV.ptr (4 : Nat) (0 : Nat), AV.ptr (5 : Nat) (0 : Nat), T (5 : Nat),
            T (6 : Nat), T (7 : Nat), T (8 : Nat), T (9 : Nat), T (10 : Nat), T (11 : Nat), T (12 : Nat), T (13 : Nat),
            T (14 : Nat), T (15 : Nat), T (16 : Nat), T (17 : Nat), T (18 : Nat), T (19 : Nat), T (20 : Nat),
            T (21 : Nat), T (22 : Nat), T (23 : Nat), T (24 : Nat), T (25 : Nat), T (26 : Nat), T (27 : Nat),
            T (28 : Nat), T (29 : Nat), T (30 : Nat), T (31 : Nat), T (32 : Nat), T (33 : Nat),
            AV.ptr (3 : Nat) (0 : Nat), AV.tup [], T (36 : Nat), T (37 : Nat), T (38 : Nat), T (39 : Nat), T (40 : Nat),
            T (41 : Nat), T (42 : Nat), T (43 : Nat), T (44 : Nat)]
          [((0 : Nat), Ob.mk true (0 : Nat) (AObj.cells R0)),
            ((1 : Nat), Ob.mk true (0 : Nat) (AObj.cells [AV.imm (IV.int IntKind.i64 (0 : Int))])),
            ((2 : Nat), Ob.mk true (0 : Nat) (AObj.cells [AV.imm (IV.int IntKind.i64 (0 : Int))])),
            ((3 : Nat),
              Ob.mk true (0 : Nat)
                (AObj.cells
                  [AV.imm (IV.str s), AV.imm (IV.int IntKind.i64 (IntKind.wrap IntKind.i64 (i + (1 : Int))))])),
            ((4 : Nat),
              Ob.mk true (0 : Nat)
                (AObj.cells
                  [AV.imm (IV.str a), AV.imm (IV.int IntKind.i64 o), AV.imm (IV.bool h), AV.imm (IV.str b),
                    AV.imm (IV.int IntKind.i64 p), AV.imm (IV.int IntKind.i64 k), AV.imm (IV.int IntKind.i64 d),
                    AV.imm (IV.int IntKind.i64 m), AV.imm (IV.int IntKind.i64 w), AV.imm (IV.int IntKind.i64 e),
                    AV.imm (IV.int IntKind.i64 t), AV.imm (IV.int IntKind.i64 k'), AV.imm (IV.int IntKind.i64 d'),
                    AV.imm (IV.int IntKind.i64 m'), AV.imm (IV.int IntKind.i64 w'), AV.imm (IV.int IntKind.i64 e'),
                    AV.imm (IV.int IntKind.i64 t')])),
            ((5 : Nat), Ob.mk true (0 : Nat) (AObj.cells R2))]
          (6 : Nat) OUT))) := by kernel_rfl
theorem d_4 (s : List
  UInt8) (i : Int) (R0 : List
  AV) (R2 : List
  AV) (a : List
  UInt8) (o : Int) (h : Bool) (b : List
  UInt8) (p : Int) (k : Int) (d : Int) (m : Int) (w : Int) (e : Int) (t : Int) (k' : Int) (d' : Int) (m' : Int) (w' : Int) (e' : Int) (t' : Int) (x : AV) (y : AV) (OUT : List
  AV) (T : Nat →
  AV) (K : AX →
  St →
    Prop) : evCode C4i (c19 [Dir.r, Dir.r, Dir.r, Dir.r, Dir.l])
  (S19 s i R0 (R17 a o h b p k d m w e t k' d' m' w' e' t') R2 x y OUT T) K =
  ((0 : Int) ≤ i ∧
  i ≤ (↑(List.length s) : Int) ∧
    ((↑(List.length (List.take (List.length s - Int.toNat i) (List.drop (Int.toNat i) s))) : Int) ≤ big - (20 : Int) ∧
        brn (!Dy.ok (day (List.take (List.length s - Int.toNat i) (List.drop (Int.toNat i) s))))
            (K (AX.panic (AV.ifc (44 : Nat) (AV.agg [AV.imm (IV.int IntKind.i64 i)])))
              (St.mk
                [AV.ptr (3 : Nat) (0 : Nat), x, y, AV.ptr (4 : Nat) (0 : Nat), AV.ptr (5 : Nat) (0 : Nat), T (5 : Nat),
                  T (6 : Nat), T (7 : Nat), T (8 : Nat), T (9 : Nat), T (10 : Nat), T (11 : Nat), T (12 : Nat),
                  T (13 : Nat), T (14 : Nat), T (15 : Nat), T (16 : Nat), T (17 : Nat), T (18 : Nat), T (19 : Nat),
                  T (20 : Nat), T (21 : Nat), T (22 : Nat), T (23 : Nat), T (24 : Nat), T (25 : Nat), T (26 : Nat),
                  T (27 : Nat), T (28 : Nat), T (29 : Nat), T (30 : Nat), T (31 : Nat), T (32 : Nat), T (33 : Nat),
                  T (34 : Nat), T (35 : Nat), AV.ptr (3 : Nat) (0 : Nat), T (37 : Nat), T (38 : Nat), T (39 : Nat),
                  T (40 : Nat), T (41 : Nat), T (42 : Nat), T (43 : Nat), T (44 : Nat)]
                [((0 : Nat), Ob.mk true (0 : Nat) (AObj.cells R0)),
                  ((1 : Nat), Ob.mk true (0 : Nat) (AObj.cells [AV.imm (IV.int IntKind.i64 (0 : Int))])),
                  ((2 : Nat), Ob.mk true (0 : Nat) (AObj.cells [AV.imm (IV.int IntKind.i64 (0 : Int))])),
                  ((3 : Nat), Ob.mk true (0 : Nat) (AObj.cells [AV.imm (IV.str s), AV.imm (IV.int IntKind.i64 i)])),
                  ((4 : Nat),
                    Ob.mk true (0 : Nat)
                      (AObj.cells
                        [AV.imm (IV.str a), AV.imm (IV.int IntKind.i64 o), AV.imm (IV.bool h), AV.imm (IV.str b),
                          AV.imm (IV.int IntKind.i64 p), AV.imm (IV.int IntKind.i64 k), AV.imm (IV.int IntKind.i64 d),
                          AV.imm (IV.int IntKind.i64 m), AV.imm (IV.int IntKind.i64 w), AV.imm (IV.int IntKind.i64 e),
                          AV.imm (IV.int IntKind.i64 t), AV.imm (IV.int IntKind.i64 k'), AV.imm (IV.int IntKind.i64 d'),
                          AV.imm (IV.int IntKind.i64 m'), AV.imm (IV.int IntKind.i64 w'),
                          AV.imm (IV.int IntKind.i64 e'), AV.imm (IV.int IntKind.i64 t')])),
                  ((5 : Nat), Ob.mk true (0 : Nat) (AObj.cells R2)),
                  ((6 : Nat),
                    Ob.mk true (0 : Nat)
                      (AObj.cells
                        [AV.imm (IV.int IntKind.i64 (0 : Int)), AV.imm (IV.int IntKind.i64 (0 : Int)),
                          AV.imm (IV.int IntKind.i64 (0 : Int)), AV.imm (IV.int IntKind.i64 (0 : Int)),
                          AV.imm (IV.int IntKind.i64 (0 : Int)), AV.imm (IV.int IntKind.i64 (0 : Int))])),
                  ((7 : Nat),
                    Ob.mk true (0 : Nat)
                      (AObj.cells
                        [AV.imm
                            (IV.int IntKind.i64
                              (Dy.k (day (List.take (List.length s - Int.toNat i) (List.drop (Int.toNat i) s))))),
                          AV.imm
                            (IV.int IntKind.i64
                              (Dy.d (day (List.take (List.length s - Int.toNat i) (List.drop (Int.toNat i) s))))),
                          AV.imm
                            (IV.int IntKind.i64
                              (Dy.m (day (List.take (List.length s - Int.toNat i) (List.drop (Int.toNat i) s))))),
                          AV.imm
                            (IV.int IntKind.i64
                              (Dy.w (day (List.take (List.length s - Int.toNat i) (List.drop (Int.toNat i) s))))),
                          AV.imm
                            (IV.int IntKind.i64
                              (Dy.e (day (List.take (List.length s - Int.toNat i) (List.drop (Int.toNat i) s))))),
                          AV.imm
                            (IV.int IntKind.i64
                              (Dy.t (day (List.take (List.length s - Int.toNat i) (List.drop (Int.toNat i) s)))))]))]
                (8 : Nat) OUT))
            (K AX.normal
              (St.mk
                [AV.ptr (3 : Nat) (0 : Nat), x, y, AV.ptr (4 : Nat) (0 : Nat), AV.ptr (5 : Nat) (0 : Nat), T (5 : Nat),
                  T (6 : Nat), T (7 : Nat), T (8 : Nat), T (9 : Nat), T (10 : Nat), T (11 : Nat), T (12 : Nat),
                  T (13 : Nat), T (14 : Nat), T (15 : Nat), T (16 : Nat), T (17 : Nat), T (18 : Nat), T (19 : Nat),
                  T (20 : Nat), T (21 : Nat), T (22 : Nat), T (23 : Nat), T (24 : Nat), T (25 : Nat), T (26 : Nat),
                  T (27 : Nat), T (28 : Nat), T (29 : Nat), T (30 : Nat), T (31 : Nat), T (32 : Nat), T (33 : Nat),
                  T (34 : Nat), T (35 : Nat), AV.ptr (3 : Nat) (0 : Nat),
                  AV.agg
                    [AV.imm
                        (IV.int IntKind.i64
                          (Dy.k (day (List.take (List.length s - Int.toNat i) (List.drop (Int.toNat i) s))))),
                      AV.imm
                        (IV.int IntKind.i64
                          (Dy.d (day (List.take (List.length s - Int.toNat i) (List.drop (Int.toNat i) s))))),
                      AV.imm
                        (IV.int IntKind.i64
                          (Dy.m (day (List.take (List.length s - Int.toNat i) (List.drop (Int.toNat i) s))))),
                      AV.imm
                        (IV.int IntKind.i64
                          (Dy.w (day (List.take (List.length s - Int.toNat i) (List.drop (Int.toNat i) s))))),
                      AV.imm
                        (IV.int IntKind.i64
                          (Dy.e (day (List.take (List.length s - Int.toNat i) (List.drop (Int.toNat i) s))))),
                      AV.imm
                        (IV.int IntKind.i64
                          (Dy.t (day (List.take (List.length s - Int.toNat i) (List.drop (Int.toNat i) s)))))],
                  AV.ptr (4 : Nat) (5 : Nat), T (39 : Nat), T (40 : Nat), T (41 : Nat), T (42 : Nat), T (43 : Nat),
                  T (44 : Nat)]
                [((0 : Nat), Ob.mk true (0 : Nat) (AObj.cells R0)),
                  ((1 : Nat), Ob.mk true (0 : Nat) (AObj.cells [AV.imm (IV.int IntKind.i64 (0 : Int))])),
                  ((2 : Nat), Ob.mk true (0 : Nat) (AObj.cells [AV.imm (IV.int IntKind.i64 (0 : Int))])),
                  ((3 : Nat),
                    Ob.mk true (0 : Nat)
                      (AObj.cells
                        [AV.imm (IV.str s),
                          AV.imm
                            (IV.int IntKind.i64
                              (IntKind.wrap IntKind.i64
                                (i +
                                  Dy.n
                                    (day (List.take (List.length s - Int.toNat i) (List.drop (Int.toNat i) s))))))])),
                  ((4 : Nat),
                    Ob.mk true (0 : Nat)
                      (AObj.cells
                        [AV.imm (IV.str a), AV.imm (IV.int IntKind.i64 o), AV.imm (IV.bool h), AV.imm (IV.str b),
                          AV.imm (IV.int IntKind.i64 p),
                          AV.imm
                            (IV.int IntKind.i64
                              (Dy.k (day (List.take (List.length s - Int.toNat i) (List.drop (Int.toNat i) s))))),
                          AV.imm
                            (IV.int IntKind.i64
                              (Dy.d (day (List.take (List.length s - Int.toNat i) (List.drop (Int.toNat i) s))))),
                          AV.imm
                            (IV.int IntKind.i64
                              (Dy.m (day (List.take (List.length s - Int.toNat i) (List.drop (Int.toNat i) s))))),
                          AV.imm
                            (IV.int IntKind.i64
                              (Dy.w (day (List.take (List.length s - Int.toNat i) (List.drop (Int.toNat i) s))))),
                          AV.imm
                            (IV.int IntKind.i64
                              (Dy.e (day (List.take (List.length s - Int.toNat i) (List.drop (Int.toNat i) s))))),
                          AV.imm
                            (IV.int IntKind.i64
                              (Dy.t (day (List.take (List.length s - Int.toNat i) (List.drop (Int.toNat i) s))))),
                          AV.imm (IV.int IntKind.i64 k'), AV.imm (IV.int IntKind.i64 d'),
                          AV.imm (IV.int IntKind.i64 m'), AV.imm (IV.int IntKind.i64 w'),
                          AV.imm (IV.int IntKind.i64 e'), AV.imm (IV.int IntKind.i64 t')])),
                  ((5 : Nat), Ob.mk true (0 : Nat) (AObj.cells R2)),
                  ((6 : Nat),
                    Ob.mk true (0 : Nat)
                      (AObj.cells
                        [AV.imm
                            (IV.int IntKind.i64
                              (Dy.k (day (List.take (List.length s - Int.toNat i) (List.drop (Int.toNat i) s))))),
                          AV.imm
                            (IV.int IntKind.i64
                              (Dy.d (day (List.take (List.length s - Int.toNat i) (List.drop (Int.toNat i) s))))),
                          AV.imm
                            (IV.int IntKind.i64
                              (Dy.m (day (List.take (List.length s - Int.toNat i) (List.drop (Int.toNat i) s))))),
                          AV.imm
                            (IV.int IntKind.i64
                              (Dy.w (day (List.take (List.length s - Int.toNat i) (List.drop (Int.toNat i) s))))),
                          AV.imm
                            (IV.int IntKind.i64
                              (Dy.e (day (List.take (List.length s - Int.toNat i) (List.drop (Int.toNat i) s))))),
                          AV.imm
                            (IV.int IntKind.i64
                              (Dy.t (day (List.take (List.length s - Int.toNat i) (List.drop (Int.toNat i) s)))))])),
                  ((7 : Nat),
                    Ob.mk true (0 : Nat)
                      (AObj.cells
                        [AV.imm
                            (IV.int IntKind.i64
                              (Dy.k (day (List.take (List.length s - Int.toNat i) (List.drop (Int.toNat i) s))))),
                          AV.imm
                            (IV.int IntKind.i64
                              (Dy.d (day (List.take (List.length s - Int.toNat i) (List.drop (Int.toNat i) s))))),
                          AV.imm
                            (IV.int IntKind.i64
                              (Dy.m (day (List.take (List.length s - Int.toNat i) (List.drop (Int.toNat i) s))))),
                          AV.imm
                            (IV.int IntKind.i64
                              (Dy.w (day (List.take (List.length s - Int.toNat i) (List.drop (Int.toNat i) s))))),
                          AV.imm
                            (IV.int IntKind.i64
                              (Dy.e (day (List.take (List.length s - Int.toNat i) (List.drop (Int.toNat i) s))))),
                          AV.imm
                            (IV.int IntKind.i64
                              (Dy.t (day (List.take (List.length s - Int.toNat i) (List.drop (Int.toNat i) s)))))]))]
                (8 : Nat) OUT)) ∧
          brn (!Dy.ok (day (List.take (List.length s - Int.toNat i) (List.drop (Int.toNat i) s))))
            (K (AX.panic (AV.ifc (44 : Nat) (AV.agg [AV.imm (IV.int IntKind.i64 i)])))
              (St.mk
                [AV.ptr (3 : Nat) (0 : Nat), x, y, AV.ptr (4 : Nat) (0 : Nat), AV.ptr (5 : Nat) (0 : Nat), T (5 : Nat),
                  T (6 : Nat), T (7 : Nat), T (8 : Nat), T (9 : Nat), T (10 : Nat), T (11 : Nat), T (12 : Nat),
                  T (13 : Nat), T (14 : Nat), T (15 : Nat), T (16 : Nat), T (17 : Nat), T (18 : Nat), T (19 : Nat),
                  T (20 : Nat), T (21 : Nat), T (22 : Nat), T (23 : Nat), T (24 : Nat), T (25 : Nat), T (26 : Nat),
                  T (27 : Nat), T (28 : Nat), T (29 : Nat), T (30 : Nat), T (31 : Nat), T (32 : Nat), T (33 : Nat),
                  T (34 : Nat), T (35 : Nat), AV.ptr (3 : Nat) (0 : Nat), T (37 : Nat), T (38 : Nat), T (39 : Nat),
                  T (40 : Nat), T (41 : Nat), T (42 : Nat), T (43 : Nat), T (44 : Nat)]
                [((0 : Nat), Ob.mk true (0 : Nat) (AObj.cells R0)),
                  ((1 : Nat), Ob.mk true (0 : Nat) (AObj.cells [AV.imm (IV.int IntKind.i64 (0 : Int))])),
                  ((2 : Nat), Ob.mk true (0 : Nat) (AObj.cells [AV.imm (IV.int IntKind.i64 (0 : Int))])),
                  ((3 : Nat), Ob.mk true (0 : Nat) (AObj.cells [AV.imm (IV.str s), AV.imm (IV.int IntKind.i64 i)])),
                  ((4 : Nat),
                    Ob.mk true (0 : Nat)
                      (AObj.cells
                        [AV.imm (IV.str a), AV.imm (IV.int IntKind.i64 o), AV.imm (IV.bool h), AV.imm (IV.str b),
                          AV.imm (IV.int IntKind.i64 p), AV.imm (IV.int IntKind.i64 k), AV.imm (IV.int IntKind.i64 d),
                          AV.imm (IV.int IntKind.i64 m), AV.imm (IV.int IntKind.i64 w), AV.imm (IV.int IntKind.i64 e),
                          AV.imm (IV.int IntKind.i64 t), AV.imm (IV.int IntKind.i64 k'), AV.imm (IV.int IntKind.i64 d'),
                          AV.imm (IV.int IntKind.i64 m'), AV.imm (IV.int IntKind.i64 w'),
                          AV.imm (IV.int IntKind.i64 e'), AV.imm (IV.int IntKind.i64 t')])),
                  ((5 : Nat), Ob.mk true (0 : Nat) (AObj.cells R2)),
                  ((6 : Nat),
                    Ob.mk true (0 : Nat)
                      (AObj.cells
                        [AV.imm (IV.int IntKind.i64 (0 : Int)), AV.imm (IV.int IntKind.i64 (0 : Int)),
                          AV.imm (IV.int IntKind.i64 (0 : Int)), AV.imm (IV.int IntKind.i64 (0 : Int)),
                          AV.imm (IV.int IntKind.i64 (0 : Int)), AV.imm (IV.int IntKind.i64 (0 : Int))])),
                  ((7 : Nat),
                    Ob.mk true (0 : Nat)
                      (AObj.cells
                        [AV.imm
                            (IV.int IntKind.i64
                              (Dy.k (day (List.take (List.length s - Int.toNat i) (List.drop (Int.toNat i) s))))),
                          AV.imm
                            (IV.int IntKind.i64
                              (Dy.d (day (List.take (List.length s - Int.toNat i) (List.drop (Int.toNat i) s))))),
                          AV.imm
                            (IV.int IntKind.i64
                              (Dy.m (day (List.take (List.length s - Int.toNat i) (List.drop (Int.toNat i) s))))),
                          AV.imm
                            (IV.int IntKind.i64
                              (Dy.w (day (List.take (List.length s - Int.toNat i) (List.drop (Int.toNat i) s))))),
                          AV.imm
                            (IV.int IntKind.i64
                              (Dy.e (day (List.take (List.length s - Int.toNat i) (List.drop (Int.toNat i) s))))),
                          AV.imm
                            (IV.int IntKind.i64
                              (Dy.t (day (List.take (List.length s - Int.toNat i) (List.drop (Int.toNat i) s)))))]))]
                (8 : Nat) OUT))
            (K AX.normal
              (St.mk
                [AV.ptr (3 : Nat) (0 : Nat), x, y, AV.ptr (4 : Nat) (0 : Nat), AV.ptr (5 : Nat) (0 : Nat), T (5 : Nat),
                  T (6 : Nat), T (7 : Nat), T (8 : Nat), T (9 : Nat), T (10 : Nat), T (11 : Nat), T (12 : Nat),
                  T (13 : Nat), T (14 : Nat), T (15 : Nat), T (16 : Nat), T (17 : Nat), T (18 : Nat), T (19 : Nat),
                  T (20 : Nat), T (21 : Nat), T (22 : Nat), T (23 : Nat), T (24 : Nat), T (25 : Nat), T (26 : Nat),
                  T (27 : Nat), T (28 : Nat), T (29 : Nat), T (30 : Nat), T (31 : Nat), T (32 : Nat), T (33 : Nat),
                  T (34 : Nat), T (35 : Nat), AV.ptr (3 : Nat) (0 : Nat),
                  AV.agg
                    [AV.imm
                        (IV.int IntKind.i64
                          (Dy.k (day (List.take (List.length s - Int.toNat i) (List.drop (Int.toNat i) s))))),
                      AV.imm
                        (IV.int IntKind.i64
                          (Dy.d (day (List.take (List.length s - Int.toNat i) (List.drop (Int.toNat i) s))))),
                      AV.imm
                        (IV.int IntKind.i64
                          (Dy.m (day (List.take (List.length s - Int.toNat i) (List.drop (Int.toNat i) s))))),
                      AV.imm
                        (IV.int IntKind.i64
                          (Dy.w (day (List.take (List.length s - Int.toNat i) (List.drop (Int.toNat i) s))))),
                      AV.imm
                        (IV.int IntKind.i64
                          (Dy.e (day (List.take (List.length s - Int.toNat i) (List.drop (Int.toNat i) s))))),
                      AV.imm
                        (IV.int IntKind.i64
                          (Dy.t (day (List.take (List.length s - Int.toNat i) (List.drop (Int.toNat i) s)))))],
                  AV.ptr (4 : Nat) (5 : Nat), T (39 : Nat), T (40 : Nat), T (41 : Nat), T (42 : Nat), T (43 : Nat),
                  T (44 : Nat)]
                [((0 : Nat), Ob.mk true (0 : Nat) (AObj.cells R0)),
                  ((1 : Nat), Ob.mk true (0 : Nat) (AObj.cells [AV.imm (IV.int IntKind.i64 (0 : Int))])),
                  ((2 : Nat), Ob.mk true (0 : Nat) (AObj.cells [AV.imm (IV.int IntKind.i64 (0 : Int))])),
                  ((3 : Nat),
                    Ob.mk true (0 : Nat)
                      (AObj.cells
                        [AV.imm (IV.str s),
                          AV.imm
                            (IV.int IntKind.i64
                              (IntKind.wrap IntKind.i64
                                (i +
                                  Dy.n
                                    (day (List.take (List.length s - Int.toNat i) (List.drop (Int.toNat i) s))))))])),
                  ((4 : Nat),
                    Ob.mk true (0 : Nat)
                      (AObj.cells
                        [AV.imm (IV.str a), AV.imm (IV.int IntKind.i64 o), AV.imm (IV.bool h), AV.imm (IV.str b),
                          AV.imm (IV.int IntKind.i64 p),
                          AV.imm
                            (IV.int IntKind.i64
                              (Dy.k (day (List.take (List.length s - Int.toNat i) (List.drop (Int.toNat i) s))))),
                          AV.imm
                            (IV.int IntKind.i64
                              (Dy.d (day (List.take (List.length s - Int.toNat i) (List.drop (Int.toNat i) s))))),
                          AV.imm
                            (IV.int IntKind.i64
                              (Dy.m (day (List.take (List.length s - Int.toNat i) (List.drop (Int.toNat i) s))))),
                          AV.imm
                            (IV.int IntKind.i64
                              (Dy.w (day (List.take (List.length s - Int.toNat i) (List.drop (Int.toNat i) s))))),
                          AV.imm
                            (IV.int IntKind.i64
                              (Dy.e (day (List.take (List.length s - Int.toNat i) (List.drop (Int.toNat i) s))))),
                          AV.imm
                            (IV.int IntKind.i64
                              (Dy.t (day (List.take (List.length s - Int.toNat i) (List.drop (Int.toNat i) s))))),
                          AV.imm (IV.int IntKind.i64 k'), AV.imm (IV.int IntKind.i64 d'),
                          AV.imm (IV.int IntKind.i64 m'), AV.imm (IV.int IntKind.i64 w'),
                          AV.imm (IV.int IntKind.i64 e'), AV.imm (IV.int IntKind.i64 t')])),
                  ((5 : Nat), Ob.mk true (0 : Nat) (AObj.cells R2)),
                  ((6 : Nat),
                    Ob.mk true (0 : Nat)
                      (AObj.cells
                        [AV.imm
                            (IV.int IntKind.i64
                              (Dy.k (day (List.take (List.length s - Int.toNat i) (List.drop (Int.toNat i) s))))),
                          AV.imm
                            (IV.int IntKind.i64
                              (Dy.d (day (List.take (List.length s - Int.toNat i) (List.drop (Int.toNat i) s))))),
                          AV.imm
                            (IV.int IntKind.i64
                              (Dy.m (day (List.take (List.length s - Int.toNat i) (List.drop (Int.toNat i) s))))),
                          AV.imm
                            (IV.int IntKind.i64
                              (Dy.w (day (List.take (List.length s - Int.toNat i) (List.drop (Int.toNat i) s))))),
                          AV.imm
                            (IV.int IntKind.i64
                              (Dy.e (day (List.take (List.length s - Int.toNat i) (List.drop (Int.toNat i) s))))),
                          AV.imm
                            (IV.int IntKind.i64
                              (Dy.t (day (List.take (List.length s - Int.toNat i) (List.drop (Int.toNat i) s)))))])),
                  ((7 : Nat),
                    Ob.mk true (0 : Nat)
                      (AObj.cells
                        [AV.imm
                            (IV.int IntKind.i64
                              (Dy.k (day (List.take (List.length s - Int.toNat i) (List.drop (Int.toNat i) s))))),
                          AV.imm
                            (IV.int IntKind.i64
                              (Dy.d (day (List.take (List.length s - Int.toNat i) (List.drop (Int.toNat i) s))))),
                          AV.imm
                            (IV.int IntKind.i64
                              (Dy.m (day (List.take (List.length s - Int.toNat i) (List.drop (Int.toNat i) s))))),
                          AV.imm
                            (IV.int IntKind.i64
                              (Dy.w (day (List.take (List.length s - Int.toNat i) (List.drop (Int.toNat i) s))))),
                          AV.imm
                            (IV.int IntKind.i64
                              (Dy.e (day (List.take (List.length s - Int.toNat i) (List.drop (Int.toNat i) s))))),
                          AV.imm
                            (IV.int IntKind.i64
                              (Dy.t (day (List.take (List.length s - Int.toNat i) (List.drop (Int.toNat i) s)))))]))]
                (8 : Nat) OUT))) ∧
      (↑(List.length (List.take (List.length s - Int.toNat i) (List.drop (Int.toNat i) s))) : Int) ≤ big - (20 : Int) ∧
        brn (!Dy.ok (day (List.take (List.length s - Int.toNat i) (List.drop (Int.toNat i) s))))
          (K (AX.panic (AV.ifc (44 : Nat) (AV.agg [AV.imm (IV.int IntKind.i64 i)])))
            (St.mk
              [AV.ptr (3 : Nat) (0 : Nat), x, y, AV.ptr (4 : Nat) (0 : Nat), AV.ptr (5 : Nat) (0 : Nat), T (5 : Nat),
                T (6 : Nat), T (7 : Nat), T (8 : Nat), T (9 : Nat), T (10 : Nat), T (11 : Nat), T (12 : Nat),
                T (13 : Nat), T (14 : Nat), T (15 : Nat), T (16 : Nat), T (17 : Nat), T (18 : Nat), T (19 : Nat),
                T (20 : Nat), T (21 : Nat), T (22 : Nat), T (23 : Nat), T (24 : Nat), T (25 : Nat), T (26 : Nat),
                T (27 : Nat), T (28 : Nat), T (29 : Nat), T (30 : Nat), T (31 : Nat), T (32 : Nat), T (33 : Nat),
                T (34 : Nat), T (35 : Nat), AV.ptr (3 : Nat) (0 : Nat), T (37 : Nat), T (38 : Nat), T (39 : Nat),
                T (40 : Nat), T (41 : Nat), T (42 : Nat), T (43 : Nat), T (44 : Nat)]
              [((0 : Nat), Ob.mk true (0 : Nat) (AObj.cells R0)),
                ((1 : Nat), Ob.mk true (0 : Nat) (AObj.cells [AV.imm (IV.int IntKind.i64 (0 : Int))])),
                ((2 : Nat), Ob.mk true (0 : Nat) (AObj.cells [AV.imm (IV.int IntKind.i64 (0 : Int))])),
                ((3 : Nat), Ob.mk true (0 : Nat) (AObj.cells [AV.imm (IV.str s), AV.imm (IV.int IntKind.i64 i)])),
                ((4 : Nat),
                  Ob.mk true (0 : Nat)
                    (AObj.cells
                      [AV.imm (IV.str a), AV.imm (IV.int IntKind.i64 o), AV.imm (IV.bool h), AV.imm (IV.str b),
                        AV.imm (IV.int IntKind.i64 p), AV.imm (IV.int IntKind.i64 k), AV.imm (IV.int IntKind.i64 d),
                        AV.imm (IV.int IntKind.i64 m), AV.imm (IV.int IntKind.i64 w), AV.imm (IV.int IntKind.i64 e),
                        AV.imm (IV.int IntKind.i64 t), AV.imm (IV.int IntKind.i64 k'), AV.imm (IV.int IntKind.i64 d'),
                        AV.imm (IV.int IntKind.i64 m'), AV.imm (IV.int IntKind.i64 w'), AV.imm (IV.int IntKind.i64 e'),
                        AV.imm (IV.int IntKind.i64 t')])),
                ((5 : Nat), Ob.mk true (0 : Nat) (AObj.cells R2)),
                ((6 : Nat),
                  Ob.mk true (0 : Nat)
                    (AObj.cells
                      [AV.imm (IV.int IntKind.i64 (0 : Int)), AV.imm (IV.int IntKind.i64 (0 : Int)),
                        AV.imm (IV.int IntKind.i64 (0 : Int)), AV.imm (IV.int IntKind.i64 (0 : Int)),
                        AV.imm (IV.int IntKind.i64 (0 : Int)), AV.imm (IV.int IntKind.i64 (0 : Int))])),
                ((7 : Nat),
                  Ob.mk true (0 : Nat)
                    (AObj.cells
                      [AV.imm
                          (IV.int IntKind.i64
                            (Dy.k (day (List.take (List.length s - Int.toNat i) (List.drop (Int.toNat i) s))))),
                        AV.imm
                          (IV.int IntKind.i64
                            (Dy.d (day (List.take (List.length s - Int.toNat i) (List.drop (Int.toNat i) s))))),
                        AV.imm
                          (IV.int IntKind.i64
                            (Dy.m (day (List.take (List.length s - Int.toNat i) (List.drop (Int.toNat i) s))))),
                        AV.imm
                          (IV.int IntKind.i64
                            (Dy.w (day (List.take (List.length s - Int.toNat i) (List.drop (Int.toNat i) s))))),
                        AV.imm
                          (IV.int IntKind.i64
                            (Dy.e (day (List.take (List.length s - Int.toNat i) (List.drop (Int.toNat i) s))))),
                        AV.imm
                          (IV.int IntKind.i64
                            (Dy.t (day (List.take (List.length s - Int.toNat i) (List.drop (Int.toNat i) s)))))]))]
              (8 : Nat) OUT))
          (K AX.normal
            (St.mk
              [AV.ptr (3 : Nat) (0 : Nat), x, y, AV.ptr (4 : Nat) (0 : Nat), AV.ptr (5 : Nat) (0 : Nat), T (5 : Nat),
                T (6 : Nat), T (7 : Nat), T (8 : Nat), T (9 : Nat), T (10 : Nat), T (11 : Nat), T (12 : Nat),
                T (13 : Nat), T (14 : Nat), T (15 : Nat), T (16 : Nat), T (17 : Nat), T (18 : Nat), T (19 : Nat),
                T (20 : Nat), T (21 : Nat), T (22 : Nat), T (23 : Nat), T (24 : Nat), T (25 : Nat), T (26 : Nat),
                T (27 : Nat), T (28 : Nat), T (29 : Nat), T (30 : Nat), T (31 : Nat), T (32 : Nat), T (33 : Nat),
                T (34 : Nat), T (35 : Nat), AV.ptr (3 : Nat) (0 : Nat),
                AV.agg
                  [AV.imm
                      (IV.int IntKind.i64
                        (Dy.k (day (List.take (List.length s - Int.toNat i) (List.drop (Int.toNat i) s))))),
                    AV.imm
                      (IV.int IntKind.i64
                        (Dy.d (day (List.take (List.length s - Int.toNat i) (List.drop (Int.toNat i) s))))),
                    AV.imm
                      (IV.int IntKind.i64
                        (Dy.m (day (List.take (List.length s - Int.toNat i) (List.drop (Int.toNat i) s))))),
                    AV.imm
                      (IV.int IntKind.i64
                        (Dy.w (day (List.take (List.length s - Int.toNat i) (List.drop (Int.toNat i) s))))),
                    AV.imm
                      (IV.int IntKind.i64
                        (Dy.e (day (List.take (List.length s - Int.toNat i) (List.drop (Int.toNat i) s))))),
                    AV.imm
                      (IV.int IntKind.i64
                        (Dy.t (day (List.take (List.length s - Int.toNat i) (List.drop (Int.toNat i) s)))))],
                AV.ptr (4 : Nat) (5 : Nat), T (39 : Nat), T (40 : Nat), T (41 : Nat), T (42 : Nat), T (43 : Nat),
                T (44 : Nat)]
              [((0 : Nat), Ob.mk true (0 : Nat) (AObj.cells R0)),
                ((1 : Nat), Ob.mk true (0 : Nat) (AObj.cells [AV.imm (IV.int IntKind.i64 (0 : Int))])),
                ((2 : Nat), Ob.mk true (0 : Nat) (AObj.cells [AV.imm (IV.int IntKind.i64 (0 : Int))])),
                ((3 : Nat),
                  Ob.mk true (0 : Nat)
                    (AObj.cells
                      [AV.imm (IV.str s),
                        AV.imm
                          (IV.int IntKind.i64
                            (IntKind.wrap IntKind.i64
                              (i +
                                Dy.n (day (List.take (List.length s - Int.toNat i) (List.drop (Int.toNat i) s))))))])),
                ((4 : Nat),
                  Ob.mk true (0 : Nat)
                    (AObj.cells
                      [AV.imm (IV.str a), AV.imm (IV.int IntKind.i64 o), AV.imm (IV.bool h), AV.imm (IV.str b),
                        AV.imm (IV.int IntKind.i64 p),
                        AV.imm
                          (IV.int IntKind.i64
                            (Dy.k (day (List.take (List.length s - Int.toNat i) (List.drop (Int.toNat i) s))))),
                        AV.imm
                          (IV.int IntKind.i64
                            (Dy.d (day (List.take (List.length s - Int.toNat i) (List.drop (Int.toNat i) s))))),
                        AV.imm
                          (IV.int IntKind.i64
                            (Dy.m (day (List.take (List.length s - Int.toNat i) (List.drop (Int.toNat i) s))))),
                        AV.imm
                          (IV.int IntKind.i64
                            (Dy.w (day (List.take (List.length s - Int.toNat i) (List.drop (Int.toNat i) s))))),
                        AV.imm
                          (IV.int IntKind.i64
                            (Dy.e (day (List.take (List.length s - Int.toNat i) (List.drop (Int.toNat i) s))))),
                        AV.imm
                          (IV.int IntKind.i64
                            (Dy.t (day (List.take (List.length s - Int.toNat i) (List.drop (Int.toNat i) s))))),
                        AV.imm (IV.int IntKind.i64 k'), AV.imm (IV.int IntKind.i64 d'), AV.imm (IV.int IntKind.i64 m'),
                        AV.imm (IV.int IntKind.i64 w'), AV.imm (IV.int IntKind.i64 e'),
                        AV.imm (IV.int IntKind.i64 t')])),
                ((5 : Nat), Ob.mk true (0 : Nat) (AObj.cells R2)),
                ((6 : Nat),
                  Ob.mk true (0 : Nat)
                    (AObj.cells
                      [AV.imm
                          (IV.int IntKind.i64
                            (Dy.k (day (List.take (List.length s - Int.toNat i) (List.drop (Int.toNat i) s))))),
                        AV.imm
                          (IV.int IntKind.i64
                            (Dy.d (day (List.take (List.length s - Int.toNat i) (List.drop (Int.toNat i) s))))),
                        AV.imm
                          (IV.int IntKind.i64
                            (Dy.m (day (List.take (List.length s - Int.toNat i) (List.drop (Int.toNat i) s))))),
                        AV.imm
                          (IV.int IntKind.i64
                            (Dy.w (day (List.take (List.length s - Int.toNat i) (List.drop (Int.toNat i) s))))),
                        AV.imm
                          (IV.int IntKind.i64
                            (Dy.e (day (List.take (List.length s - Int.toNat i) (List.drop (Int.toNat i) s))))),
                        AV.imm
                          (IV.int IntKind.i64
                            (Dy.t (day (List.take (List.length s - Int.toNat i) (List.drop (Int.toNat i) s)))))])),
                ((7 : Nat),
                  Ob.mk true (0 : Nat)
                    (AObj.cells
                      [AV.imm
                          (IV.int IntKind.i64
                            (Dy.k (day (List.take (List.length s - Int.toNat i) (List.drop (Int.toNat i) s))))),
                        AV.imm
                          (IV.int IntKind.i64
                            (Dy.d (day (List.take (List.length s - Int.toNat i) (List.drop (Int.toNat i) s))))),
                        AV.imm
                          (IV.int IntKind.i64
                            (Dy.m (day (List.take (List.length s - Int.toNat i) (List.drop (Int.toNat i) s))))),
                        AV.imm
                          (IV.int IntKind.i64
                            (Dy.w (day (List.take (List.length s - Int.toNat i) (List.drop (Int.toNat i) s))))),
                        AV.imm
                          (IV.int IntKind.i64
                            (Dy.e (day (List.take (List.length s - Int.toNat i) (List.drop (Int.toNat i) s))))),
                        AV.imm
                          (IV.int IntKind.i64
                            (Dy.t (day (List.take (List.length s - Int.toNat i) (List.drop (Int.toNat i) s)))))]))]
              (8 : Nat) OUT))) := by kernel_rfl
theorem d_5 (s : List
  UInt8) (i : Int) (R0 : List
  AV) (R2 : List
  AV) (a : List
  UInt8) (o : Int) (h : Bool) (b : List
  UInt8) (p : Int) (k : Int) (d : Int) (m : Int) (w : Int) (e : Int) (t : Int) (k' : Int) (d' : Int) (m' : Int) (w' : Int) (e' : Int) (t' : Int) (x : AV) (y : AV) (OUT : List
  AV) (X : List
  AV) (Y : List
  AV) (T : Nat →
  AV) (K : AX →
  St →
    Prop) : evCode C4i (c19 [Dir.r, Dir.r, Dir.r, Dir.r, Dir.r, Dir.l])
  (S19b s i R0 (R17 a o h b p k d m w e t k' d' m' w' e' t') R2 x y OUT X Y T) K =
  ((decide (i < (↑(List.length s) : Int)) = true → (0 : Int) ≤ i) ∧
  (decide (i < (↑(List.length s) : Int)) = true → i < (↑(List.length s) : Int)) ∧
    brn
      (!(decide (i < (↑(List.length s) : Int)) &&
          (↑(UInt8.toNat (List.getD s (Int.toNat i) (0 : UInt8))) : Int) == (44 : Int)))
      (K (AX.panic (AV.ifc (44 : Nat) (AV.agg [AV.imm (IV.int IntKind.i64 i)])))
        (St.mk
          [AV.ptr (3 : Nat) (0 : Nat), x, y, AV.ptr (4 : Nat) (0 : Nat), AV.ptr (5 : Nat) (0 : Nat), T (5 : Nat),
            T (6 : Nat), T (7 : Nat), T (8 : Nat), T (9 : Nat), T (10 : Nat), T (11 : Nat), T (12 : Nat), T (13 : Nat),
            T (14 : Nat), T (15 : Nat), T (16 : Nat), T (17 : Nat), T (18 : Nat), T (19 : Nat), T (20 : Nat),
            T (21 : Nat), T (22 : Nat), T (23 : Nat), T (24 : Nat), T (25 : Nat), T (26 : Nat), T (27 : Nat),
            T (28 : Nat), T (29 : Nat), T (30 : Nat), T (31 : Nat), T (32 : Nat), T (33 : Nat), T (34 : Nat),
            T (35 : Nat), T (36 : Nat), T (37 : Nat), T (38 : Nat), AV.ptr (3 : Nat) (0 : Nat), T (40 : Nat),
            T (41 : Nat), T (42 : Nat), T (43 : Nat), T (44 : Nat)]
          [((0 : Nat), Ob.mk true (0 : Nat) (AObj.cells R0)),
            ((1 : Nat), Ob.mk true (0 : Nat) (AObj.cells [AV.imm (IV.int IntKind.i64 (0 : Int))])),
            ((2 : Nat), Ob.mk true (0 : Nat) (AObj.cells [AV.imm (IV.int IntKind.i64 (0 : Int))])),
            ((3 : Nat), Ob.mk true (0 : Nat) (AObj.cells [AV.imm (IV.str s), AV.imm (IV.int IntKind.i64 i)])),
            ((4 : Nat),
              Ob.mk true (0 : Nat)
                (AObj.cells
                  [AV.imm (IV.str a), AV.imm (IV.int IntKind.i64 o), AV.imm (IV.bool h), AV.imm (IV.str b),
                    AV.imm (IV.int IntKind.i64 p), AV.imm (IV.int IntKind.i64 k), AV.imm (IV.int IntKind.i64 d),
                    AV.imm (IV.int IntKind.i64 m), AV.imm (IV.int IntKind.i64 w), AV.imm (IV.int IntKind.i64 e),
                    AV.imm (IV.int IntKind.i64 t), AV.imm (IV.int IntKind.i64 k'), AV.imm (IV.int IntKind.i64 d'),
                    AV.imm (IV.int IntKind.i64 m'), AV.imm (IV.int IntKind.i64 w'), AV.imm (IV.int IntKind.i64 e'),
                    AV.imm (IV.int IntKind.i64 t')])),
            ((5 : Nat), Ob.mk true (0 : Nat) (AObj.cells R2)), ((6 : Nat), Ob.mk true (0 : Nat) (AObj.cells X)),
            ((7 : Nat), Ob.mk true (0 : Nat) (AObj.cells Y))]
          (8 : Nat) OUT))
      (K AX.normal
        (St.mk
          [AV.ptr (3 : Nat) (0 : Nat), x, y, AV.ptr (4 : Nat) (0 : Nat), AV.ptr (5 : Nat) (0 : Nat), T (5 : Nat),
            T (6 : Nat), T (7 : Nat), T (8 : Nat), T (9 : Nat), T (10 : Nat), T (11 : Nat), T (12 : Nat), T (13 : Nat),
            T (14 : Nat), T (15 : Nat), T (16 : Nat), T (17 : Nat), T (18 : Nat), T (19 : Nat), T (20 : Nat),
            T (21 : Nat), T (22 : Nat), T (23 : Nat), T (24 : Nat), T (25 : Nat), T (26 : Nat), T (27 : Nat),
            T (28 : Nat), T (29 : Nat), T (30 : Nat), T (31 : Nat), T (32 : Nat), T (33 : Nat), T (34 : Nat),
            T (35 : Nat), T (36 : Nat), T (37 : Nat), T (38 : Nat), AV.ptr (3 : Nat) (0 : Nat), AV.tup [], T (41 : Nat),
            T (42 : Nat), T (43 : Nat), T (44 : Nat)]
          [((0 : Nat), Ob.mk true (0 : Nat) (AObj.cells R0)),
            ((1 : Nat), Ob.mk true (0 : Nat) (AObj.cells [AV.imm (IV.int IntKind.i64 (0 : Int))])),
            ((2 : Nat), Ob.mk true (0 : Nat) (AObj.cells [AV.imm (IV.int IntKind.i64 (0 : Int))])),
            ((3 : Nat),
              Ob.mk true (0 : Nat)
                (AObj.cells
                  [AV.imm (IV.str s), AV.imm (IV.int IntKind.i64 (IntKind.wrap IntKind.i64 (i + (1 : Int))))])),
            ((4 : Nat),
              Ob.mk true (0 : Nat)
                (AObj.cells
                  [AV.imm (IV.str a), AV.imm (IV.int IntKind.i64 o), AV.imm (IV.bool h), AV.imm (IV.str b),
                    AV.imm (IV.int IntKind.i64 p), AV.imm (IV.int IntKind.i64 k), AV.imm (IV.int IntKind.i64 d),
                    AV.imm (IV.int IntKind.i64 m), AV.imm (IV.int IntKind.i64 w), AV.imm (IV.int IntKind.i64 e),
                    AV.imm (IV.int IntKind.i64 t), AV.imm (IV.int IntKind.i64 k'), AV.imm (IV.int IntKind.i64 d'),
                    AV.imm (IV.int IntKind.i64 m'), AV.imm (IV.int IntKind.i64 w'), AV.imm (IV.int IntKind.i64 e'),
                    AV.imm (IV.int IntKind.i64 t')])),
            ((5 : Nat), Ob.mk true (0 : Nat) (AObj.cells R2)), ((6 : Nat), Ob.mk true (0 : Nat) (AObj.cells X)),
            ((7 : Nat), Ob.mk true (0 : Nat) (AObj.cells Y))]
          (8 : Nat) OUT))) := by kernel_rfl
theorem d_6 (s : List
  UInt8) (i : Int) (R0 : List
  AV) (R2 : List
  AV) (a : List
  UInt8) (o : Int) (h : Bool) (b : List
  UInt8) (p : Int) (k : Int) (d : Int) (m : Int) (w : Int) (e : Int) (t : Int) (k' : Int) (d' : Int) (m' : Int) (w' : Int) (e' : Int) (t' : Int) (x : AV) (y : AV) (OUT : List
  AV) (X : List
  AV) (Y : List
  AV) (T : Nat →
  AV) (K : AX →
  St →
    Prop) : evCode C4i (c19 [Dir.r, Dir.r, Dir.r, Dir.r, Dir.r, Dir.r, Dir.l])
  (S19b s i R0 (R17 a o h b p k d m w e t k' d' m' w' e' t') R2 x y OUT X Y T) K =
  ((0 : Int) ≤ i ∧
  i ≤ (↑(List.length s) : Int) ∧
    ((↑(List.length (List.take (List.length s - Int.toNat i) (List.drop (Int.toNat i) s))) : Int) ≤ big - (20 : Int) ∧
        brn (!Dy.ok (day (List.take (List.length s - Int.toNat i) (List.drop (Int.toNat i) s))))
            (K (AX.panic (AV.ifc (44 : Nat) (AV.agg [AV.imm (IV.int IntKind.i64 i)])))
              (St.mk
                [AV.ptr (3 : Nat) (0 : Nat), x, y, AV.ptr (4 : Nat) (0 : Nat), AV.ptr (5 : Nat) (0 : Nat), T (5 : Nat),
                  T (6 : Nat), T (7 : Nat), T (8 : Nat), T (9 : Nat), T (10 : Nat), T (11 : Nat), T (12 : Nat),
                  T (13 : Nat), T (14 : Nat), T (15 : Nat), T (16 : Nat), T (17 : Nat), T (18 : Nat), T (19 : Nat),
                  T (20 : Nat), T (21 : Nat), T (22 : Nat), T (23 : Nat), T (24 : Nat), T (25 : Nat), T (26 : Nat),
                  T (27 : Nat), T (28 : Nat), T (29 : Nat), T (30 : Nat), T (31 : Nat), T (32 : Nat), T (33 : Nat),
                  T (34 : Nat), T (35 : Nat), T (36 : Nat), T (37 : Nat), T (38 : Nat), T (39 : Nat), T (40 : Nat),
                  AV.ptr (3 : Nat) (0 : Nat), T (42 : Nat), T (43 : Nat), T (44 : Nat)]
                [((0 : Nat), Ob.mk true (0 : Nat) (AObj.cells R0)),
                  ((1 : Nat), Ob.mk true (0 : Nat) (AObj.cells [AV.imm (IV.int IntKind.i64 (0 : Int))])),
                  ((2 : Nat), Ob.mk true (0 : Nat) (AObj.cells [AV.imm (IV.int IntKind.i64 (0 : Int))])),
                  ((3 : Nat), Ob.mk true (0 : Nat) (AObj.cells [AV.imm (IV.str s), AV.imm (IV.int IntKind.i64 i)])),
                  ((4 : Nat),
                    Ob.mk true (0 : Nat)
                      (AObj.cells
                        [AV.imm (IV.str a), AV.imm (IV.int IntKind.i64 o), AV.imm (IV.bool h), AV.imm (IV.str b),
                          AV.imm (IV.int IntKind.i64 p), AV.imm (IV.int IntKind.i64 k), AV.imm (IV.int IntKind.i64 d),
                          AV.imm (IV.int IntKind.i64 m), AV.imm (IV.int IntKind.i64 w), AV.imm (IV.int IntKind.i64 e),
                          AV.imm (IV.int IntKind.i64 t), AV.imm (IV.int IntKind.i64 k'), AV.imm (IV.int IntKind.i64 d'),
                          AV.imm (IV.int IntKind.i64 m'), AV.imm (IV.int IntKind.i64 w'),
                          AV.imm (IV.int IntKind.i64 e'), AV.imm (IV.int IntKind.i64 t')])),
                  ((5 : Nat), Ob.mk true (0 : Nat) (AObj.cells R2)), ((6 : Nat), Ob.mk true (0 : Nat) (AObj.cells X)),
                  ((7 : Nat), Ob.mk true (0 : Nat) (AObj.cells Y)),
                  ((8 : Nat),
                    Ob.mk true (0 : Nat)
                      (AObj.cells
                        [AV.imm (IV.int IntKind.i64 (0 : Int)), AV.imm (IV.int IntKind.i64 (0 : Int)),
                          AV.imm (IV.int IntKind.i64 (0 : Int)), AV.imm (IV.int IntKind.i64 (0 : Int)),
                          AV.imm (IV.int IntKind.i64 (0 : Int)), AV.imm (IV.int IntKind.i64 (0 : Int))])),
                  ((9 : Nat),
                    Ob.mk true (0 : Nat)
                      (AObj.cells
                        [AV.imm
                            (IV.int IntKind.i64
                              (Dy.k (day (List.take (List.length s - Int.toNat i) (List.drop (Int.toNat i) s))))),
                          AV.imm
                            (IV.int IntKind.i64
                              (Dy.d (day (List.take (List.length s - Int.toNat i) (List.drop (Int.toNat i) s))))),
                          AV.imm
                            (IV.int IntKind.i64
                              (Dy.m (day (List.take (List.length s - Int.toNat i) (List.drop (Int.toNat i) s))))),
                          AV.imm
                            (IV.int IntKind.i64
                              (Dy.w (day (List.take (List.length s - Int.toNat i) (List.drop (Int.toNat i) s))))),
                          AV.imm
                            (IV.int IntKind.i64
                              (Dy.e (day (List.take (List.length s - Int.toNat i) (List.drop (Int.toNat i) s))))),
                          AV.imm
                            (IV.int IntKind.i64
                              (Dy.t (day (List.take (List.length s - Int.toNat i) (List.drop (Int.toNat i) s)))))]))]
                (10 : Nat) OUT))
            (K AX.normal
              (St.mk
                [AV.ptr (3 : Nat) (0 : Nat), x, y, AV.ptr (4 : Nat) (0 : Nat), AV.ptr (5 : Nat) (0 : Nat), T (5 : Nat),
                  T (6 : Nat), T (7 : Nat), T (8 : Nat), T (9 : Nat), T (10 : Nat), T (11 : Nat), T (12 : Nat),
                  T (13 : Nat), T (14 : Nat), T (15 : Nat), T (16 : Nat), T (17 : Nat), T (18 : Nat), T (19 : Nat),
                  T (20 : Nat), T (21 : Nat), T (22 : Nat), T (23 : Nat), T (24 : Nat), T (25 : Nat), T (26 : Nat),
                  T (27 : Nat), T (28 : Nat), T (29 : Nat), T (30 : Nat), T (31 : Nat), T (32 : Nat), T (33 : Nat),
                  T (34 : Nat), T (35 : Nat), T (36 : Nat), T (37 : Nat), T (38 : Nat), T (39 : Nat), T (40 : Nat),
                  AV.ptr (3 : Nat) (0 : Nat),
                  AV.agg
                    [AV.imm
                        (IV.int IntKind.i64
                          (Dy.k (day (List.take (List.length s - Int.toNat i) (List.drop (Int.toNat i) s))))),
                      AV.imm
                        (IV.int IntKind.i64
                          (Dy.d (day (List.take (List.length s - Int.toNat i) (List.drop (Int.toNat i) s))))),
                      AV.imm
                        (IV.int IntKind.i64
                          (Dy.m (day (List.take (List.length s - Int.toNat i) (List.drop (Int.toNat i) s))))),
                      AV.imm
                        (IV.int IntKind.i64
                          (Dy.w (day (List.take (List.length s - Int.toNat i) (List.drop (Int.toNat i) s))))),
                      AV.imm
                        (IV.int IntKind.i64
                          (Dy.e (day (List.take (List.length s - Int.toNat i) (List.drop (Int.toNat i) s))))),
                      AV.imm
                        (IV.int IntKind.i64
                          (Dy.t (day (List.take (List.length s - Int.toNat i) (List.drop (Int.toNat i) s)))))],
                  AV.ptr (4 : Nat) (11 : Nat), T (44 : Nat)]
                [((0 : Nat), Ob.mk true (0 : Nat) (AObj.cells R0)),
                  ((1 : Nat), Ob.mk true (0 : Nat) (AObj.cells [AV.imm (IV.int IntKind.i64 (0 : Int))])),
                  ((2 : Nat), Ob.mk true (0 : Nat) (AObj.cells [AV.imm (IV.int IntKind.i64 (0 : Int))])),
                  ((3 : Nat),
                    Ob.mk true (0 : Nat)
                      (AObj.cells
                        [AV.imm (IV.str s),
                          AV.imm
                            (IV.int IntKind.i64
                              (IntKind.wrap IntKind.i64
                                (i +
                                  Dy.n
                                    (day (List.take (List.length s - Int.toNat i) (List.drop (Int.toNat i) s))))))])),
                  ((4 : Nat),
                    Ob.mk true (0 : Nat)
                      (AObj.cells
                        [AV.imm (IV.str a), AV.imm (IV.int IntKind.i64 o), AV.imm (IV.bool h), AV.imm (IV.str b),
                          AV.imm (IV.int IntKind.i64 p), AV.imm (IV.int IntKind.i64 k), AV.imm (IV.int IntKind.i64 d),
                          AV.imm (IV.int IntKind.i64 m), AV.imm (IV.int IntKind.i64 w), AV.imm (IV.int IntKind.i64 e),
                          AV.imm (IV.int IntKind.i64 t),
                          AV.imm
                            (IV.int IntKind.i64
                              (Dy.k (day (List.take (List.length s - Int.toNat i) (List.drop (Int.toNat i) s))))),
                          AV.imm
                            (IV.int IntKind.i64
                              (Dy.d (day (List.take (List.length s - Int.toNat i) (List.drop (Int.toNat i) s))))),
                          AV.imm
                            (IV.int IntKind.i64
                              (Dy.m (day (List.take (List.length s - Int.toNat i) (List.drop (Int.toNat i) s))))),
                          AV.imm
                            (IV.int IntKind.i64
                              (Dy.w (day (List.take (List.length s - Int.toNat i) (List.drop (Int.toNat i) s))))),
                          AV.imm
                            (IV.int IntKind.i64
                              (Dy.e (day (List.take (List.length s - Int.toNat i) (List.drop (Int.toNat i) s))))),
                          AV.imm
                            (IV.int IntKind.i64
                              (Dy.t (day (List.take (List.length s - Int.toNat i) (List.drop (Int.toNat i) s)))))])),
                  ((5 : Nat), Ob.mk true (0 : Nat) (AObj.cells R2)), ((6 : Nat), Ob.mk true (0 : Nat) (AObj.cells X)),
                  ((7 : Nat), Ob.mk true (0 : Nat) (AObj.cells Y)),
                  ((8 : Nat),
                    Ob.mk true (0 : Nat)
                      (AObj.cells
                        [AV.imm
                            (IV.int IntKind.i64
                              (Dy.k (day (List.take (List.length s - Int.toNat i) (List.drop (Int.toNat i) s))))),
                          AV.imm
                            (IV.int IntKind.i64
                              (Dy.d (day (List.take (List.length s - Int.toNat i) (List.drop (Int.toNat i) s))))),
                          AV.imm
                            (IV.int IntKind.i64
                              (Dy.m (day (List.take (List.length s - Int.toNat i) (List.drop (Int.toNat i) s))))),
                          AV.imm
                            (IV.int IntKind.i64
                              (Dy.w (day (List.take (List.length s - Int.toNat i) (List.drop (Int.toNat i) s))))),
                          AV.imm
                            (IV.int IntKind.i64
                              (Dy.e (day (List.take (List.length s - Int.toNat i) (List.drop (Int.toNat i) s))))),
                          AV.imm
                            (IV.int IntKind.i64
                              (Dy.t (day (List.take (List.length s - Int.toNat i) (List.drop (Int.toNat i) s)))))])),
                  ((9 : Nat),
                    Ob.mk true (0 : Nat)
                      (AObj.cells
                        [AV.imm
                            (IV.int IntKind.i64
                              (Dy.k (day (List.take (List.length s - Int.toNat i) (List.drop (Int.toNat i) s))))),
                          AV.imm
                            (IV.int IntKind.i64
                              (Dy.d (day (List.take (List.length s - Int.toNat i) (List.drop (Int.toNat i) s))))),
                          AV.imm
                            (IV.int IntKind.i64
                              (Dy.m (day (List.take (List.length s - Int.toNat i) (List.drop (Int.toNat i) s))))),
                          AV.imm
                            (IV.int IntKind.i64
                              (Dy.w (day (List.take (List.length s - Int.toNat i) (List.drop (Int.toNat i) s))))),
                          AV.imm
                            (IV.int IntKind.i64
                              (Dy.e (day (List.take (List.length s - Int.toNat i) (List.drop (Int.toNat i) s))))),
                          AV.imm
                            (IV.int IntKind.i64
                              (Dy.t (day (List.take (List.length s - Int.toNat i) (List.drop (Int.toNat i) s)))))]))]
                (10 : Nat) OUT)) ∧
          brn (!Dy.ok (day (List.take (List.length s - Int.toNat i) (List.drop (Int.toNat i) s))))
            (K (AX.panic (AV.ifc (44 : Nat) (AV.agg [AV.imm (IV.int IntKind.i64 i)])))
              (St.mk
                [AV.ptr (3 : Nat) (0 : Nat), x, y, AV.ptr (4 : Nat) (0 : Nat), AV.ptr (5 : Nat) (0 : Nat), T (5 : Nat),
                  T (6 : Nat), T (7 : Nat), T (8 : Nat), T (9 : Nat), T (10 : Nat), T (11 : Nat), T (12 : Nat),
                  T (13 : Nat), T (14 : Nat), T (15 : Nat), T (16 : Nat), T (17 : Nat), T (18 : Nat), T (19 : Nat),
                  T (20 : Nat), T (21 : Nat), T (22 : Nat), T (23 : Nat), T (24 : Nat), T (25 : Nat), T (26 : Nat),
                  T (27 : Nat), T (28 : Nat), T (29 : Nat), T (30 : Nat), T (31 : Nat), T (32 : Nat), T (33 : Nat),
                  T (34 : Nat), T (35 : Nat), T (36 : Nat), T (37 : Nat), T (38 : Nat), T (39 : Nat), T (40 : Nat),
                  AV.ptr (3 : Nat) (0 : Nat), T (42 : Nat), T (43 : Nat), T (44 : Nat)]
                [((0 : Nat), Ob.mk true (0 : Nat) (AObj.cells R0)),
                  ((1 : Nat), Ob.mk true (0 : Nat) (AObj.cells [AV.imm (IV.int IntKind.i64 (0 : Int))])),
                  ((2 : Nat), Ob.mk true (0 : Nat) (AObj.cells [AV.imm (IV.int IntKind.i64 (0 : Int))])),
                  ((3 : Nat), Ob.mk true (0 : Nat) (AObj.cells [AV.imm (IV.str s), AV.imm (IV.int IntKind.i64 i)])),
                  ((4 : Nat),
                    Ob.mk true (0 : Nat)
                      (AObj.cells
                        [AV.imm (IV.str a), AV.imm (IV.int IntKind.i64 o), AV.imm (IV.bool h), AV.imm (IV.str b),
                          AV.imm (IV.int IntKind.i64 p), AV.imm (IV.int IntKind.i64 k), AV.imm (IV.int IntKind.i64 d),
                          AV.imm (IV.int IntKind.i64 m), AV.imm (IV.int IntKind.i64 w), AV.imm (IV.int IntKind.i64 e),
                          AV.imm (IV.int IntKind.i64 t), AV.imm (IV.int IntKind.i64 k'), AV.imm (IV.int IntKind.i64 d'),
                          AV.imm (IV.int IntKind.i64 m'), AV.imm (IV.int IntKind.i64 w'),
                          AV.imm (IV.int IntKind.i64 e'), AV.imm (IV.int IntKind.i64 t')])),
                  ((5 : Nat), Ob.mk true (0 : Nat) (AObj.cells R2)), ((6 : Nat), Ob.mk true (0 : Nat) (AObj.cells X)),
                  ((7 : Nat), Ob.mk true (0 : Nat) (AObj.cells Y)),
                  ((8 : Nat),
                    Ob.mk true (0 : Nat)
                      (AObj.cells
                        [AV.imm (IV.int IntKind.i64 (0 : Int)), AV.imm (IV.int IntKind.i64 (0 : Int)),
                          AV.imm (IV.int IntKind.i64 (0 : Int)), AV.imm (IV.int IntKind.i64 (0 : Int)),
                          AV.imm (IV.int IntKind.i64 (0 : Int)), AV.imm (IV.int IntKind.i64 (0 : Int))])),
                  ((9 : Nat),
                    Ob.mk true (0 : Nat)
                      (AObj.cells
                        [AV.imm
                            (IV.int IntKind.i64
                              (Dy.k (day (List.take (List.length s - Int.toNat i) (List.drop (Int.toNat i) s))))),
                          AV.imm
                            (IV.int IntKind.i64
                              (Dy.d (day (List.take (List.length s - Int.toNat i) (List.drop (Int.toNat i) s))))),
                          AV.imm
                            (IV.int IntKind.i64
                              (Dy.m (day (List.take (List.length s - Int.toNat i) (List.drop (Int.toNat i) s))))),
                          AV.imm
                            (IV.int IntKind.i64
                              (Dy.w (day (List.take (List.length s - Int.toNat i) (List.drop (Int.toNat i) s))))),
                          AV.imm
                            (IV.int IntKind.i64
                              (Dy.e (day (List.take (List.length s - Int.toNat i) (List.drop (Int.toNat i) s))))),
                          AV.imm
                            (IV.int IntKind.i64
                              (Dy.t (day (List.take (List.length s - Int.toNat i) (List.drop (Int.toNat i) s)))))]))]
                (10 : Nat) OUT))
            (K AX.normal
              (St.mk
                [AV.ptr (3 : Nat) (0 : Nat), x, y, AV.ptr (4 : Nat) (0 : Nat), AV.ptr (5 : Nat) (0 : Nat), T (5 : Nat),
                  T (6 : Nat), T (7 : Nat), T (8 : Nat), T (9 : Nat), T (10 : Nat), T (11 : Nat), T (12 : Nat),
                  T (13 : Nat), T (14 : Nat), T (15 : Nat), T (16 : Nat), T (17 : Nat), T (18 : Nat), T (19 : Nat),
                  T (20 : Nat), T (21 : Nat), T (22 : Nat), T (23 : Nat), T (24 : Nat), T (25 : Nat), T (26 : Nat),
                  T (27 : Nat), T (28 : Nat), T (29 : Nat), T (30 : Nat), T (31 : Nat), T (32 : Nat), T (33 : Nat),
                  T (34 : Nat), T (35 : Nat), T (36 : Nat), T (37 : Nat), T (38 : Nat), T (39 : Nat), T (40 : Nat),
                  AV.ptr (3 : Nat) (0 : Nat),
                  AV.agg
                    [AV.imm
                        (IV.int IntKind.i64
                          (Dy.k (day (List.take (List.length s - Int.toNat i) (List.drop (Int.toNat i) s))))),
                      AV.imm
                        (IV.int IntKind.i64
                          (Dy.d (day (List.take (List.length s - Int.toNat i) (List.drop (Int.toNat i) s))))),
                      AV.imm
                        (IV.int IntKind.i64
                          (Dy.m (day (List.take (List.length s - Int.toNat i) (List.drop (Int.toNat i) s))))),
                      AV.imm
                        (IV.int IntKind.i64
                          (Dy.w (day (List.take (List.length s - Int.toNat i) (List.drop (Int.toNat i) s))))),
                      AV.imm
                        (IV.int IntKind.i64
                          (Dy.e (day (List.take (List.length s - Int.toNat i) (List.drop (Int.toNat i) s))))),
                      AV.imm
                        (IV.int IntKind.i64
                          (Dy.t (day (List.take (List.length s - Int.toNat i) (List.drop (Int.toNat i) s)))))],
                  AV.ptr (4 : Nat) (11 : Nat), T (44 : Nat)]
                [((0 : Nat), Ob.mk true (0 : Nat) (AObj.cells R0)),
                  ((1 : Nat), Ob.mk true (0 : Nat) (AObj.cells [AV.imm (IV.int IntKind.i64 (0 : Int))])),
                  ((2 : Nat), Ob.mk true (0 : Nat) (AObj.cells [AV.imm (IV.int IntKind.i64 (0 : Int))])),
                  ((3 : Nat),
                    Ob.mk true (0 : Nat)
                      (AObj.cells
                        [AV.imm (IV.str s),
                          AV.imm
                            (IV.int IntKind.i64
                              (IntKind.wrap IntKind.i64
                                (i +
                                  Dy.n
                                    (day (List.take (List.length s - Int.toNat i) (List.drop (Int.toNat i) s))))))])),
                  ((4 : Nat),
                    Ob.mk true (0 : Nat)
                      (AObj.cells
                        [AV.imm (IV.str a), AV.imm (IV.int IntKind.i64 o), AV.imm (IV.bool h), AV.imm (IV.str b),
                          AV.imm (IV.int IntKind.i64 p), AV.imm (IV.int IntKind.i64 k), AV.imm (IV.int IntKind.i64 d),
                          AV.imm (IV.int IntKind.i64 m), AV.imm (IV.int IntKind.i64 w), AV.imm (IV.int IntKind.i64 e),
                          AV.imm (IV.int IntKind.i64 t),
                          AV.imm
                            (IV.int IntKind.i64
                              (Dy.k (day (List.take (List.length s - Int.toNat i) (List.drop (Int.toNat i) s))))),
                          AV.imm
                            (IV.int IntKind.i64
                              (Dy.d (day (List.take (List.length s - Int.toNat i) (List.drop (Int.toNat i) s))))),
                          AV.imm
                            (IV.int IntKind.i64
                              (Dy.m (day (List.take (List.length s - Int.toNat i) (List.drop (Int.toNat i) s))))),
                          AV.imm
                            (IV.int IntKind.i64
                              (Dy.w (day (List.take (List.length s - Int.toNat i) (List.drop (Int.toNat i) s))))),
                          AV.imm
                            (IV.int IntKind.i64
                              (Dy.e (day (List.take (List.length s - Int.toNat i) (List.drop (Int.toNat i) s))))),
                          AV.imm
                            (IV.int IntKind.i64
                              (Dy.t (day (List.take (List.length s - Int.toNat i) (List.drop (Int.toNat i) s)))))])),
                  ((5 : Nat), Ob.mk true (0 : Nat) (AObj.cells R2)), ((6 : Nat), Ob.mk true (0 : Nat) (AObj.cells X)),
                  ((7 : Nat), Ob.mk true (0 : Nat) (AObj.cells Y)),
                  ((8 : Nat),
                    Ob.mk true (0 : Nat)
                      (AObj.cells
                        [AV.imm
                            (IV.int IntKind.i64
                              (Dy.k (day (List.take (List.length s - Int.toNat i) (List.drop (Int.toNat i) s))))),
                          AV.imm
                            (IV.int IntKind.i64
                              (Dy.d (day (List.take (List.length s - Int.toNat i) (List.drop (Int.toNat i) s))))),
                          AV.imm
                            (IV.int IntKind.i64
                              (Dy.m (day (List.take (List.length s - Int.toNat i) (List.drop (Int.toNat i) s))))),
                          AV.imm
                            (IV.int IntKind.i64
                              (Dy.w (day (List.take (List.length s - Int.toNat i) (List.drop (Int.toNat i) s))))),
                          AV.imm
                            (IV.int IntKind.i64
                              (Dy.e (day (List.take (List.length s - Int.toNat i) (List.drop (Int.toNat i) s))))),
                          AV.imm
                            (IV.int IntKind.i64
                              (Dy.t (day (List.take (List.length s - Int.toNat i) (List.drop (Int.toNat i) s)))))])),
                  ((9 : Nat),
                    Ob.mk true (0 : Nat)
                      (AObj.cells
                        [AV.imm
                            (IV.int IntKind.i64
                              (Dy.k (day (List.take (List.length s - Int.toNat i) (List.drop (Int.toNat i) s))))),
                          AV.imm
                            (IV.int IntKind.i64
                              (Dy.d (day (List.take (List.length s - Int.toNat i) (List.drop (Int.toNat i) s))))),
                          AV.imm
                            (IV.int IntKind.i64
                              (Dy.m (day (List.take (List.length s - Int.toNat i) (List.drop (Int.toNat i) s))))),
                          AV.imm
                            (IV.int IntKind.i64
                              (Dy.w (day (List.take (List.length s - Int.toNat i) (List.drop (Int.toNat i) s))))),
                          AV.imm
                            (IV.int IntKind.i64
                              (Dy.e (day (List.take (List.length s - Int.toNat i) (List.drop (Int.toNat i) s))))),
                          AV.imm
                            (IV.int IntKind.i64
                              (Dy.t (day (List.take (List.length s - Int.toNat i) (List.drop (Int.toNat i) s)))))]))]
                (10 : Nat) OUT))) ∧
      (↑(List.length (List.take (List.length s - Int.toNat i) (List.drop (Int.toNat i) s))) : Int) ≤ big - (20 : Int) ∧
        brn (!Dy.ok (day (List.take (List.length s - Int.toNat i) (List.drop (Int.toNat i) s))))
          (K (AX.panic (AV.ifc (44 : Nat) (AV.agg [AV.imm (IV.int IntKind.i64 i)])))
            (St.mk
              [AV.ptr (3 : Nat) (0 : Nat), x, y, AV.ptr (4 : Nat) (0 : Nat), AV.ptr (5 : Nat) (0 : Nat), T (5 : Nat),
                T (6 : Nat), T (7 : Nat), T (8 : Nat), T (9 : Nat), T (10 : Nat), T (11 : Nat), T (12 : Nat),
                T (13 : Nat), T (14 : Nat), T (15 : Nat), T (16 : Nat), T (17 : Nat), T (18 : Nat), T (19 : Nat),
                T (20 : Nat), T (21 : Nat), T (22 : Nat), T (23 : Nat), T (24 : Nat), T (25 : Nat), T (26 : Nat),
                T (27 : Nat), T (28 : Nat), T (29 : Nat), T (30 : Nat), T (31 : Nat), T (32 : Nat), T (33 : Nat),
                T (34 : Nat), T (35 : Nat), T (36 : Nat), T (37 : Nat), T (38 : Nat), T (39 : Nat), T (40 : Nat),
                AV.ptr (3 : Nat) (0 : Nat), T (42 : Nat), T (43 : Nat), T (44 : Nat)]
              [((0 : Nat), Ob.mk true (0 : Nat) (AObj.cells R0)),
                ((1 : Nat), Ob.mk true (0 : Nat) (AObj.cells [AV.imm (IV.int IntKind.i64 (0 : Int))])),
                ((2 : Nat), Ob.mk true (0 : Nat) (AObj.cells [AV.imm (IV.int IntKind.i64 (0 : Int))])),
                ((3 : Nat), Ob.mk true (0 : Nat) (AObj.cells [AV.imm (IV.str s), AV.imm (IV.int IntKind.i64 i)])),
                ((4 : Nat),
                  Ob.mk true (0 : Nat)
                    (AObj.cells
                      [AV.imm (IV.str a), AV.imm (IV.int IntKind.i64 o), AV.imm (IV.bool h), AV.imm (IV.str b),
                        AV.imm (IV.int IntKind.i64 p), AV.imm (IV.int IntKind.i64 k), AV.imm (IV.int IntKind.i64 d),
                        AV.imm (IV.int IntKind.i64 m), AV.imm (IV.int IntKind.i64 w), AV.imm (IV.int IntKind.i64 e),
                        AV.imm (IV.int IntKind.i64 t), AV.imm (IV.int IntKind.i64 k'), AV.imm (IV.int IntKind.i64 d'),
                        AV.imm (IV.int IntKind.i64 m'), AV.imm (IV.int IntKind.i64 w'), AV.imm (IV.int IntKind.i64 e'),
                        AV.imm (IV.int IntKind.i64 t')])),
                ((5 : Nat), Ob.mk true (0 : Nat) (AObj.cells R2)), ((6 : Nat), Ob.mk true (0 : Nat) (AObj.cells X)),
                ((7 : Nat), Ob.mk true (0 : Nat) (AObj.cells Y)),
                ((8 : Nat),
                  Ob.mk true (0 : Nat)
                    (AObj.cells
                      [AV.imm (IV.int IntKind.i64 (0 : Int)), AV.imm (IV.int IntKind.i64 (0 : Int)),
                        AV.imm (IV.int IntKind.i64 (0 : Int)), AV.imm (IV.int IntKind.i64 (0 : Int)),
                        AV.imm (IV.int IntKind.i64 (0 : Int)), AV.imm (IV.int IntKind.i64 (0 : Int))])),
                ((9 : Nat),
                  Ob.mk true (0 : Nat)
                    (AObj.cells
                      [AV.imm
                          (IV.int IntKind.i64
                            (Dy.k (day (List.take (List.length s - Int.toNat i) (List.drop (Int.toNat i) s))))),
                        AV.imm
                          (IV.int IntKind.i64
                            (Dy.d (day (List.take (List.length s - Int.toNat i) (List.drop (Int.toNat i) s))))),
                        AV.imm
                          (IV.int IntKind.i64
                            (Dy.m (day (List.take (List.length s - Int.toNat i) (List.drop (Int.toNat i) s))))),
                        AV.imm
                          (IV.int IntKind.i64
                            (Dy.w (day (List.take (List.length s - Int.toNat i) (List.drop (Int.toNat i) s))))),
                        AV.imm
                          (IV.int IntKind.i64
                            (Dy.e (day (List.take (List.length s - Int.toNat i) (List.drop (Int.toNat i) s))))),
                        AV.imm
                          (IV.int IntKind.i64
                            (Dy.t (day (List.take (List.length s - Int.toNat i) (List.drop (Int.toNat i) s)))))]))]
              (10 : Nat) OUT))
          (K AX.normal
            (St.mk
              [AV.ptr (3 : Nat) (0 : Nat), x, y, AV.ptr (4 : Nat) (0 : Nat), AV.ptr (5 : Nat) (0 : Nat), T (5 : Nat),
                T (6 : Nat), T (7 : Nat), T (8 : Nat), T (9 : Nat), T (10 : Nat), T (11 : Nat), T (12 : Nat),
                T (13 : Nat), T (14 : Nat), T (15 : Nat), T (16 : Nat), T (17 : Nat), T (18 : Nat), T (19 : Nat),
                T (20 : Nat), T (21 : Nat), T (22 : Nat), T (23 : Nat), T (24 : Nat), T (25 : Nat), T (26 : Nat),
                T (27 : Nat), T (28 : Nat), T (29 : Nat), T (30 : Nat), T (31 : Nat), T (32 : Nat), T (33 : Nat),
                T (34 : Nat), T (35 : Nat), T (36 : Nat), T (37 : Nat), T (38 : Nat), T (39 : Nat), T (40 : Nat),
                AV.ptr (3 : Nat) (0 : Nat),
                AV.agg
                  [AV.imm
                      (IV.int IntKind.i64
                        (Dy.k (day (List.take (List.length s - Int.toNat i) (List.drop (Int.toNat i) s))))),
                    AV.imm
                      (IV.int IntKind.i64
                        (Dy.d (day (List.take (List.length s - Int.toNat i) (List.drop (Int.toNat i) s))))),
                    AV.imm
                      (IV.int IntKind.i64
                        (Dy.m (day (List.take (List.length s - Int.toNat i) (List.drop (Int.toNat i) s))))),
                    AV.imm
                      (IV.int IntKind.i64
                        (Dy.w (day (List.take (List.length s - Int.toNat i) (List.drop (Int.toNat i) s))))),
                    AV.imm
                      (IV.int IntKind.i64
                        (Dy.e (day (List.take (List.length s - Int.toNat i) (List.drop (Int.toNat i) s))))),
                    AV.imm
                      (IV.int IntKind.i64
                        (Dy.t (day (List.take (List.length s - Int.toNat i) (List.drop (Int.toNat i) s)))))],
                AV.ptr (4 : Nat) (11 : Nat), T (44 : Nat)]
              [((0 : Nat), Ob.mk true (0 : Nat) (AObj.cells R0)),
                ((1 : Nat), Ob.mk true (0 : Nat) (AObj.cells [AV.imm (IV.int IntKind.i64 (0 : Int))])),
                ((2 : Nat), Ob.mk true (0 : Nat) (AObj.cells [AV.imm (IV.int IntKind.i64 (0 : Int))])),
                ((3 : Nat),
                  Ob.mk true (0 : Nat)
                    (AObj.cells
                      [AV.imm (IV.str s),
                        AV.imm
                          (IV.int IntKind.i64
                            (IntKind.wrap IntKind.i64
                              (i +
                                Dy.n (day (List.take (List.length s - Int.toNat i) (List.drop (Int.toNat i) s))))))])),
                ((4 : Nat),
                  Ob.mk true (0 : Nat)
                    (AObj.cells
                      [AV.imm (IV.str a), AV.imm (IV.int IntKind.i64 o), AV.imm (IV.bool h), AV.imm (IV.str b),
                        AV.imm (IV.int IntKind.i64 p), AV.imm (IV.int IntKind.i64 k), AV.imm (IV.int IntKind.i64 d),
                        AV.imm (IV.int IntKind.i64 m), AV.imm (IV.int IntKind.i64 w), AV.imm (IV.int IntKind.i64 e),
                        AV.imm (IV.int IntKind.i64 t),
                        AV.imm
                          (IV.int IntKind.i64
                            (Dy.k (day (List.take (List.length s - Int.toNat i) (List.drop (Int.toNat i) s))))),
                        AV.imm
                          (IV.int IntKind.i64
                            (Dy.d (day (List.take (List.length s - Int.toNat i) (List.drop (Int.toNat i) s))))),
                        AV.imm
                          (IV.int IntKind.i64
                            (Dy.m (day (List.take (List.length s - Int.toNat i) (List.drop (Int.toNat i) s))))),
                        AV.imm
                          (IV.int IntKind.i64
                            (Dy.w (day (List.take (List.length s - Int.toNat i) (List.drop (Int.toNat i) s))))),
                        AV.imm
                          (IV.int IntKind.i64
                            (Dy.e (day (List.take (List.length s - Int.toNat i) (List.drop (Int.toNat i) s))))),
                        AV.imm
                          (IV.int IntKind.i64
                            (Dy.t (day (List.take (List.length s - Int.toNat i) (List.drop (Int.toNat i) s)))))])),
                ((5 : Nat), Ob.mk true (0 : Nat) (AObj.cells R2)), ((6 : Nat), Ob.mk true (0 : Nat) (AObj.cells X)),
                ((7 : Nat), Ob.mk true (0 : Nat) (AObj.cells Y)),
                ((8 : Nat),
                  Ob.mk true (0 : Nat)
                    (AObj.cells
                      [AV.imm
                          (IV.int IntKind.i64
                            (Dy.k (day (List.take (List.length s - Int.toNat i) (List.drop (Int.toNat i) s))))),
                        AV.imm
                          (IV.int IntKind.i64
                            (Dy.d (day (List.take (List.length s - Int.toNat i) (List.drop (Int.toNat i) s))))),
                        AV.imm
                          (IV.int IntKind.i64
                            (Dy.m (day (List.take (List.length s - Int.toNat i) (List.drop (Int.toNat i) s))))),
                        AV.imm
                          (IV.int IntKind.i64
                            (Dy.w (day (List.take (List.length s - Int.toNat i) (List.drop (Int.toNat i) s))))),
                        AV.imm
                          (IV.int IntKind.i64
                            (Dy.e (day (List.take (List.length s - Int.toNat i) (List.drop (Int.toNat i) s))))),
                        AV.imm
                          (IV.int IntKind.i64
                            (Dy.t (day (List.take (List.length s - Int.toNat i) (List.drop (Int.toNat i) s)))))])),
                ((9 : Nat),
                  Ob.mk true (0 : Nat)
                    (AObj.cells
                      [AV.imm
                          (IV.int IntKind.i64
                            (Dy.k (day (List.take (List.length s - Int.toNat i) (List.drop (Int.toNat i) s))))),
                        AV.imm
                          (IV.int IntKind.i64
                            (Dy.d (day (List.take (List.length s - Int.toNat i) (List.drop (Int.toNat i) s))))),
                        AV.imm
                          (IV.int IntKind.i64
                            (Dy.m (day (List.take (List.length s - Int.toNat i) (List.drop (Int.toNat i) s))))),
                        AV.imm
                          (IV.int IntKind.i64
                            (Dy.w (day (List.take (List.length s - Int.toNat i) (List.drop (Int.toNat i) s))))),
                        AV.imm
                          (IV.int IntKind.i64
                            (Dy.e (day (List.take (List.length s - Int.toNat i) (List.drop (Int.toNat i) s))))),
                        AV.imm
                          (IV.int IntKind.i64
                            (Dy.t (day (List.take (List.length s - Int.toNat i) (List.drop (Int.toNat i) s)))))]))]
              (10 : Nat) OUT))) := by kernel_rfl
end Z09

set_option maxRecDepth 100000
namespace Z09
open Go Go.AE Go.Proofs
attribute [local irreducible] loopK evCode evSpec loopB norm
theorem d_0 (s : List
  UInt8) (i : Int) (R0 : List
  AV) (a : List
  UInt8) (o : Int) (h : Bool) (b : List
  UInt8) (p : Int) (k : Int) (d : Int) (m : Int) (w : Int) (e : Int) (t : Int) (k' : Int) (d' : Int) (m' : Int) (w' : Int) (e' : Int) (t' : Int) (OUT : List
  AV) (K : AX →
  St →
    Prop) : evCode C4i (c19 [Dir.l])
  (St.mk (lapp [AV.ptr (3 : Nat) (0 : Nat), ruleAV a o h b p k d m w e t k' d' m' w' e' t'] (lrepl (43 : Nat) AV.dead))
    (o8 s i R0) (4 : Nat) OUT)
  K =
  (K AX.normal
  (St.mk
    [AV.ptr (3 : Nat) (0 : Nat),
      AV.agg
        [AV.imm (IV.str a), AV.imm (IV.int IntKind.i64 o), AV.imm (IV.bool h), AV.imm (IV.str b),
          AV.imm (IV.int IntKind.i64 p), AV.imm (IV.int IntKind.i64 k), AV.imm (IV.int IntKind.i64 d),
          AV.imm (IV.int IntKind.i64 m), AV.imm (IV.int IntKind.i64 w), AV.imm (IV.int IntKind.i64 e),
          AV.imm (IV.int IntKind.i64 t), AV.imm (IV.int IntKind.i64 k'), AV.imm (IV.int IntKind.i64 d'),
          AV.imm (IV.int IntKind.i64 m'), AV.imm (IV.int IntKind.i64 w'), AV.imm (IV.int IntKind.i64 e'),
          AV.imm (IV.int IntKind.i64 t')],
      AV.dead, AV.ptr (4 : Nat) (0 : Nat), AV.ptr (5 : Nat) (0 : Nat), AV.dead, AV.dead, AV.dead, AV.dead, AV.dead,
      AV.dead, AV.dead, AV.dead, AV.dead, AV.dead, AV.dead, AV.dead, AV.dead, AV.dead, AV.dead, AV.dead, AV.dead,
      AV.dead, AV.dead, AV.dead, AV.dead, AV.dead, AV.dead, AV.dead, AV.dead, AV.dead, AV.dead, AV.dead, AV.dead,
      AV.dead, AV.dead, AV.dead, AV.dead, AV.dead, AV.dead, AV.dead, AV.dead, AV.dead, AV.dead, AV.dead]
    [((0 : Nat), Ob.mk true (0 : Nat) (AObj.cells R0)),
      ((1 : Nat), Ob.mk true (0 : Nat) (AObj.cells [AV.imm (IV.int IntKind.i64 (0 : Int))])),
      ((2 : Nat), Ob.mk true (0 : Nat) (AObj.cells [AV.imm (IV.int IntKind.i64 (0 : Int))])),
      ((3 : Nat), Ob.mk true (0 : Nat) (AObj.cells [AV.imm (IV.str s), AV.imm (IV.int IntKind.i64 i)])),
      ((4 : Nat),
        Ob.mk true (0 : Nat)
          (AObj.cells
            [AV.imm (IV.str a), AV.imm (IV.int IntKind.i64 o), AV.imm (IV.bool h), AV.imm (IV.str b),
              AV.imm (IV.int IntKind.i64 p), AV.imm (IV.int IntKind.i64 k), AV.imm (IV.int IntKind.i64 d),
              AV.imm (IV.int IntKind.i64 m), AV.imm (IV.int IntKind.i64 w), AV.imm (IV.int IntKind.i64 e),
              AV.imm (IV.int IntKind.i64 t), AV.imm (IV.int IntKind.i64 k'), AV.imm (IV.int IntKind.i64 d'),
              AV.imm (IV.int IntKind.i64 m'), AV.imm (IV.int IntKind.i64 w'), AV.imm (IV.int IntKind.i64 e'),
              AV.imm (IV.int IntKind.i64 t')])),
      ((5 : Nat),
        Ob.mk true (0 : Nat)
          (AObj.cells
            [AV.imm (IV.str []), AV.imm (IV.int IntKind.i64 (0 : Int)), AV.imm (IV.bool false), AV.imm (IV.str []),
              AV.imm (IV.int IntKind.i64 (0 : Int)), AV.imm (IV.int IntKind.i64 (0 : Int)),
              AV.imm (IV.int IntKind.i64 (0 : Int)), AV.imm (IV.int IntKind.i64 (0 : Int)),
              AV.imm (IV.int IntKind.i64 (0 : Int)), AV.imm (IV.int IntKind.i64 (0 : Int)),
              AV.imm (IV.int IntKind.i64 (0 : Int)), AV.imm (IV.int IntKind.i64 (0 : Int)),
              AV.imm (IV.int IntKind.i64 (0 : Int)), AV.imm (IV.int IntKind.i64 (0 : Int)),
              AV.imm (IV.int IntKind.i64 (0 : Int)), AV.imm (IV.int IntKind.i64 (0 : Int)),
              AV.imm (IV.int IntKind.i64 (0 : Int))]))]
    (6 : Nat) OUT)) := by kernel_rfl
theorem d_7 (s : List
  UInt8) (i : Int) (R0 : List
  AV) (a : List
  UInt8) (o : Int) (h : Bool) (b : List
  UInt8) (p : Int) (k : Int) (d : Int) (m : Int) (w : Int) (e : Int) (t : Int) (k' : Int) (d' : Int) (m' : Int) (w' : Int) (e' : Int) (t' : Int) (x : AV) (y : AV) (OUT : List
  AV) (X : List
  AV) (Y : List
  AV) (Z : List
  AV) (W : List
  AV) (T : Nat →
  AV) (K : AX →
  St →
    Prop) : evCode C4i (c19 [Dir.r, Dir.r, Dir.r, Dir.r, Dir.r, Dir.r, Dir.r])
  (S19c s i R0 (R17 a o h b p k d m w e t k' d' m' w' e' t') zRule x y OUT X Y Z W T) K =
  (K AX.ret
  (St.mk
    [AV.ptr (3 : Nat) (0 : Nat), x, y, AV.ptr (4 : Nat) (0 : Nat), AV.ptr (5 : Nat) (0 : Nat), T (5 : Nat), T (6 : Nat),
      T (7 : Nat), T (8 : Nat), T (9 : Nat), T (10 : Nat), T (11 : Nat), T (12 : Nat), T (13 : Nat), T (14 : Nat),
      T (15 : Nat), T (16 : Nat), T (17 : Nat), T (18 : Nat), T (19 : Nat), T (20 : Nat), T (21 : Nat), T (22 : Nat),
      T (23 : Nat), T (24 : Nat), T (25 : Nat), T (26 : Nat), T (27 : Nat), T (28 : Nat), T (29 : Nat), T (30 : Nat),
      T (31 : Nat), T (32 : Nat), T (33 : Nat), T (34 : Nat), T (35 : Nat), T (36 : Nat), T (37 : Nat), T (38 : Nat),
      T (39 : Nat), T (40 : Nat), T (41 : Nat), T (42 : Nat), T (43 : Nat),
      AV.agg
        [AV.imm (IV.str a), AV.imm (IV.int IntKind.i64 o), AV.imm (IV.bool h), AV.imm (IV.str b),
          AV.imm (IV.int IntKind.i64 p), AV.imm (IV.int IntKind.i64 k), AV.imm (IV.int IntKind.i64 d),
          AV.imm (IV.int IntKind.i64 m), AV.imm (IV.int IntKind.i64 w), AV.imm (IV.int IntKind.i64 e),
          AV.imm (IV.int IntKind.i64 t), AV.imm (IV.int IntKind.i64 k'), AV.imm (IV.int IntKind.i64 d'),
          AV.imm (IV.int IntKind.i64 m'), AV.imm (IV.int IntKind.i64 w'), AV.imm (IV.int IntKind.i64 e'),
          AV.imm (IV.int IntKind.i64 t')]]
    [((0 : Nat), Ob.mk true (0 : Nat) (AObj.cells R0)),
      ((1 : Nat), Ob.mk true (0 : Nat) (AObj.cells [AV.imm (IV.int IntKind.i64 (0 : Int))])),
      ((2 : Nat), Ob.mk true (0 : Nat) (AObj.cells [AV.imm (IV.int IntKind.i64 (0 : Int))])),
      ((3 : Nat), Ob.mk true (0 : Nat) (AObj.cells [AV.imm (IV.str s), AV.imm (IV.int IntKind.i64 i)])),
      ((4 : Nat),
        Ob.mk true (0 : Nat)
          (AObj.cells
            [AV.imm (IV.str a), AV.imm (IV.int IntKind.i64 o), AV.imm (IV.bool h), AV.imm (IV.str b),
              AV.imm (IV.int IntKind.i64 p), AV.imm (IV.int IntKind.i64 k), AV.imm (IV.int IntKind.i64 d),
              AV.imm (IV.int IntKind.i64 m), AV.imm (IV.int IntKind.i64 w), AV.imm (IV.int IntKind.i64 e),
              AV.imm (IV.int IntKind.i64 t), AV.imm (IV.int IntKind.i64 k'), AV.imm (IV.int IntKind.i64 d'),
              AV.imm (IV.int IntKind.i64 m'), AV.imm (IV.int IntKind.i64 w'), AV.imm (IV.int IntKind.i64 e'),
              AV.imm (IV.int IntKind.i64 t')])),
      ((5 : Nat),
        Ob.mk true (0 : Nat)
          (AObj.cells
            [AV.imm (IV.str a), AV.imm (IV.int IntKind.i64 o), AV.imm (IV.bool h), AV.imm (IV.str b),
              AV.imm (IV.int IntKind.i64 p), AV.imm (IV.int IntKind.i64 k), AV.imm (IV.int IntKind.i64 d),
              AV.imm (IV.int IntKind.i64 m), AV.imm (IV.int IntKind.i64 w), AV.imm (IV.int IntKind.i64 e),
              AV.imm (IV.int IntKind.i64 t), AV.imm (IV.int IntKind.i64 k'), AV.imm (IV.int IntKind.i64 d'),
              AV.imm (IV.int IntKind.i64 m'), AV.imm (IV.int IntKind.i64 w'), AV.imm (IV.int IntKind.i64 e'),
              AV.imm (IV.int IntKind.i64 t')])),
      ((6 : Nat), Ob.mk true (0 : Nat) (AObj.cells X)), ((7 : Nat), Ob.mk true (0 : Nat) (AObj.cells Y)),
      ((8 : Nat), Ob.mk true (0 : Nat) (AObj.cells Z)), ((9 : Nat), Ob.mk true (0 : Nat) (AObj.cells W))]
    (10 : Nat) OUT)) := by kernel_rfl
theorem f8_c (s : List
  UInt8) (i : Int) (R : List
  AV) (x : AV) (y : AV) (z : AV) (t : Nat →
  AV) (k : AX → St → Prop) : evCode C5 (c8 [Dir.r, Dir.r, Dir.r, Dir.r, Dir.r, Dir.l, Dir.l]) (S8 s i R x y z t) k =
  (k AX.normal
  (St.mk
    [AV.imm (IV.str s), AV.dead, AV.ptr (0 : Nat) (0 : Nat), AV.ptr (1 : Nat) (0 : Nat), AV.ptr (2 : Nat) (0 : Nat),
      AV.ptr (3 : Nat) (0 : Nat), x, y, z,
      AV.fn (16 : Nat) [] [AV.ptr (0 : Nat) (0 : Nat), AV.ptr (1 : Nat) (0 : Nat), AV.ptr (2 : Nat) (0 : Nat)],
      t (10 : Nat), t (11 : Nat), t (12 : Nat), t (13 : Nat), t (14 : Nat), t (15 : Nat), AV.ptr (3 : Nat) (0 : Nat),
      AV.ptr (3 : Nat) (0 : Nat), AV.ptr (3 : Nat) (1 : Nat), AV.imm (IV.int IntKind.i64 i), AV.imm (IV.str s),
      AV.imm (IV.int IntKind.i64 (↑(List.length s) : Int)), AV.imm (IV.bool (decide (i < (↑(List.length s) : Int)))),
      t (23 : Nat), t (24 : Nat), t (25 : Nat), t (26 : Nat), t (27 : Nat), t (28 : Nat), t (29 : Nat), t (30 : Nat),
      t (31 : Nat), t (32 : Nat), t (33 : Nat), t (34 : Nat), t (35 : Nat), t (36 : Nat), t (37 : Nat), t (38 : Nat),
      t (39 : Nat)]
    [((0 : Nat), Ob.mk true (0 : Nat) (AObj.cells R)),
      ((1 : Nat), Ob.mk true (0 : Nat) (AObj.cells [AV.imm (IV.int IntKind.i64 (0 : Int))])),
      ((2 : Nat), Ob.mk true (0 : Nat) (AObj.cells [AV.imm (IV.int IntKind.i64 (0 : Int))])),
      ((3 : Nat), Ob.mk true (0 : Nat) (AObj.cells [AV.imm (IV.str s), AV.imm (IV.int IntKind.i64 i)]))]
    (4 : Nat) [AV.ptr (0 : Nat) (0 : Nat), AV.ptr (1 : Nat) (0 : Nat), AV.ptr (2 : Nat) (0 : Nat)])) := by kernel_rfl
theorem f8_v (s : List
  UInt8) (i : Int) (a : List
  UInt8) (o : Int) (h : Bool) (b : List
  UInt8) (p : Int) (k : Int) (d : Int) (m : Int) (w : Int) (e : Int) (t : Int) (k' : Int) (d' : Int) (m' : Int) (w' : Int) (e' : Int) (t' : Int) (x : AV) (y : AV) (z : AV) (T : Nat →
  AV) (K : AX →
  St →
    Prop) : evCode C5 (c8 [Dir.r, Dir.r, Dir.r, Dir.r, Dir.r, Dir.r, Dir.l])
  (S8 s i (R17 a o h b p k d m w e t k' d' m' w' e' t') x y z T) K =
  (((i == (↑(List.length s) : Int)) = true → List.length a ≤ (9223372036854775807 : Nat)) ∧
  ((i == (↑(List.length s) : Int)) = true → List.length b ≤ (9223372036854775807 : Nat)) ∧
    brn (!(i == (↑(List.length s) : Int) && validRule a o h b p k d m w e t k' d' m' w' e' t'))
      (K (AX.panic (AV.ifc (44 : Nat) (AV.agg [AV.imm (IV.int IntKind.i64 i)])))
        (St.mk
          [AV.imm (IV.str s), AV.dead, AV.ptr (0 : Nat) (0 : Nat), AV.ptr (1 : Nat) (0 : Nat),
            AV.ptr (2 : Nat) (0 : Nat), AV.ptr (3 : Nat) (0 : Nat),
            (clean1 x),
            (clean1 y),
            (clean1 z),
            AV.fn (16 : Nat) [] [AV.ptr (0 : Nat) (0 : Nat), AV.ptr (1 : Nat) (0 : Nat), AV.ptr (2 : Nat) (0 : Nat)],
            (clean1 (T (10 : Nat))),
            (clean1 (T (11 : Nat))),
            (clean1 (T (12 : Nat))),
            (clean1 (T (13 : Nat))),
            (clean1 (T (14 : Nat))),
            (clean1 (T (15 : Nat))),
            (clean1 (T (16 : Nat))),
            (clean1 (T (17 : Nat))),
            (clean1 (T (18 : Nat))),
            (clean1 (T (19 : Nat))),
            (clean1 (T (20 : Nat))),
            (clean1 (T (21 : Nat))),
            (clean1 (T (22 : Nat))),
            (clean1 (T (23 : Nat))),
            (clean1 (T (24 : Nat))),
            (clean1 (T (25 : Nat))),
            AV.ptr (3 : Nat) (0 : Nat), AV.ptr (3 : Nat) (0 : Nat), AV.ptr (3 : Nat) (0 : Nat),
            AV.ptr (3 : Nat) (1 : Nat), AV.imm (IV.int IntKind.i64 i), AV.imm (IV.str s),
            AV.imm (IV.int IntKind.i64 (↑(List.length s) : Int)), AV.imm (IV.bool (i == (↑(List.length s) : Int))),
            AV.imm (IV.bool (i == (↑(List.length s) : Int))),
            AV.opt [((34 : Nat), true)]
              (AV.agg
                [AV.imm (IV.str a), AV.imm (IV.int IntKind.i64 o), AV.imm (IV.bool h), AV.imm (IV.str b),
                  AV.imm (IV.int IntKind.i64 p), AV.imm (IV.int IntKind.i64 k), AV.imm (IV.int IntKind.i64 d),
                  AV.imm (IV.int IntKind.i64 m), AV.imm (IV.int IntKind.i64 w), AV.imm (IV.int IntKind.i64 e),
                  AV.imm (IV.int IntKind.i64 t), AV.imm (IV.int IntKind.i64 k'), AV.imm (IV.int IntKind.i64 d'),
                  AV.imm (IV.int IntKind.i64 m'), AV.imm (IV.int IntKind.i64 w'), AV.imm (IV.int IntKind.i64 e'),
                  AV.imm (IV.int IntKind.i64 t')]),
            AV.opt [((34 : Nat), true)] (AV.imm (IV.bool (validRule a o h b p k d m w e t k' d' m' w' e' t'))),
            AV.imm (IV.bool (i == (↑(List.length s) : Int) && validRule a o h b p k d m w e t k' d' m' w' e' t')),
            (clean1 (T (38 : Nat))),
            (clean1 (T (39 : Nat)))]
          [((0 : Nat),
              Ob.mk true (0 : Nat)
                (AObj.cells
                  [AV.imm (IV.str a), AV.imm (IV.int IntKind.i64 o), AV.imm (IV.bool h), AV.imm (IV.str b),
                    AV.imm (IV.int IntKind.i64 p), AV.imm (IV.int IntKind.i64 k), AV.imm (IV.int IntKind.i64 d),
                    AV.imm (IV.int IntKind.i64 m), AV.imm (IV.int IntKind.i64 w), AV.imm (IV.int IntKind.i64 e),
                    AV.imm (IV.int IntKind.i64 t), AV.imm (IV.int IntKind.i64 k'), AV.imm (IV.int IntKind.i64 d'),
                    AV.imm (IV.int IntKind.i64 m'), AV.imm (IV.int IntKind.i64 w'), AV.imm (IV.int IntKind.i64 e'),
                    AV.imm (IV.int IntKind.i64 t')])),
            ((1 : Nat), Ob.mk true (0 : Nat) (AObj.cells [AV.imm (IV.int IntKind.i64 (0 : Int))])),
            ((2 : Nat), Ob.mk true (0 : Nat) (AObj.cells [AV.imm (IV.int IntKind.i64 (0 : Int))])),
            ((3 : Nat), Ob.mk true (0 : Nat) (AObj.cells [AV.imm (IV.str s), AV.imm (IV.int IntKind.i64 i)]))]
          (4 : Nat) [AV.ptr (0 : Nat) (0 : Nat), AV.ptr (1 : Nat) (0 : Nat), AV.ptr (2 : Nat) (0 : Nat)]))
      (K AX.normal
        (St.mk
          [AV.imm (IV.str s), AV.dead, AV.ptr (0 : Nat) (0 : Nat), AV.ptr (1 : Nat) (0 : Nat),
            AV.ptr (2 : Nat) (0 : Nat), AV.ptr (3 : Nat) (0 : Nat),
            (clean1 x),
            (clean1 y),
            (clean1 z),
            AV.fn (16 : Nat) [] [AV.ptr (0 : Nat) (0 : Nat), AV.ptr (1 : Nat) (0 : Nat), AV.ptr (2 : Nat) (0 : Nat)],
            (clean1 (T (10 : Nat))),
            (clean1 (T (11 : Nat))),
            (clean1 (T (12 : Nat))),
            (clean1 (T (13 : Nat))),
            (clean1 (T (14 : Nat))),
            (clean1 (T (15 : Nat))),
            (clean1 (T (16 : Nat))),
            (clean1 (T (17 : Nat))),
            (clean1 (T (18 : Nat))),
            (clean1 (T (19 : Nat))),
            (clean1 (T (20 : Nat))),
            (clean1 (T (21 : Nat))),
            (clean1 (T (22 : Nat))),
            (clean1 (T (23 : Nat))),
            (clean1 (T (24 : Nat))),
            (clean1 (T (25 : Nat))),
            AV.ptr (3 : Nat) (0 : Nat), AV.ptr (3 : Nat) (0 : Nat), AV.ptr (3 : Nat) (0 : Nat),
            AV.ptr (3 : Nat) (1 : Nat), AV.imm (IV.int IntKind.i64 i), AV.imm (IV.str s),
            AV.imm (IV.int IntKind.i64 (↑(List.length s) : Int)), AV.imm (IV.bool (i == (↑(List.length s) : Int))),
            AV.imm (IV.bool (i == (↑(List.length s) : Int))),
            AV.opt [((34 : Nat), true)]
              (AV.agg
                [AV.imm (IV.str a), AV.imm (IV.int IntKind.i64 o), AV.imm (IV.bool h), AV.imm (IV.str b),
                  AV.imm (IV.int IntKind.i64 p), AV.imm (IV.int IntKind.i64 k), AV.imm (IV.int IntKind.i64 d),
                  AV.imm (IV.int IntKind.i64 m), AV.imm (IV.int IntKind.i64 w), AV.imm (IV.int IntKind.i64 e),
                  AV.imm (IV.int IntKind.i64 t), AV.imm (IV.int IntKind.i64 k'), AV.imm (IV.int IntKind.i64 d'),
                  AV.imm (IV.int IntKind.i64 m'), AV.imm (IV.int IntKind.i64 w'), AV.imm (IV.int IntKind.i64 e'),
                  AV.imm (IV.int IntKind.i64 t')]),
            AV.opt [((34 : Nat), true)] (AV.imm (IV.bool (validRule a o h b p k d m w e t k' d' m' w' e' t'))),
            AV.imm (IV.bool (i == (↑(List.length s) : Int) && validRule a o h b p k d m w e t k' d' m' w' e' t')),
            AV.tup [],
            (clean1 (T (39 : Nat)))]
          [((0 : Nat),
              Ob.mk true (0 : Nat)
                (AObj.cells
                  [AV.imm (IV.str a), AV.imm (IV.int IntKind.i64 o), AV.imm (IV.bool h), AV.imm (IV.str b),
                    AV.imm (IV.int IntKind.i64 p), AV.imm (IV.int IntKind.i64 k), AV.imm (IV.int IntKind.i64 d),
                    AV.imm (IV.int IntKind.i64 m), AV.imm (IV.int IntKind.i64 w), AV.imm (IV.int IntKind.i64 e),
                    AV.imm (IV.int IntKind.i64 t), AV.imm (IV.int IntKind.i64 k'), AV.imm (IV.int IntKind.i64 d'),
                    AV.imm (IV.int IntKind.i64 m'), AV.imm (IV.int IntKind.i64 w'), AV.imm (IV.int IntKind.i64 e'),
                    AV.imm (IV.int IntKind.i64 t')])),
            ((1 : Nat), Ob.mk true (0 : Nat) (AObj.cells [AV.imm (IV.int IntKind.i64 (0 : Int))])),
            ((2 : Nat), Ob.mk true (0 : Nat) (AObj.cells [AV.imm (IV.int IntKind.i64 (0 : Int))])),
            ((3 : Nat),
              Ob.mk true (0 : Nat)
                (AObj.cells
                  [AV.imm (IV.str s), AV.imm (IV.int IntKind.i64 (IntKind.wrap IntKind.i64 (i + (0 : Int))))]))]
          (4 : Nat)
          [AV.ptr (0 : Nat) (0 : Nat), AV.ptr (1 : Nat) (0 : Nat), AV.ptr (2 : Nat) (0 : Nat)]))) := by kernel_rfl
theorem f8_vc (s : List
  UInt8) (i : Int) (a : List
  UInt8) (o : Int) (h : Bool) (b : List
  UInt8) (p : Int) (k : Int) (d : Int) (m : Int) (w : Int) (e : Int) (t : Int) (k' : Int) (d' : Int) (m' : Int) (w' : Int) (e' : Int) (t' : Int) (x : AV) (y : AV) (z : AV) (R4 : List
  AV) (R5 : List
  AV) (X : List
  AV) (Y : List
  AV) (Z : List
  AV) (W : List
  AV) (T : Nat →
  AV) (K : AX →
  St →
    Prop) : evCode C5 (c8 [Dir.r, Dir.r, Dir.r, Dir.r, Dir.r, Dir.r, Dir.l])
  (S8c s i (R17 a o h b p k d m w e t k' d' m' w' e' t') x y z R4 R5 X Y Z W T) K =
  (((i == (↑(List.length s) : Int)) = true → List.length a ≤ (9223372036854775807 : Nat)) ∧
  ((i == (↑(List.length s) : Int)) = true → List.length b ≤ (9223372036854775807 : Nat)) ∧
    brn (!(i == (↑(List.length s) : Int) && validRule a o h b p k d m w e t k' d' m' w' e' t'))
      (K (AX.panic (AV.ifc (44 : Nat) (AV.agg [AV.imm (IV.int IntKind.i64 i)])))
        (St.mk
          [AV.imm (IV.str s), AV.dead, AV.ptr (0 : Nat) (0 : Nat), AV.ptr (1 : Nat) (0 : Nat),
            AV.ptr (2 : Nat) (0 : Nat), AV.ptr (3 : Nat) (0 : Nat),
            (clean1 x),
            (clean1 y),
            (clean1 z),
            AV.fn (16 : Nat) [] [AV.ptr (0 : Nat) (0 : Nat), AV.ptr (1 : Nat) (0 : Nat), AV.ptr (2 : Nat) (0 : Nat)],
            (clean1 (T (10 : Nat))),
            (clean1 (T (11 : Nat))),
            (clean1 (T (12 : Nat))),
            (clean1 (T (13 : Nat))),
            (clean1 (T (14 : Nat))),
            (clean1 (T (15 : Nat))),
            (clean1 (T (16 : Nat))),
            (clean1 (T (17 : Nat))),
            (clean1 (T (18 : Nat))),
            (clean1 (T (19 : Nat))),
            (clean1 (T (20 : Nat))),
            (clean1 (T (21 : Nat))),
            (clean1 (T (22 : Nat))),
            (clean1 (T (23 : Nat))),
            (clean1 (T (24 : Nat))),
            (clean1 (T (25 : Nat))),
            AV.ptr (3 : Nat) (0 : Nat), AV.ptr (3 : Nat) (0 : Nat), AV.ptr (3 : Nat) (0 : Nat),
            AV.ptr (3 : Nat) (1 : Nat), AV.imm (IV.int IntKind.i64 i), AV.imm (IV.str s),
            AV.imm (IV.int IntKind.i64 (↑(List.length s) : Int)), AV.imm (IV.bool (i == (↑(List.length s) : Int))),
            AV.imm (IV.bool (i == (↑(List.length s) : Int))),
            AV.opt [((34 : Nat), true)]
              (AV.agg
                [AV.imm (IV.str a), AV.imm (IV.int IntKind.i64 o), AV.imm (IV.bool h), AV.imm (IV.str b),
                  AV.imm (IV.int IntKind.i64 p), AV.imm (IV.int IntKind.i64 k), AV.imm (IV.int IntKind.i64 d),
                  AV.imm (IV.int IntKind.i64 m), AV.imm (IV.int IntKind.i64 w), AV.imm (IV.int IntKind.i64 e),
                  AV.imm (IV.int IntKind.i64 t), AV.imm (IV.int IntKind.i64 k'), AV.imm (IV.int IntKind.i64 d'),
                  AV.imm (IV.int IntKind.i64 m'), AV.imm (IV.int IntKind.i64 w'), AV.imm (IV.int IntKind.i64 e'),
                  AV.imm (IV.int IntKind.i64 t')]),
            AV.opt [((34 : Nat), true)] (AV.imm (IV.bool (validRule a o h b p k d m w e t k' d' m' w' e' t'))),
            AV.imm (IV.bool (i == (↑(List.length s) : Int) && validRule a o h b p k d m w e t k' d' m' w' e' t')),
            (clean1 (T (38 : Nat))),
            (clean1 (T (39 : Nat)))]
          [((0 : Nat),
              Ob.mk true (0 : Nat)
                (AObj.cells
                  [AV.imm (IV.str a), AV.imm (IV.int IntKind.i64 o), AV.imm (IV.bool h), AV.imm (IV.str b),
                    AV.imm (IV.int IntKind.i64 p), AV.imm (IV.int IntKind.i64 k), AV.imm (IV.int IntKind.i64 d),
                    AV.imm (IV.int IntKind.i64 m), AV.imm (IV.int IntKind.i64 w), AV.imm (IV.int IntKind.i64 e),
                    AV.imm (IV.int IntKind.i64 t), AV.imm (IV.int IntKind.i64 k'), AV.imm (IV.int IntKind.i64 d'),
                    AV.imm (IV.int IntKind.i64 m'), AV.imm (IV.int IntKind.i64 w'), AV.imm (IV.int IntKind.i64 e'),
                    AV.imm (IV.int IntKind.i64 t')])),
            ((1 : Nat), Ob.mk true (0 : Nat) (AObj.cells [AV.imm (IV.int IntKind.i64 (0 : Int))])),
            ((2 : Nat), Ob.mk true (0 : Nat) (AObj.cells [AV.imm (IV.int IntKind.i64 (0 : Int))])),
            ((3 : Nat), Ob.mk true (0 : Nat) (AObj.cells [AV.imm (IV.str s), AV.imm (IV.int IntKind.i64 i)])),
            ((4 : Nat), Ob.mk true (0 : Nat) (AObj.cells R4)), ((5 : Nat), Ob.mk true (0 : Nat) (AObj.cells R5)),
            ((6 : Nat), Ob.mk true (0 : Nat) (AObj.cells X)), ((7 : Nat), Ob.mk true (0 : Nat) (AObj.cells Y)),
            ((8 : Nat), Ob.mk true (0 : Nat) (AObj.cells Z)), ((9 : Nat), Ob.mk true (0 : Nat) (AObj.cells W))]
          (10 : Nat) [AV.ptr (0 : Nat) (0 : Nat), AV.ptr (1 : Nat) (0 : Nat), AV.ptr (2 : Nat) (0 : Nat)]))
      (K AX.normal
        (St.mk
          [AV.imm (IV.str s), AV.dead, AV.ptr (0 : Nat) (0 : Nat), AV.ptr (1 : Nat) (0 : Nat),
            AV.ptr (2 : Nat) (0 : Nat), AV.ptr (3 : Nat) (0 : Nat),
            (clean1 x),
            (clean1 y),
            (clean1 z),
            AV.fn (16 : Nat) [] [AV.ptr (0 : Nat) (0 : Nat), AV.ptr (1 : Nat) (0 : Nat), AV.ptr (2 : Nat) (0 : Nat)],
            (clean1 (T (10 : Nat))),
            (clean1 (T (11 : Nat))),
            (clean1 (T (12 : Nat))),
            (clean1 (T (13 : Nat))),
            (clean1 (T (14 : Nat))),
            (clean1 (T (15 : Nat))),
            (clean1 (T (16 : Nat))),
            (clean1 (T (17 : Nat))),
            (clean1 (T (18 : Nat))),
            (clean1 (T (19 : Nat))),
            (clean1 (T (20 : Nat))),
            (clean1 (T (21 : Nat))),
            (clean1 (T (22 : Nat))),
            (clean1 (T (23 : Nat))),
            (clean1 (T (24 : Nat))),
            (clean1 (T (25 : Nat))),
            AV.ptr (3 : Nat) (0 : Nat), AV.ptr (3 : Nat) (0 : Nat), AV.ptr (3 : Nat) (0 : Nat),
            AV.ptr (3 : Nat) (1 : Nat), AV.imm (IV.int IntKind.i64 i), AV.imm (IV.str s),
            AV.imm (IV.int IntKind.i64 (↑(List.length s) : Int)), AV.imm (IV.bool (i == (↑(List.length s) : Int))),
            AV.imm (IV.bool (i == (↑(List.length s) : Int))),
            AV.opt [((34 : Nat), true)]
              (AV.agg
                [AV.imm (IV.str a), AV.imm (IV.int IntKind.i64 o), AV.imm (IV.bool h), AV.imm (IV.str b),
                  AV.imm (IV.int IntKind.i64 p), AV.imm (IV.int IntKind.i64 k), AV.imm (IV.int IntKind.i64 d),
                  AV.imm (IV.int IntKind.i64 m), AV.imm (IV.int IntKind.i64 w), AV.imm (IV.int IntKind.i64 e),
                  AV.imm (IV.int IntKind.i64 t), AV.imm (IV.int IntKind.i64 k'), AV.imm (IV.int IntKind.i64 d'),
                  AV.imm (IV.int IntKind.i64 m'), AV.imm (IV.int IntKind.i64 w'), AV.imm (IV.int IntKind.i64 e'),
                  AV.imm (IV.int IntKind.i64 t')]),
            AV.opt [((34 : Nat), true)] (AV.imm (IV.bool (validRule a o h b p k d m w e t k' d' m' w' e' t'))),
            AV.imm (IV.bool (i == (↑(List.length s) : Int) && validRule a o h b p k d m w e t k' d' m' w' e' t')),
            AV.tup [],
            (clean1 (T (39 : Nat)))]
          [((0 : Nat),
              Ob.mk true (0 : Nat)
                (AObj.cells
                  [AV.imm (IV.str a), AV.imm (IV.int IntKind.i64 o), AV.imm (IV.bool h), AV.imm (IV.str b),
                    AV.imm (IV.int IntKind.i64 p), AV.imm (IV.int IntKind.i64 k), AV.imm (IV.int IntKind.i64 d),
                    AV.imm (IV.int IntKind.i64 m), AV.imm (IV.int IntKind.i64 w), AV.imm (IV.int IntKind.i64 e),
                    AV.imm (IV.int IntKind.i64 t), AV.imm (IV.int IntKind.i64 k'), AV.imm (IV.int IntKind.i64 d'),
                    AV.imm (IV.int IntKind.i64 m'), AV.imm (IV.int IntKind.i64 w'), AV.imm (IV.int IntKind.i64 e'),
                    AV.imm (IV.int IntKind.i64 t')])),
            ((1 : Nat), Ob.mk true (0 : Nat) (AObj.cells [AV.imm (IV.int IntKind.i64 (0 : Int))])),
            ((2 : Nat), Ob.mk true (0 : Nat) (AObj.cells [AV.imm (IV.int IntKind.i64 (0 : Int))])),
            ((3 : Nat),
              Ob.mk true (0 : Nat)
                (AObj.cells
                  [AV.imm (IV.str s), AV.imm (IV.int IntKind.i64 (IntKind.wrap IntKind.i64 (i + (0 : Int))))])),
            ((4 : Nat), Ob.mk true (0 : Nat) (AObj.cells R4)), ((5 : Nat), Ob.mk true (0 : Nat) (AObj.cells R5)),
            ((6 : Nat), Ob.mk true (0 : Nat) (AObj.cells X)), ((7 : Nat), Ob.mk true (0 : Nat) (AObj.cells Y)),
            ((8 : Nat), Ob.mk true (0 : Nat) (AObj.cells Z)), ((9 : Nat), Ob.mk true (0 : Nat) (AObj.cells W))]
          (10 : Nat)
          [AV.ptr (0 : Nat) (0 : Nat), AV.ptr (1 : Nat) (0 : Nat), AV.ptr (2 : Nat) (0 : Nat)]))) := by kernel_rfl
theorem f8_z (s : List
  UInt8) (i : Int) (a : List
  UInt8) (o : Int) (h : Bool) (b : List
  UInt8) (p : Int) (k : Int) (d : Int) (m : Int) (w : Int) (e : Int) (t : Int) (k' : Int) (d' : Int) (m' : Int) (w' : Int) (e' : Int) (t' : Int) (x : AV) (y : AV) (z : AV) (T : Nat →
  AV) (K : AX →
  St →
    Prop) : evCode C5 (c8 [Dir.r, Dir.r, Dir.r, Dir.r, Dir.r, Dir.r, Dir.r])
  (S8 s i (R17 a o h b p k d m w e t k' d' m' w' e' t') x y z T) K =
  (K AX.ret
  (St.mk
    [AV.imm (IV.str s), AV.dead, AV.ptr (0 : Nat) (0 : Nat), AV.ptr (1 : Nat) (0 : Nat), AV.ptr (2 : Nat) (0 : Nat),
      AV.ptr (3 : Nat) (0 : Nat), x, y, z,
      AV.fn (16 : Nat) [] [AV.ptr (0 : Nat) (0 : Nat), AV.ptr (1 : Nat) (0 : Nat), AV.ptr (2 : Nat) (0 : Nat)],
      T (10 : Nat), T (11 : Nat), T (12 : Nat), T (13 : Nat), T (14 : Nat), T (15 : Nat), T (16 : Nat), T (17 : Nat),
      T (18 : Nat), T (19 : Nat), T (20 : Nat), T (21 : Nat), T (22 : Nat), T (23 : Nat), T (24 : Nat), T (25 : Nat),
      T (26 : Nat), T (27 : Nat), T (28 : Nat), T (29 : Nat), T (30 : Nat), T (31 : Nat), T (32 : Nat), T (33 : Nat),
      T (34 : Nat), T (35 : Nat), T (36 : Nat), T (37 : Nat), T (38 : Nat),
      AV.agg
        [AV.imm (IV.str a), AV.imm (IV.int IntKind.i64 o), AV.imm (IV.bool h), AV.imm (IV.str b),
          AV.imm (IV.int IntKind.i64 p), AV.imm (IV.int IntKind.i64 k), AV.imm (IV.int IntKind.i64 d),
          AV.imm (IV.int IntKind.i64 m), AV.imm (IV.int IntKind.i64 w), AV.imm (IV.int IntKind.i64 e),
          AV.imm (IV.int IntKind.i64 t), AV.imm (IV.int IntKind.i64 k'), AV.imm (IV.int IntKind.i64 d'),
          AV.imm (IV.int IntKind.i64 m'), AV.imm (IV.int IntKind.i64 w'), AV.imm (IV.int IntKind.i64 e'),
          AV.imm (IV.int IntKind.i64 t')]]
    [((0 : Nat),
        Ob.mk true (0 : Nat)
          (AObj.cells
            [AV.imm (IV.str a), AV.imm (IV.int IntKind.i64 o), AV.imm (IV.bool h), AV.imm (IV.str b),
              AV.imm (IV.int IntKind.i64 p), AV.imm (IV.int IntKind.i64 k), AV.imm (IV.int IntKind.i64 d),
              AV.imm (IV.int IntKind.i64 m), AV.imm (IV.int IntKind.i64 w), AV.imm (IV.int IntKind.i64 e),
              AV.imm (IV.int IntKind.i64 t), AV.imm (IV.int IntKind.i64 k'), AV.imm (IV.int IntKind.i64 d'),
              AV.imm (IV.int IntKind.i64 m'), AV.imm (IV.int IntKind.i64 w'), AV.imm (IV.int IntKind.i64 e'),
              AV.imm (IV.int IntKind.i64 t')])),
      ((1 : Nat), Ob.mk true (0 : Nat) (AObj.cells [AV.imm (IV.int IntKind.i64 (0 : Int))])),
      ((2 : Nat), Ob.mk true (0 : Nat) (AObj.cells [AV.imm (IV.int IntKind.i64 (0 : Int))])),
      ((3 : Nat), Ob.mk true (0 : Nat) (AObj.cells [AV.imm (IV.str s), AV.imm (IV.int IntKind.i64 i)]))]
    (4 : Nat) [AV.ptr (0 : Nat) (0 : Nat), AV.ptr (1 : Nat) (0 : Nat), AV.ptr (2 : Nat) (0 : Nat)])) := by kernel_rfl
theorem f8_zc (s : List
  UInt8) (i : Int) (a : List
  UInt8) (o : Int) (h : Bool) (b : List
  UInt8) (p : Int) (k : Int) (d : Int) (m : Int) (w : Int) (e : Int) (t : Int) (k' : Int) (d' : Int) (m' : Int) (w' : Int) (e' : Int) (t' : Int) (x : AV) (y : AV) (z : AV) (R4 : List
  AV) (R5 : List
  AV) (X : List
  AV) (Y : List
  AV) (Z : List
  AV) (W : List
  AV) (T : Nat →
  AV) (K : AX →
  St →
    Prop) : evCode C5 (c8 [Dir.r, Dir.r, Dir.r, Dir.r, Dir.r, Dir.r, Dir.r])
  (S8c s i (R17 a o h b p k d m w e t k' d' m' w' e' t') x y z R4 R5 X Y Z W T) K =
  (K AX.ret
  (St.mk
    [AV.imm (IV.str s), AV.dead, AV.ptr (0 : Nat) (0 : Nat), AV.ptr (1 : Nat) (0 : Nat), AV.ptr (2 : Nat) (0 : Nat),
      AV.ptr (3 : Nat) (0 : Nat), x, y, z,
      AV.fn (16 : Nat) [] [AV.ptr (0 : Nat) (0 : Nat), AV.ptr (1 : Nat) (0 : Nat), AV.ptr (2 : Nat) (0 : Nat)],
      T (10 : Nat), T (11 : Nat), T (12 : Nat), T (13 : Nat), T (14 : Nat), T (15 : Nat), T (16 : Nat), T (17 : Nat),
      T (18 : Nat), T (19 : Nat), T (20 : Nat), T (21 : Nat), T (22 : Nat), T (23 : Nat), T (24 : Nat), T (25 : Nat),
      T (26 : Nat), T (27 : Nat), T (28 : Nat), T (29 : Nat), T (30 : Nat), T (31 : Nat), T (32 : Nat), T (33 : Nat),
      T (34 : Nat), T (35 : Nat), T (36 : Nat), T (37 : Nat), T (38 : Nat),
      AV.agg
        [AV.imm (IV.str a), AV.imm (IV.int IntKind.i64 o), AV.imm (IV.bool h), AV.imm (IV.str b),
          AV.imm (IV.int IntKind.i64 p), AV.imm (IV.int IntKind.i64 k), AV.imm (IV.int IntKind.i64 d),
          AV.imm (IV.int IntKind.i64 m), AV.imm (IV.int IntKind.i64 w), AV.imm (IV.int IntKind.i64 e),
          AV.imm (IV.int IntKind.i64 t), AV.imm (IV.int IntKind.i64 k'), AV.imm (IV.int IntKind.i64 d'),
          AV.imm (IV.int IntKind.i64 m'), AV.imm (IV.int IntKind.i64 w'), AV.imm (IV.int IntKind.i64 e'),
          AV.imm (IV.int IntKind.i64 t')]]
    [((0 : Nat),
        Ob.mk true (0 : Nat)
          (AObj.cells
            [AV.imm (IV.str a), AV.imm (IV.int IntKind.i64 o), AV.imm (IV.bool h), AV.imm (IV.str b),
              AV.imm (IV.int IntKind.i64 p), AV.imm (IV.int IntKind.i64 k), AV.imm (IV.int IntKind.i64 d),
              AV.imm (IV.int IntKind.i64 m), AV.imm (IV.int IntKind.i64 w), AV.imm (IV.int IntKind.i64 e),
              AV.imm (IV.int IntKind.i64 t), AV.imm (IV.int IntKind.i64 k'), AV.imm (IV.int IntKind.i64 d'),
              AV.imm (IV.int IntKind.i64 m'), AV.imm (IV.int IntKind.i64 w'), AV.imm (IV.int IntKind.i64 e'),
              AV.imm (IV.int IntKind.i64 t')])),
      ((1 : Nat), Ob.mk true (0 : Nat) (AObj.cells [AV.imm (IV.int IntKind.i64 (0 : Int))])),
      ((2 : Nat), Ob.mk true (0 : Nat) (AObj.cells [AV.imm (IV.int IntKind.i64 (0 : Int))])),
      ((3 : Nat), Ob.mk true (0 : Nat) (AObj.cells [AV.imm (IV.str s), AV.imm (IV.int IntKind.i64 i)])),
      ((4 : Nat), Ob.mk true (0 : Nat) (AObj.cells R4)), ((5 : Nat), Ob.mk true (0 : Nat) (AObj.cells R5)),
      ((6 : Nat), Ob.mk true (0 : Nat) (AObj.cells X)), ((7 : Nat), Ob.mk true (0 : Nat) (AObj.cells Y)),
      ((8 : Nat), Ob.mk true (0 : Nat) (AObj.cells Z)), ((9 : Nat), Ob.mk true (0 : Nat) (AObj.cells W))]
    (10 : Nat) [AV.ptr (0 : Nat) (0 : Nat), AV.ptr (1 : Nat) (0 : Nat), AV.ptr (2 : Nat) (0 : Nat)])) := by kernel_rfl
theorem f16_n (R : List AV) (K : AX → St → Prop) : evCode C16 (c16 [Dir.r]) (E16 R nilV) K =
  (K AX.normal
  (St.mk
    [AV.ptr (0 : Nat) (0 : Nat), AV.ptr (1 : Nat) (0 : Nat), AV.ptr (2 : Nat) (0 : Nat), AV.imm (IV.val Value.nilIface),
      AV.dead, AV.dead, AV.imm (IV.val Value.nilIface), AV.imm (IV.val Value.nilIface), AV.imm (IV.bool false), AV.dead,
      AV.dead, AV.dead, AV.dead, AV.dead, AV.dead, AV.dead, AV.dead, AV.dead, AV.dead]
    [((0 : Nat), Ob.mk true (0 : Nat) (AObj.cells R)),
      ((1 : Nat), Ob.mk true (0 : Nat) (AObj.cells [AV.imm (IV.int IntKind.i64 (0 : Int))])),
      ((2 : Nat), Ob.mk true (0 : Nat) (AObj.cells [AV.imm (IV.int IntKind.i64 (0 : Int))]))]
    (3 : Nat) [AV.ptr (0 : Nat) (0 : Nat), AV.ptr (1 : Nat) (0 : Nat), AV.ptr (2 : Nat) (0 : Nat)])) := by kernel_rfl
theorem f16_s (r0 : AV) (r1 : AV) (r2 : AV) (r3 : AV) (r4 : AV) (r5 : AV) (r6 : AV) (r7 : AV) (r8 : AV) (r9 : AV) (r10 : AV) (r11 : AV) (r12 : AV) (r13 : AV) (r14 : AV) (r15 : AV) (r16 : AV) (j : Int) (K : AX →
  St →
    Prop) : evCode C16 (c16 [Dir.r])
  (E16 [r0, r1, r2, r3, r4, r5, r6, r7, r8, r9, r10, r11, r12, r13, r14, r15, r16]
    (AV.ifc (44 : TypeId) (AV.agg [i64 j])))
  K =
  ((K AX.ret
      (St.mk
        [AV.ptr (0 : Nat) (0 : Nat), AV.ptr (1 : Nat) (0 : Nat), AV.ptr (2 : Nat) (0 : Nat),
          AV.ifc (44 : Nat) (AV.agg [AV.imm (IV.int IntKind.i64 j)]), AV.ptr (3 : Nat) (0 : Nat), AV.imm (IV.bool true),
          AV.ifc (44 : Nat) (AV.agg [AV.imm (IV.int IntKind.i64 j)]),
          AV.ifc (44 : Nat) (AV.agg [AV.imm (IV.int IntKind.i64 j)]), AV.imm (IV.bool true),
          AV.tup [AV.agg [AV.imm (IV.int IntKind.i64 j)], AV.imm (IV.bool true)],
          AV.ifc (44 : Nat) (AV.agg [AV.imm (IV.int IntKind.i64 j)]),
          AV.tup [AV.agg [AV.imm (IV.int IntKind.i64 j)], AV.imm (IV.bool true)],
          AV.agg [AV.imm (IV.int IntKind.i64 j)], AV.imm (IV.bool true), AV.imm (IV.bool true),
          AV.agg
            [AV.imm (IV.str []), AV.imm (IV.int IntKind.i64 (0 : Int)), AV.imm (IV.bool false), AV.imm (IV.str []),
              AV.imm (IV.int IntKind.i64 (0 : Int)), AV.imm (IV.int IntKind.i64 (0 : Int)),
              AV.imm (IV.int IntKind.i64 (0 : Int)), AV.imm (IV.int IntKind.i64 (0 : Int)),
              AV.imm (IV.int IntKind.i64 (0 : Int)), AV.imm (IV.int IntKind.i64 (0 : Int)),
              AV.imm (IV.int IntKind.i64 (0 : Int)), AV.imm (IV.int IntKind.i64 (0 : Int)),
              AV.imm (IV.int IntKind.i64 (0 : Int)), AV.imm (IV.int IntKind.i64 (0 : Int)),
              AV.imm (IV.int IntKind.i64 (0 : Int)), AV.imm (IV.int IntKind.i64 (0 : Int)),
              AV.imm (IV.int IntKind.i64 (0 : Int))],
          AV.ptr (3 : Nat) (0 : Nat), AV.imm (IV.int IntKind.i64 j), AV.dead]
        [((0 : Nat),
            Ob.mk true (0 : Nat)
              (AObj.cells
                [AV.imm (IV.str []), AV.imm (IV.int IntKind.i64 (0 : Int)), AV.imm (IV.bool false), AV.imm (IV.str []),
                  AV.imm (IV.int IntKind.i64 (0 : Int)), AV.imm (IV.int IntKind.i64 (0 : Int)),
                  AV.imm (IV.int IntKind.i64 (0 : Int)), AV.imm (IV.int IntKind.i64 (0 : Int)),
                  AV.imm (IV.int IntKind.i64 (0 : Int)), AV.imm (IV.int IntKind.i64 (0 : Int)),
                  AV.imm (IV.int IntKind.i64 (0 : Int)), AV.imm (IV.int IntKind.i64 (0 : Int)),
                  AV.imm (IV.int IntKind.i64 (0 : Int)), AV.imm (IV.int IntKind.i64 (0 : Int)),
                  AV.imm (IV.int IntKind.i64 (0 : Int)), AV.imm (IV.int IntKind.i64 (0 : Int)),
                  AV.imm (IV.int IntKind.i64 (0 : Int))])),
          ((1 : Nat), Ob.mk true (0 : Nat) (AObj.cells [AV.imm (IV.int IntKind.i64 (14 : Int))])),
          ((2 : Nat), Ob.mk true (0 : Nat) (AObj.cells [AV.imm (IV.int IntKind.i64 j)])),
          ((3 : Nat), Ob.mk true (0 : Nat) (AObj.cells [AV.imm (IV.int IntKind.i64 j)]))]
        (4 : Nat) [AV.ptr (0 : Nat) (0 : Nat), AV.ptr (1 : Nat) (0 : Nat), AV.ptr (2 : Nat) (0 : Nat)]) ∧
    K AX.ret
        (St.mk
          [AV.ptr (0 : Nat) (0 : Nat), AV.ptr (1 : Nat) (0 : Nat), AV.ptr (2 : Nat) (0 : Nat),
            AV.ifc (44 : Nat) (AV.agg [AV.imm (IV.int IntKind.i64 j)]), AV.ptr (3 : Nat) (0 : Nat),
            AV.imm (IV.bool true), AV.ifc (44 : Nat) (AV.agg [AV.imm (IV.int IntKind.i64 j)]),
            AV.ifc (44 : Nat) (AV.agg [AV.imm (IV.int IntKind.i64 j)]), AV.imm (IV.bool true),
            AV.tup [AV.agg [AV.imm (IV.int IntKind.i64 j)], AV.imm (IV.bool true)],
            AV.ifc (44 : Nat) (AV.agg [AV.imm (IV.int IntKind.i64 j)]),
            AV.tup [AV.agg [AV.imm (IV.int IntKind.i64 j)], AV.imm (IV.bool true)],
            AV.agg [AV.imm (IV.int IntKind.i64 j)], AV.imm (IV.bool true), AV.imm (IV.bool true),
            AV.agg
              [AV.imm (IV.str []), AV.imm (IV.int IntKind.i64 (0 : Int)), AV.imm (IV.bool false), AV.imm (IV.str []),
                AV.imm (IV.int IntKind.i64 (0 : Int)), AV.imm (IV.int IntKind.i64 (0 : Int)),
                AV.imm (IV.int IntKind.i64 (0 : Int)), AV.imm (IV.int IntKind.i64 (0 : Int)),
                AV.imm (IV.int IntKind.i64 (0 : Int)), AV.imm (IV.int IntKind.i64 (0 : Int)),
                AV.imm (IV.int IntKind.i64 (0 : Int)), AV.imm (IV.int IntKind.i64 (0 : Int)),
                AV.imm (IV.int IntKind.i64 (0 : Int)), AV.imm (IV.int IntKind.i64 (0 : Int)),
                AV.imm (IV.int IntKind.i64 (0 : Int)), AV.imm (IV.int IntKind.i64 (0 : Int)),
                AV.imm (IV.int IntKind.i64 (0 : Int))],
            AV.ptr (3 : Nat) (0 : Nat), AV.imm (IV.int IntKind.i64 j), AV.dead]
          [((0 : Nat),
              Ob.mk true (0 : Nat)
                (AObj.cells
                  [AV.imm (IV.str []), AV.imm (IV.int IntKind.i64 (0 : Int)), AV.imm (IV.bool false),
                    AV.imm (IV.str []), AV.imm (IV.int IntKind.i64 (0 : Int)), AV.imm (IV.int IntKind.i64 (0 : Int)),
                    AV.imm (IV.int IntKind.i64 (0 : Int)), AV.imm (IV.int IntKind.i64 (0 : Int)),
                    AV.imm (IV.int IntKind.i64 (0 : Int)), AV.imm (IV.int IntKind.i64 (0 : Int)),
                    AV.imm (IV.int IntKind.i64 (0 : Int)), AV.imm (IV.int IntKind.i64 (0 : Int)),
                    AV.imm (IV.int IntKind.i64 (0 : Int)), AV.imm (IV.int IntKind.i64 (0 : Int)),
                    AV.imm (IV.int IntKind.i64 (0 : Int)), AV.imm (IV.int IntKind.i64 (0 : Int)),
                    AV.imm (IV.int IntKind.i64 (0 : Int))])),
            ((1 : Nat), Ob.mk true (0 : Nat) (AObj.cells [AV.imm (IV.int IntKind.i64 (14 : Int))])),
            ((2 : Nat), Ob.mk true (0 : Nat) (AObj.cells [AV.imm (IV.int IntKind.i64 j)])),
            ((3 : Nat), Ob.mk true (0 : Nat) (AObj.cells [AV.imm (IV.int IntKind.i64 j)]))]
          (4 : Nat) [AV.ptr (0 : Nat) (0 : Nat), AV.ptr (1 : Nat) (0 : Nat), AV.ptr (2 : Nat) (0 : Nat)]) ∧
      K AX.ret
        (St.mk
          [AV.ptr (0 : Nat) (0 : Nat), AV.ptr (1 : Nat) (0 : Nat), AV.ptr (2 : Nat) (0 : Nat),
            AV.ifc (44 : Nat) (AV.agg [AV.imm (IV.int IntKind.i64 j)]), AV.ptr (3 : Nat) (0 : Nat),
            AV.imm (IV.bool true), AV.ifc (44 : Nat) (AV.agg [AV.imm (IV.int IntKind.i64 j)]),
            AV.ifc (44 : Nat) (AV.agg [AV.imm (IV.int IntKind.i64 j)]), AV.imm (IV.bool true),
            AV.tup [AV.agg [AV.imm (IV.int IntKind.i64 j)], AV.imm (IV.bool true)],
            AV.ifc (44 : Nat) (AV.agg [AV.imm (IV.int IntKind.i64 j)]),
            AV.tup [AV.agg [AV.imm (IV.int IntKind.i64 j)], AV.imm (IV.bool true)],
            AV.agg [AV.imm (IV.int IntKind.i64 j)], AV.imm (IV.bool true), AV.imm (IV.bool true),
            AV.agg
              [AV.imm (IV.str []), AV.imm (IV.int IntKind.i64 (0 : Int)), AV.imm (IV.bool false), AV.imm (IV.str []),
                AV.imm (IV.int IntKind.i64 (0 : Int)), AV.imm (IV.int IntKind.i64 (0 : Int)),
                AV.imm (IV.int IntKind.i64 (0 : Int)), AV.imm (IV.int IntKind.i64 (0 : Int)),
                AV.imm (IV.int IntKind.i64 (0 : Int)), AV.imm (IV.int IntKind.i64 (0 : Int)),
                AV.imm (IV.int IntKind.i64 (0 : Int)), AV.imm (IV.int IntKind.i64 (0 : Int)),
                AV.imm (IV.int IntKind.i64 (0 : Int)), AV.imm (IV.int IntKind.i64 (0 : Int)),
                AV.imm (IV.int IntKind.i64 (0 : Int)), AV.imm (IV.int IntKind.i64 (0 : Int)),
                AV.imm (IV.int IntKind.i64 (0 : Int))],
            AV.ptr (3 : Nat) (0 : Nat), AV.imm (IV.int IntKind.i64 j), AV.dead]
          [((0 : Nat),
              Ob.mk true (0 : Nat)
                (AObj.cells
                  [AV.imm (IV.str []), AV.imm (IV.int IntKind.i64 (0 : Int)), AV.imm (IV.bool false),
                    AV.imm (IV.str []), AV.imm (IV.int IntKind.i64 (0 : Int)), AV.imm (IV.int IntKind.i64 (0 : Int)),
                    AV.imm (IV.int IntKind.i64 (0 : Int)), AV.imm (IV.int IntKind.i64 (0 : Int)),
                    AV.imm (IV.int IntKind.i64 (0 : Int)), AV.imm (IV.int IntKind.i64 (0 : Int)),
                    AV.imm (IV.int IntKind.i64 (0 : Int)), AV.imm (IV.int IntKind.i64 (0 : Int)),
                    AV.imm (IV.int IntKind.i64 (0 : Int)), AV.imm (IV.int IntKind.i64 (0 : Int)),
                    AV.imm (IV.int IntKind.i64 (0 : Int)), AV.imm (IV.int IntKind.i64 (0 : Int)),
                    AV.imm (IV.int IntKind.i64 (0 : Int))])),
            ((1 : Nat), Ob.mk true (0 : Nat) (AObj.cells [AV.imm (IV.int IntKind.i64 (14 : Int))])),
            ((2 : Nat), Ob.mk true (0 : Nat) (AObj.cells [AV.imm (IV.int IntKind.i64 j)])),
            ((3 : Nat), Ob.mk true (0 : Nat) (AObj.cells [AV.imm (IV.int IntKind.i64 j)]))]
          (4 : Nat) [AV.ptr (0 : Nat) (0 : Nat), AV.ptr (1 : Nat) (0 : Nat), AV.ptr (2 : Nat) (0 : Nat)])) ∧
  K AX.ret
    (St.mk
      [AV.ptr (0 : Nat) (0 : Nat), AV.ptr (1 : Nat) (0 : Nat), AV.ptr (2 : Nat) (0 : Nat),
        AV.ifc (44 : Nat) (AV.agg [AV.imm (IV.int IntKind.i64 j)]), AV.ptr (3 : Nat) (0 : Nat), AV.imm (IV.bool true),
        AV.ifc (44 : Nat) (AV.agg [AV.imm (IV.int IntKind.i64 j)]),
        AV.ifc (44 : Nat) (AV.agg [AV.imm (IV.int IntKind.i64 j)]), AV.imm (IV.bool true),
        AV.tup [AV.agg [AV.imm (IV.int IntKind.i64 j)], AV.imm (IV.bool true)],
        AV.ifc (44 : Nat) (AV.agg [AV.imm (IV.int IntKind.i64 j)]),
        AV.tup [AV.agg [AV.imm (IV.int IntKind.i64 j)], AV.imm (IV.bool true)], AV.agg [AV.imm (IV.int IntKind.i64 j)],
        AV.imm (IV.bool true), AV.imm (IV.bool true),
        AV.agg
          [AV.imm (IV.str []), AV.imm (IV.int IntKind.i64 (0 : Int)), AV.imm (IV.bool false), AV.imm (IV.str []),
            AV.imm (IV.int IntKind.i64 (0 : Int)), AV.imm (IV.int IntKind.i64 (0 : Int)),
            AV.imm (IV.int IntKind.i64 (0 : Int)), AV.imm (IV.int IntKind.i64 (0 : Int)),
            AV.imm (IV.int IntKind.i64 (0 : Int)), AV.imm (IV.int IntKind.i64 (0 : Int)),
            AV.imm (IV.int IntKind.i64 (0 : Int)), AV.imm (IV.int IntKind.i64 (0 : Int)),
            AV.imm (IV.int IntKind.i64 (0 : Int)), AV.imm (IV.int IntKind.i64 (0 : Int)),
            AV.imm (IV.int IntKind.i64 (0 : Int)), AV.imm (IV.int IntKind.i64 (0 : Int)),
            AV.imm (IV.int IntKind.i64 (0 : Int))],
        AV.ptr (3 : Nat) (0 : Nat), AV.imm (IV.int IntKind.i64 j), AV.dead]
      [((0 : Nat),
          Ob.mk true (0 : Nat)
            (AObj.cells
              [AV.imm (IV.str []), AV.imm (IV.int IntKind.i64 (0 : Int)), AV.imm (IV.bool false), AV.imm (IV.str []),
                AV.imm (IV.int IntKind.i64 (0 : Int)), AV.imm (IV.int IntKind.i64 (0 : Int)),
                AV.imm (IV.int IntKind.i64 (0 : Int)), AV.imm (IV.int IntKind.i64 (0 : Int)),
                AV.imm (IV.int IntKind.i64 (0 : Int)), AV.imm (IV.int IntKind.i64 (0 : Int)),
                AV.imm (IV.int IntKind.i64 (0 : Int)), AV.imm (IV.int IntKind.i64 (0 : Int)),
                AV.imm (IV.int IntKind.i64 (0 : Int)), AV.imm (IV.int IntKind.i64 (0 : Int)),
                AV.imm (IV.int IntKind.i64 (0 : Int)), AV.imm (IV.int IntKind.i64 (0 : Int)),
                AV.imm (IV.int IntKind.i64 (0 : Int))])),
        ((1 : Nat), Ob.mk true (0 : Nat) (AObj.cells [AV.imm (IV.int IntKind.i64 (14 : Int))])),
        ((2 : Nat), Ob.mk true (0 : Nat) (AObj.cells [AV.imm (IV.int IntKind.i64 j)])),
        ((3 : Nat), Ob.mk true (0 : Nat) (AObj.cells [AV.imm (IV.int IntKind.i64 j)]))]
      (4 : Nat) [AV.ptr (0 : Nat) (0 : Nat), AV.ptr (1 : Nat) (0 : Nat), AV.ptr (2 : Nat) (0 : Nat)])) := by kernel_rfl
end Z09

set_option maxRecDepth 100000
namespace Z09
open Go Go.AE Go.Proofs
attribute [local irreducible] loopK evCode evSpec loopB norm
/-! ### rules: what Valid and Parse compute -/
theorem f9_ev (a : List UInt8) (o : Int) (h : Bool) (b : List UInt8) (p k d m w e t k' d' m' w' e' t' : Int) (ha : a.length ≤ 9223372036854775807) (hb : b.length ≤ 9223372036854775807)
    (K : List AV → Prop) (hK : K [bo (validRule a o h b p k d m w e t k' d' m' w' e' t')]) : evSpec C4 Try.f9 [ruleAV a o h b p k d m w e t k' d' m' w' e' t'] K := by
  rw [f9_in]
  unfold validRule at hK
  refine ⟨ha, brn_intro (fun h1 => ?_) (fun h1 => brn_intro (fun h2 => ?_) (fun h2 => ⟨hb, ?_⟩))⟩
  · have : (A7.valid a && side o) = false := by
      cases hx : A7.valid a <;> cases hy : side o <;> simp_all
    rw [this, Bool.false_and] at hK
    exact hK
  · have : (A7.valid a && side o) = true := by
      cases hx : A7.valid a <;> cases hy : side o <;> simp_all
    rw [this, Bool.true_and] at hK
    have hh : h = false := by simpa using h2
    subst hh
    simp only [Bool.false_eq_true, if_false] at hK
    simpa [bo, Bool.and_assoc] using hK
  · have : (A7.valid a && side o) = true := by
      cases hx : A7.valid a <;> cases hy : side o <;> simp_all
    rw [this, Bool.true_and] at hK
    have hh : h = true := by simpa using h2
    subst hh
    simp only [if_true] at hK
    exact hK
theorem ok9 : ∀ args pres res, sValidRule args = some (pres, res) → SpecOK Try.prog G0 9 args pres res := by
  intro args pres res h
  unfold sValidRule at h
  split at h
  case h_2 => cases h
  cases h
  exact mk okF4 at9 (by decide) rfl (fun hp K hK => f9_ev _ _ _ _ _ _ _ _ _ _ _ _ _ _ _ _ _ (hp _ (List.mem_cons_self ..)) (hp _ (List.mem_cons_of_mem _ (List.mem_cons_self ..))) K hK)
theorem okF5 : EOK Try.prog F5 G0 := addE_ok okF4 ok9

structure Dv where
  k : Int
  d : Int
  m : Int
  w : Int
  e : Int
  t : Int
deriving DecidableEq
structure Ru where
  a : List UInt8
  o : Int
  h : Bool
  b : List UInt8
  p : Int
  S : Dv
  E : Dv
deriving DecidableEq
def zD : Dv := ⟨0, 0, 0, 0, 0, 0⟩
def zR : Ru := ⟨[], 0, false, [], 0, zD, zD⟩
def Ru.cells (r : Ru) : List AV := R17 r.a r.o r.h r.b r.p r.S.k r.S.d r.S.m r.S.w r.S.e r.S.t r.E.k r.E.d r.E.m r.E.w r.E.e r.E.t
def validRu (r : Ru) : Bool := validRule r.a r.o r.h r.b r.p r.S.k r.S.d r.S.m r.S.w r.S.e r.S.t r.E.k r.E.d r.E.m r.E.w r.E.e r.E.t
def Dy.dv (x : Dy) : Dv := ⟨x.k, x.d, x.m, x.w, x.e, x.t⟩
/-- What Parse answers: a rule, or the place where a step failed. -/
inductive Out where
  | stop (j : Nat)
  | rule (r : Ru)
deriving DecidableEq
def nameQ (s : List UInt8) (i : Nat) (F : List UInt8 → Nat → Out) : Out :=
  if (A7.parse (s.drop i)).2.2 then F (A7.parse (s.drop i)).1 (i + (A7.parse (s.drop i)).2.1.toNat) else .stop i
def offQ (s : List UInt8) (i : Nat) (F : Int → Nat → Out) : Out :=
  if (A8.parse (s.drop i)).2.2 && side (A8.parse (s.drop i)).1 then F (0 - (A8.parse (s.drop i)).1) (i + (A8.parse (s.drop i)).2.1.toNat) else .stop i
def comma (s : List UInt8) (i : Nat) : Bool := match s.drop i with
  | b :: _ => b == 44
  | [] => false
def commaQ (s : List UInt8) (i : Nat) (F : Nat → Out) : Out := if comma s i then F (i + 1) else .stop i
def dayQ (s : List UInt8) (i : Nat) (F : Dv → Nat → Out) : Out :=
  if (day (s.drop i)).ok then F (day (s.drop i)).dv (i + (day (s.drop i)).n.toNat) else .stop i
def dstOffQ (s : List UInt8) (i : Nat) (o : Int) (F : Int → Nat → Out) : Out :=
  if (A8.parse (s.drop i)).2.2 then offQ s i F else F (o + 3600) i
def dstQ (s : List UInt8) (i : Nat) (a : List UInt8) (o : Int) (F : Ru → Nat → Out) : Out :=
  nameQ s i fun b i => dstOffQ s i o fun p i => commaQ s i fun i => dayQ s i fun S i => commaQ s i fun i => dayQ s i fun E i => F ⟨a, o, true, b, p, S, E⟩ i
def endP (s : List UInt8) (r : Ru) (i : Nat) : Out := if i = s.length then (if validRu r then .rule r else .stop i) else .stop i
def stdR (a : List UInt8) (o : Int) : Ru := ⟨a, o, false, [], 0, zD, zD⟩
def parse9 (s : List UInt8) : Out :=
  nameQ s 0 fun a i => offQ s i fun o i => if i < s.length then dstQ s i a o (endP s) else endP s (stdR a o) i

theorem parse7_n (s : List UInt8) : ∃ n : Nat, (A7.parse s).2.1 = (n : Int) ∧ n ≤ s.length ∧ (A7.parse s).1.length ≤ s.length := by
  have hP : ∀ s, ∃ n : Nat, (A7.parseP s).2.1 = (n : Int) ∧ n ≤ s.length ∧ (A7.parseP s).1.length ≤ s.length := by
    intro s
    unfold A7.parseP
    split
    · exact ⟨A7.letters s, rfl, A7.letters_le s, by simp; omega⟩
    · exact ⟨0, rfl, Nat.zero_le _, by simp⟩
  unfold A7.parse
  split
  · rename_i b r
    split
    · unfold A7.parseQ
      split
      · rename_i hp
        split
        · exact ⟨A7.place r 62 + 2, by simp, by simp only [List.length_cons]; omega, by simp; omega⟩
        · exact ⟨0, rfl, Nat.zero_le _, by simp⟩
      · exact ⟨0, rfl, Nat.zero_le _, by simp⟩
    · exact hP _
  · exact hP _
theorem day_n (s : List UInt8) : ∃ n : Nat, (day s).n = (n : Int) ∧ n ≤ s.length := by
  obtain ⟨i, hi, hl⟩ := date_n s
  have hT : ∀ (t : Int) (n : Nat) (ok : Bool), n ≤ s.length → ∃ m : Nat, (dayT (date s) t (n : Int) ok).n = (m : Int) ∧ m ≤ s.length := by
    intro t n ok hn
    unfold dayT
    split
    · exact ⟨n, rfl, hn⟩
    · exact ⟨0, rfl, Nat.zero_le _⟩
  unfold day
  split
  · rename_i hsl
    have hlt : i < s.length := by
      unfold slash at hsl
      simp only [Bool.and_eq_true, decide_eq_true_eq] at hsl
      omega
    obtain ⟨n, hn, hnl⟩ := parse_n (s.drop ((date s).n.toNat + 1))
    rw [hn, show ((date s).n + 1 + (n : Int)) = ((i + 1 + n : Nat) : Int) by omega]
    refine hT _ _ _ ?_
    rw [List.length_drop, hi, Int.toNat_natCast] at hnl
    omega
  · rw [hi]; exact hT _ _ _ hl
theorem side_b {n : Int} (h : side n = true) : -89999 ≤ n ∧ n ≤ 89999 := by
  unfold side at h
  simpa only [Bool.and_eq_true, decide_eq_true_eq] using h
theorem comma_eq (s : List UInt8) (i : Nat) : comma s i = (decide (i < s.length) && (s.getD i 0 == 44)) := by
  unfold comma
  rcases Nat.lt_or_ge i s.length with h | h
  · rw [List.drop_eq_getElem_cons h]
    simp [h, List.getD_eq_getElem?_getD]
  · rw [List.drop_of_length_le h]
    simp [Nat.not_lt.2 h]
end Z09

set_option maxRecDepth 100000
namespace Z09
open Go Go.AE Go.Proofs
attribute [local irreducible] loopK evCode evSpec loopB norm

def Ok0 (R0 : List AV) (st : St) : Prop := ∃ r, st.objs = (0, ⟨true, 0, .cells R0⟩) :: (1, ⟨true, 0, .cells [i64 0]⟩) :: (2, ⟨true, 0, .cells [i64 0]⟩) :: r
def Stops (G : Out → Prop) (R0 : List AV) (OUT : List AV) (K : AX → St → Prop) : Prop := ∀ (j : Nat) st, G (.stop j) → Ok0 R0 st → st.outer = OUT → K (.panic (.ifc 44 (.agg [i64 (j : Nat)]))) st
def Is19 (s : List UInt8) (j : Nat) (R0 : List AV) (r : Ru) (OUT : List AV) (st' : St) : Prop :=
  st' = S19 s (j : Nat) R0 r.cells zRule (nth .dead st'.tmps 1) (nth .dead st'.tmps 2) OUT (fun j => nth .dead st'.tmps j)
def cellsAt (st : St) (id : Nat) : List AV := match lookup st.objs id with
  | some ⟨_, _, .cells l⟩ => l
  | _ => []
def Is19b (s : List UInt8) (j : Nat) (R0 : List AV) (r : Ru) (OUT : List AV) (st' : St) : Prop :=
  st' = S19b s (j : Nat) R0 r.cells zRule (nth .dead st'.tmps 1) (nth .dead st'.tmps 2) OUT (cellsAt st' 6) (cellsAt st' 7) (fun j => nth .dead st'.tmps j)
def Is19c (s : List UInt8) (j : Nat) (R0 : List AV) (r : Ru) (OUT : List AV) (st' : St) : Prop :=
  st' = S19c s (j : Nat) R0 r.cells zRule (nth .dead st'.tmps 1) (nth .dead st'.tmps 2) OUT (cellsAt st' 6) (cellsAt st' 7) (cellsAt st' 8) (cellsAt st' 9) (fun j => nth .dead st'.tmps j)

variable {s : List UInt8} {i : Nat} {G : Out → Prop} {R0 OUT : List AV} {K : AX → St → Prop} {r : Ru}

theorem w1 {F : List UInt8 → Nat → Out} (hs : Stops G R0 OUT K) (hi : i ≤ s.length) (hl : s.length ≤ 1000000000000000000) (ho : -89999 ≤ r.o ∧ r.o ≤ 89999) (hG : G (nameQ s i F)) (st : St) (hst : Is19 s i R0 r OUT st)
    (hk : ∀ b j st', G (F b j) → i ≤ j → j ≤ s.length → b.length ≤ s.length → Is19 s j R0 { r with h := true, b := b, p := r.o + 3600 } OUT st' → K .normal st') : evCode C4i (c19 [.r, .l]) st K := by
  rw [hst]
  generalize nth .dead st.tmps 1 = x
  generalize nth .dead st.tmps 2 = y
  generalize (fun j => nth .dead st.tmps j) = T
  unfold Ru.cells
  rw [d_1]
  simp only [Int.toNat_natCast, take_rest]
  obtain ⟨n, hn, hnl, hbl⟩ := parse7_n (s.drop i)
  rw [List.length_drop] at hnl hbl
  have e1 : IntKind.wrap .i64 ((i : Int) + (n : Int)) = ((i + n : Nat) : Int) := by rw [wrap64 (by omega) (by omega)]; omega
  have e2 : IntKind.wrap .i64 (r.o + 3600) = r.o + 3600 := wrap64 (by omega) (by omega)
  simp only [hn, e1, e2]
  unfold nameQ at hG
  rw [hn, Int.toNat_natCast] at hG
  have stop : (A7.parse (s.drop i)).2.2 = false → G (.stop i) := fun h => by rw [h] at hG; exact hG
  have go : (A7.parse (s.drop i)).2.2 = true → G (F (A7.parse (s.drop i)).1 (i + n)) := fun h => by rw [if_pos h] at hG; exact hG
  have hdl : (s.drop i).length ≤ 9223372036854775800 := by rw [List.length_drop]; omega
  refine ⟨⟨by omega, by omega, hdl, brn_intro (fun h => hs i _ (stop (by simpa using h)) ⟨_, rfl⟩ rfl) (fun h => ?_)⟩, by omega, by omega, hdl, brn_intro (fun h => hs i _ (stop (by simpa using h)) ⟨_, rfl⟩ rfl) (fun h => ?_)⟩
  · exact hk _ (i + n) _ (go (by simpa using h)) (by omega) (by omega) (by omega) (by show _ = _; kernel_rfl)
  · exact hk _ (i + n) _ (go (by simpa using h)) (by omega) (by omega) (by omega) (by show _ = _; kernel_rfl)

theorem w2 {F : Int → Nat → Out} (hs : Stops G R0 OUT K) (hi : i ≤ s.length) (hl : s.length ≤ 1000000000000000000) (hp : r.p = r.o + 3600) (hG : G (dstOffQ s i r.o F)) (st : St) (hst : Is19 s i R0 r OUT st)
    (hk : ∀ p j st', G (F p j) → i ≤ j → j ≤ s.length → Is19 s j R0 { r with p := p } OUT st' → K .normal st') : evCode C4i (c19 [.r, .r, .l]) st K := by
  rw [hst]
  generalize nth .dead st.tmps 1 = x
  generalize nth .dead st.tmps 2 = y
  generalize (fun j => nth .dead st.tmps j) = T
  unfold Ru.cells
  rw [d_2]
  simp only [Int.toNat_natCast, take_rest]
  obtain ⟨n, hn, hnl⟩ := parse_n (s.drop i)
  rw [List.length_drop] at hnl
  have e1 : IntKind.wrap .i64 ((i : Int) + (n : Int)) = ((i + n : Nat) : Int) := by rw [wrap64 (by omega) (by omega)]; omega
  simp only [hn, e1]
  unfold dstOffQ offQ at hG
  rw [hn, Int.toNat_natCast] at hG
  have hdl : ((s.drop i).length : Int) ≤ A8.big := by rw [List.length_drop]; simp only [A8.big]; omega
  refine ⟨by omega, by omega, hdl, brn_intro (fun h1 => ⟨by omega, by omega, hdl, brn_intro (fun h2 => ?_) (fun h2 => ?_)⟩) (fun h1 => ?_)⟩
  · rw [if_pos h1] at hG
    refine hs i _ ?_ ⟨_, rfl⟩ rfl
    rw [if_neg (by rw [Bool.not_eq_true'] at h2; rw [h2]; decide)] at hG
    exact hG
  · rw [if_pos h1] at hG
    have h2' : ((A8.parse (s.drop i)).2.2 && side (A8.parse (s.drop i)).1) = true := by simpa using h2
    rw [if_pos h2'] at hG
    have hsd := side_b (by rw [Bool.and_eq_true] at h2'; exact h2'.2)
    have e3 : IntKind.wrap .i64 (0 - (A8.parse (s.drop i)).1) = 0 - (A8.parse (s.drop i)).1 := wrap64 (by omega) (by omega)
    simp only [e3]
    exact hk _ (i + n) _ hG (by omega) (by omega) (by show _ = _; kernel_rfl)
  · rw [if_neg (by simpa using h1)] at hG
    have hh : { r with p := r.o + 3600 } = r := by rw [← hp]
    refine hk _ i _ hG (by omega) (by omega) ?_
    rw [hh]
    show _ = _
    kernel_rfl

theorem comma_int (s : List UInt8) (i : Nat) : (decide ((i : Int) < (s.length : Int)) && ((s.getD i 0).toNat : Int) == 44) = comma s i := by
  rw [comma_eq, Bool.eq_iff_iff]
  simp only [Bool.and_eq_true, decide_eq_true_eq, beq_iff_eq]
  have : ∀ b : UInt8, ((b.toNat : Int) = 44 ↔ b = 44) := fun b => by
    constructor
    · intro h; apply UInt8.toNat_inj.1; have : b.toNat = 44 := by omega
      simpa using this
    · rintro rfl; rfl
  rw [this]
  constructor <;> rintro ⟨a, b⟩ <;> exact ⟨by omega, b⟩
theorem w3 {F : Nat → Out} (hs : Stops G R0 OUT K) (hi : i ≤ s.length) (hl : s.length ≤ 1000000000000000000) (hG : G (commaQ s i F)) (st : St) (hst : Is19 s i R0 r OUT st)
    (hk : ∀ st', G (F (i + 1)) → i + 1 ≤ s.length → Is19 s (i + 1) R0 r OUT st' → K .normal st') : evCode C4i (c19 [.r, .r, .r, .l]) st K := by
  rw [hst]
  generalize nth .dead st.tmps 1 = x
  generalize nth .dead st.tmps 2 = y
  generalize (fun j => nth .dead st.tmps j) = T
  unfold Ru.cells
  rw [d_3]
  simp only [Int.toNat_natCast]
  have e1 : IntKind.wrap .i64 ((i : Int) + 1) = ((i + 1 : Nat) : Int) := by rw [wrap64 (by omega) (by omega)]; omega
  simp only [e1]
  rw [comma_int]
  unfold commaQ at hG
  refine ⟨fun _ => by omega, fun h => by simpa using h, brn_intro (fun h => hs i _ ?_ ⟨_, rfl⟩ rfl) (fun h => ?_)⟩
  · rw [if_neg (by simpa using h)] at hG; exact hG
  · have h' : comma s i = true := by simpa using h
    rw [if_pos h'] at hG
    have hlt : i < s.length := by rw [comma_eq] at h'; simp at h'; exact h'.1
    exact hk _ hG (by omega) (by show _ = _; kernel_rfl)

theorem w4 {F : Dv → Nat → Out} (hs : Stops G R0 OUT K) (hi : i ≤ s.length) (hl : s.length ≤ 1000000000000000000) (hG : G (dayQ s i F)) (st : St) (hst : Is19 s i R0 r OUT st)
    (hk : ∀ S j st', G (F S j) → i ≤ j → j ≤ s.length → Is19b s j R0 { r with S := S } OUT st' → K .normal st') : evCode C4i (c19 [.r, .r, .r, .r, .l]) st K := by
  rw [hst]
  generalize nth .dead st.tmps 1 = x
  generalize nth .dead st.tmps 2 = y
  generalize (fun j => nth .dead st.tmps j) = T
  unfold Ru.cells
  rw [d_4]
  simp only [Int.toNat_natCast, take_rest]
  obtain ⟨n, hn, hnl⟩ := day_n (s.drop i)
  rw [List.length_drop] at hnl
  have e1 : IntKind.wrap .i64 ((i : Int) + (n : Int)) = ((i + n : Nat) : Int) := by rw [wrap64 (by omega) (by omega)]; omega
  simp only [hn, e1]
  unfold dayQ at hG
  rw [hn, Int.toNat_natCast] at hG
  have hdl : ((s.drop i).length : Int) ≤ big - 20 := by rw [List.length_drop]; simp only [big]; omega
  have stop : (day (s.drop i)).ok = false → G (.stop i) := fun h => by rw [h] at hG; exact hG
  have go : (day (s.drop i)).ok = true → G (F (day (s.drop i)).dv (i + n)) := fun h => by rw [if_pos h] at hG; exact hG
  have fin : ∀ (st' : St), (!(day (s.drop i)).ok) = false → Is19b s (i + n) R0 { r with S := (day (s.drop i)).dv } OUT st' → K .normal st' := fun st' h hI => hk _ (i + n) st' (go (by simpa using h)) (by omega) (by omega) hI
  have bad : ∀ st', (!(day (s.drop i)).ok) = true → Ok0 R0 st' → st'.outer = OUT → K (.panic (.ifc 44 (.agg [i64 (i : Nat)]))) st' := fun st' h h1 h2 => hs i st' (stop (by simpa using h)) h1 h2
  repeat' first | (exact brn_intro (fun h => bad _ h ⟨_, rfl⟩ rfl) (fun h => fin _ h (by show _ = _; kernel_rfl))) | refine And.intro ?_ ?_
  all_goals first | exact hdl | omega
theorem w5 {F : Nat → Out} (hs : Stops G R0 OUT K) (hi : i ≤ s.length) (hl : s.length ≤ 1000000000000000000) (hG : G (commaQ s i F)) (st : St) (hst : Is19b s i R0 r OUT st)
    (hk : ∀ st', G (F (i + 1)) → i + 1 ≤ s.length → Is19b s (i + 1) R0 r OUT st' → K .normal st') : evCode C4i (c19 [.r, .r, .r, .r, .r, .l]) st K := by
  rw [hst]
  generalize nth .dead st.tmps 1 = x
  generalize nth .dead st.tmps 2 = y
  generalize cellsAt st 6 = X
  generalize cellsAt st 7 = Y
  generalize (fun j => nth .dead st.tmps j) = T
  unfold Ru.cells
  rw [d_5]
  simp only [Int.toNat_natCast]
  have e1 : IntKind.wrap .i64 ((i : Int) + 1) = ((i + 1 : Nat) : Int) := by rw [wrap64 (by omega) (by omega)]; omega
  simp only [e1]
  rw [comma_int]
  unfold commaQ at hG
  refine ⟨fun _ => by omega, fun h => by simpa using h, brn_intro (fun h => hs i _ ?_ ⟨_, rfl⟩ rfl) (fun h => ?_)⟩
  · rw [if_neg (by simpa using h)] at hG; exact hG
  · have h' : comma s i = true := by simpa using h
    rw [if_pos h'] at hG
    have hlt : i < s.length := by rw [comma_eq] at h'; simp at h'; exact h'.1
    exact hk _ hG (by omega) (by show _ = _; kernel_rfl)

theorem w6 {F : Dv → Nat → Out} (hs : Stops G R0 OUT K) (hi : i ≤ s.length) (hl : s.length ≤ 1000000000000000000) (hG : G (dayQ s i F)) (st : St) (hst : Is19b s i R0 r OUT st)
    (hk : ∀ S j st', G (F S j) → i ≤ j → j ≤ s.length → Is19c s j R0 { r with E := S } OUT st' → K .normal st') : evCode C4i (c19 [.r, .r, .r, .r, .r, .r, .l]) st K := by
  rw [hst]
  generalize nth .dead st.tmps 1 = x
  generalize nth .dead st.tmps 2 = y
  generalize cellsAt st 6 = X
  generalize cellsAt st 7 = Y
  generalize (fun j => nth .dead st.tmps j) = T
  unfold Ru.cells
  rw [d_6]
  simp only [Int.toNat_natCast, take_rest]
  obtain ⟨n, hn, hnl⟩ := day_n (s.drop i)
  rw [List.length_drop] at hnl
  have e1 : IntKind.wrap .i64 ((i : Int) + (n : Int)) = ((i + n : Nat) : Int) := by rw [wrap64 (by omega) (by omega)]; omega
  simp only [hn, e1]
  unfold dayQ at hG
  rw [hn, Int.toNat_natCast] at hG
  have hdl : ((s.drop i).length : Int) ≤ big - 20 := by rw [List.length_drop]; simp only [big]; omega
  have stop : (day (s.drop i)).ok = false → G (.stop i) := fun h => by rw [h] at hG; exact hG
  have go : (day (s.drop i)).ok = true → G (F (day (s.drop i)).dv (i + n)) := fun h => by rw [if_pos h] at hG; exact hG
  have fin : ∀ (st' : St), (!(day (s.drop i)).ok) = false → Is19c s (i + n) R0 { r with E := (day (s.drop i)).dv } OUT st' → K .normal st' := fun st' h hI => hk _ (i + n) st' (go (by simpa using h)) (by omega) (by omega) hI
  have bad : ∀ st', (!(day (s.drop i)).ok) = true → Ok0 R0 st' → st'.outer = OUT → K (.panic (.ifc 44 (.agg [i64 (i : Nat)]))) st' := fun st' h h1 h2 => hs i st' (stop (by simpa using h)) h1 h2
  repeat' first | (exact brn_intro (fun h => bad _ h ⟨_, rfl⟩ rfl) (fun h => fin _ h (by show _ = _; kernel_rfl))) | refine And.intro ?_ ?_
  all_goals first | exact hdl | omega
end Z09

set_option maxRecDepth 100000
namespace Z09
open Go Go.AE Go.Proofs
attribute [local irreducible] loopK evCode evSpec loopB norm

variable {s : List UInt8} {i : Nat} {G : Out → Prop} {R0 OUT : List AV} {K : AX → St → Prop} {r : Ru}

theorem cut19_0 (st : St) (K : AX → St → Prop) : evCode C4i (c19 []) st K = evCode C4i (c19 [.l]) st (fun x st => match x with
    | .normal => evCode C4i (c19 [.r]) st K
    | x => K x st) := by kernel_rfl
theorem cut19_1 (st : St) (K : AX → St → Prop) : evCode C4i (c19 [.r]) st K = evCode C4i (c19 [.r, .l]) st (fun x st => match x with
    | .normal => evCode C4i (c19 [.r, .r]) st K
    | x => K x st) := by kernel_rfl
theorem cut19_2 (st : St) (K : AX → St → Prop) : evCode C4i (c19 [.r, .r]) st K = evCode C4i (c19 [.r, .r, .l]) st (fun x st => match x with
    | .normal => evCode C4i (c19 [.r, .r, .r]) st K
    | x => K x st) := by kernel_rfl
theorem cut19_3 (st : St) (K : AX → St → Prop) : evCode C4i (c19 [.r, .r, .r]) st K = evCode C4i (c19 [.r, .r, .r, .l]) st (fun x st => match x with
    | .normal => evCode C4i (c19 [.r, .r, .r, .r]) st K
    | x => K x st) := by kernel_rfl
theorem cut19_4 (st : St) (K : AX → St → Prop) : evCode C4i (c19 [.r, .r, .r, .r]) st K = evCode C4i (c19 [.r, .r, .r, .r, .l]) st (fun x st => match x with
    | .normal => evCode C4i (c19 [.r, .r, .r, .r, .r]) st K
    | x => K x st) := by kernel_rfl
theorem cut19_5 (st : St) (K : AX → St → Prop) : evCode C4i (c19 [.r, .r, .r, .r, .r]) st K = evCode C4i (c19 [.r, .r, .r, .r, .r, .l]) st (fun x st => match x with
    | .normal => evCode C4i (c19 [.r, .r, .r, .r, .r, .r]) st K
    | x => K x st) := by kernel_rfl
theorem cut19_6 (st : St) (K : AX → St → Prop) : evCode C4i (c19 [.r, .r, .r, .r, .r, .r]) st K = evCode C4i (c19 [.r, .r, .r, .r, .r, .r, .l]) st (fun x st => match x with
    | .normal => evCode C4i (c19 [.r, .r, .r, .r, .r, .r, .r]) st K
    | x => K x st) := by kernel_rfl

def E19 (s : List UInt8) (i : Nat) (R0 : List AV) (r : Ru) (OUT : List AV) : St := ⟨lapp [.ptr 3 0, .agg r.cells] (lrepl 43 .dead), o8 s i R0, 4, OUT⟩
theorem dst19 {F : Ru → Nat → Out} (hs : Stops G R0 OUT K) (hi : i ≤ s.length) (hl : s.length ≤ 1000000000000000000) (ho : -89999 ≤ r.o ∧ r.o ≤ 89999) (hG : G (dstQ s i r.a r.o F)) (hr : r.S = zD ∧ r.E = zD)
    (hk : ∀ (b : List UInt8) p S E j st', G (F ⟨r.a, r.o, true, b, p, S, E⟩ j) → j ≤ s.length → b.length ≤ s.length → Is19c s j R0 ⟨r.a, r.o, true, b, p, S, E⟩ OUT st' → evCode C4i (c19 [.r, .r, .r, .r, .r, .r, .r]) st' K) :
    evCode C4i (bodyOf Try.f19) (E19 s i R0 r OUT) K := by
  show evCode C4i (c19 []) _ K
  rw [cut19_0]
  unfold E19 Ru.cells
  show evCode C4i (c19 [.l]) (⟨lapp [.ptr 3 0, ruleAV r.a r.o r.h r.b r.p r.S.k r.S.d r.S.m r.S.w r.S.e r.S.t r.E.k r.E.d r.E.m r.E.w r.E.e r.E.t] (lrepl 43 .dead), o8 s i R0, 4, OUT⟩ : St) _
  rw [d_0]
  have step1 : ∀ st', Is19 s i R0 r OUT st' → evCode C4i (c19 [.r]) st' K := by
    intro st' h
    rw [cut19_1]
    refine w1 ?_ hi hl ho hG st' h (fun b j st2 hG2 hij hj hb h2 => ?_)
    · exact fun j st a b c => hs j st a b c
    rw [cut19_2]
    refine w2 (r := { r with h := true, b := b, p := r.o + 3600 }) ?_ hj hl rfl hG2 st2 h2 (fun p j3 st3 hG3 _ hj3 h3 => ?_)
    · exact fun j st a b c => hs j st a b c
    rw [cut19_3]
    refine w3 ?_ hj3 hl hG3 st3 h3 (fun st4 hG4 hj4 h4 => ?_)
    · exact fun j st a b c => hs j st a b c
    rw [cut19_4]
    refine w4 ?_ hj4 hl hG4 st4 h4 (fun S j5 st5 hG5 _ hj5 h5 => ?_)
    · exact fun j st a b c => hs j st a b c
    rw [cut19_5]
    refine w5 ?_ hj5 hl hG5 st5 h5 (fun st6 hG6 hj6 h6 => ?_)
    · exact fun j st a b c => hs j st a b c
    rw [cut19_6]
    refine w6 ?_ hj6 hl hG6 st6 h6 (fun E j7 st7 hG7 _ hj7 h7 => ?_)
    · exact fun j st a b c => hs j st a b c
    exact hk b p S E j7 st7 hG7 hj7 hb h7
  exact step1 _ (by show _ = _; kernel_rfl)
end Z09

set_option maxRecDepth 100000
namespace Z09
open Go Go.AE Go.Proofs
attribute [local irreducible] loopK evCode evSpec loopB norm

variable {s : List UInt8} {i : Nat} {G : Out → Prop} {K : AX → St → Prop} {r : Ru}

def Stops8 (G : Out → Prop) (K : AX → St → Prop) : Prop := ∀ (j : Nat) st, G (.stop j) → (∃ R, R.length = 17 ∧ Ok0 R st) → st.outer = P3 → K (.panic (.ifc 44 (.agg [i64 (j : Nat)]))) st
def Done8 (G : Out → Prop) (K : AX → St → Prop) : Prop := ∀ (r : Ru) st, G (.rule r) → Ok0 r.cells st → st.outer = P3 → nth .dead st.tmps 2 = .ptr 0 0 → nth .dead st.tmps 3 = .ptr 1 0 → nth .dead st.tmps 4 = .ptr 2 0 → K .ret st
def Is8 (s : List UInt8) (j : Nat) (r : Ru) (st' : St) : Prop :=
  st' = S8 s (j : Nat) r.cells (nth .dead st'.tmps 6) (nth .dead st'.tmps 7) (nth .dead st'.tmps 8) (fun j => nth .dead st'.tmps j)
def Is8c (s : List UInt8) (j : Nat) (r : Ru) (st' : St) : Prop :=
  st' = S8c s (j : Nat) r.cells (nth .dead st'.tmps 6) (nth .dead st'.tmps 7) (nth .dead st'.tmps 8) (cellsAt st' 4) (cellsAt st' 5) (cellsAt st' 6) (cellsAt st' 7) (cellsAt st' 8) (cellsAt st' 9) (fun j => nth .dead st'.tmps j)

theorem v1 {F : List UInt8 → Nat → Out} (hs : Stops8 G K) (hi : i ≤ s.length) (hl : s.length ≤ 1000000000000000000) (a : List UInt8) (o : Int) (hG : G (nameQ s i F)) (st : St) (hst : Is8 s i (stdR a o) st)
    (hk : ∀ b j st', G (F b j) → i ≤ j → j ≤ s.length → b.length ≤ s.length → Is8 s j (stdR b o) st' → K .normal st') : evCode C5 (c8 [.r, .r, .r, .l]) st K := by
  rw [hst]
  generalize nth .dead st.tmps 6 = x
  generalize nth .dead st.tmps 7 = y
  generalize nth .dead st.tmps 8 = z
  generalize (fun j => nth .dead st.tmps j) = T
  show evCode C5 (c8 [.r, .r, .r, .l]) (S8 s i (R8 a o) x y z T) K
  rw [f8_n]
  simp only [Int.toNat_natCast, take_rest]
  obtain ⟨n, hn, hnl, hbl⟩ := parse7_n (s.drop i)
  rw [List.length_drop] at hnl hbl
  have e1 : IntKind.wrap .i64 ((i : Int) + (n : Int)) = ((i + n : Nat) : Int) := by rw [wrap64 (by omega) (by omega)]; omega
  simp only [hn, e1]
  unfold nameQ at hG
  rw [hn, Int.toNat_natCast] at hG
  have stop : (A7.parse (s.drop i)).2.2 = false → G (.stop i) := fun h => by rw [h] at hG; exact hG
  have go : (A7.parse (s.drop i)).2.2 = true → G (F (A7.parse (s.drop i)).1 (i + n)) := fun h => by rw [if_pos h] at hG; exact hG
  have hdl : (s.drop i).length ≤ 9223372036854775800 := by rw [List.length_drop]; omega
  refine ⟨by omega, by omega, hdl, brn_intro (fun h => hs i _ (stop (by simpa using h)) ⟨_, rfl, _, rfl⟩ rfl) (fun h => ?_)⟩
  exact hk _ (i + n) _ (go (by simpa using h)) (by omega) (by omega) (by omega) (by show _ = _; kernel_rfl)

theorem v2 {F : Int → Nat → Out} (hs : Stops8 G K) (hi : i ≤ s.length) (hl : s.length ≤ 1000000000000000000) (a : List UInt8) (o : Int) (hG : G (offQ s i F)) (st : St) (hst : Is8 s i (stdR a o) st)
    (hk : ∀ p j st', G (F p j) → -89999 ≤ p → p ≤ 89999 → i ≤ j → j ≤ s.length → Is8 s j (stdR a p) st' → K .normal st') : evCode C5 (c8 [.r, .r, .r, .r, .l]) st K := by
  rw [hst]
  generalize nth .dead st.tmps 6 = x
  generalize nth .dead st.tmps 7 = y
  generalize nth .dead st.tmps 8 = z
  generalize (fun j => nth .dead st.tmps j) = T
  show evCode C5 (c8 [.r, .r, .r, .r, .l]) (S8 s i (R8 a o) x y z T) K
  rw [f8_o]
  simp only [Int.toNat_natCast, take_rest]
  obtain ⟨n, hn, hnl⟩ := parse_n (s.drop i)
  rw [List.length_drop] at hnl
  have e1 : IntKind.wrap .i64 ((i : Int) + (n : Int)) = ((i + n : Nat) : Int) := by rw [wrap64 (by omega) (by omega)]; omega
  simp only [hn, e1]
  unfold offQ at hG
  rw [hn, Int.toNat_natCast] at hG
  have hdl : ((s.drop i).length : Int) ≤ A8.big := by rw [List.length_drop]; simp only [A8.big]; omega
  refine ⟨by omega, by omega, hdl, brn_intro (fun h2 => ?_) (fun h2 => ?_)⟩
  · refine hs i _ ?_ ⟨_, rfl, _, rfl⟩ rfl
    rw [if_neg (by rw [Bool.not_eq_true'] at h2; rw [h2]; decide)] at hG
    exact hG
  · have h2' : ((A8.parse (s.drop i)).2.2 && side (A8.parse (s.drop i)).1) = true := by simpa using h2
    rw [if_pos h2'] at hG
    have hsd := side_b (by rw [Bool.and_eq_true] at h2'; exact h2'.2)
    have e3 : IntKind.wrap .i64 (0 - (A8.parse (s.drop i)).1) = 0 - (A8.parse (s.drop i)).1 := wrap64 (by omega) (by omega)
    simp only [e3]
    exact hk _ (i + n) _ hG (by omega) (by omega) (by omega) (by omega) (by show _ = _; kernel_rfl)

theorem cut8_3 (st : St) (K : AX → St → Prop) : evCode C5 (c8 [.r, .r, .r]) st K = evCode C5 (c8 [.r, .r, .r, .l]) st (fun x st => match x with
    | .normal => evCode C5 (c8 [.r, .r, .r, .r]) st K
    | x => K x st) := by kernel_rfl
theorem cut8_4 (st : St) (K : AX → St → Prop) : evCode C5 (c8 [.r, .r, .r, .r]) st K = evCode C5 (c8 [.r, .r, .r, .r, .l]) st (fun x st => match x with
    | .normal => evCode C5 (c8 [.r, .r, .r, .r, .r]) st K
    | x => K x st) := by kernel_rfl
theorem cut8_5 (st : St) (K : AX → St → Prop) : evCode C5 (c8 [.r, .r, .r, .r, .r]) st K = evCode C5 (c8 [.r, .r, .r, .r, .r, .l]) st (fun x st => match x with
    | .normal => evCode C5 (c8 [.r, .r, .r, .r, .r, .r]) st K
    | x => K x st) := by kernel_rfl
theorem cut8_5l (st : St) (K : AX → St → Prop) : evCode C5 (c8 [.r, .r, .r, .r, .r, .l]) st K = evCode C5 (c8 [.r, .r, .r, .r, .r, .l, .l]) st (fun x st => match x with
    | .normal => evCode C5 (c8 [.r, .r, .r, .r, .r, .l, .r]) st K
    | x => K x st) := by kernel_rfl
theorem cut8_6 (st : St) (K : AX → St → Prop) : evCode C5 (c8 [.r, .r, .r, .r, .r, .r]) st K = evCode C5 (c8 [.r, .r, .r, .r, .r, .r, .l]) st (fun x st => match x with
    | .normal => evCode C5 (c8 [.r, .r, .r, .r, .r, .r, .r]) st K
    | x => K x st) := by kernel_rfl
def opsOf : Code → Array Oper
  | .region _ ops _ => ops
  | _ => #[]
noncomputable def ops6 : Array Oper := opsOf (c8 [.r, .r, .r, .r, .r, .l, .r, .l])
noncomputable def k6 (k : AX → St → Prop) : List AV → St → Prop := fun vs st' => evOps C5 false ops6 (fun v st => k (.panic v) st) (ldrop 3 ops6.toList) [] (st'.put (some 25) (resAV vs)) (fun st => k .normal st)
def T6 (r : Ru) (T : Nat → AV) : Nat → AV := fun j => bif Nat.beq j 23 then .ptr 3 0 else bif Nat.beq j 24 then .agg r.cells else T j
theorem f8_d (s : List UInt8) (i : Int) (r : Ru) (x y z : AV) (T : Nat → AV) (k : AX → St → Prop) : evCode C5 (c8 [.r, .r, .r, .r, .r, .l, .r, .l]) (S8 s i r.cells x y z T) k =
    evFunc C4i Try.f19 [.ptr 3 0, .agg r.cells] (S8 s i r.cells x y z (T6 r T)) (k6 k) (fun v st' => k (.panic v) st') := by kernel_rfl
theorem k6_ev (s : List UInt8) (i : Int) (r r' : Ru) (x y z : AV) (R4 R5 X Y Z W : List AV) (T : Nat → AV) (k : AX → St → Prop) : k6 k [.agg r'.cells] (S8c s i r.cells x y z R4 R5 X Y Z W T) =
    k .normal (S8c s i r'.cells x y z R4 R5 X Y Z W (fun j => bif Nat.beq j 25 then .agg r'.cells else T j)) := by kernel_rfl
theorem cond8 (s : List UInt8) (i : Int) (r : Ru) (x y z : AV) (T : Nat → AV) (K : AX → St → Prop) : evCode C5 (c8 [.r, .r, .r, .r, .r, .l]) (S8 s i r.cells x y z T) K =
    brn (decide (i < (s.length : Int))) (evCode C5 (c8 [.r, .r, .r, .r, .r, .l, .r, .l]) (S8 s i r.cells x y z (fun j => bif Nat.ble 16 j then (bif Nat.ble j 22 then
       nth .dead [.ptr 3 0, .ptr 3 0, .ptr 3 1, i64 i, st s, i64 s.length, bo (decide (i < (s.length : Int)))] (j - 16) else T j) else T j)) K)
     (K .normal (S8 s i r.cells x y z (fun j => bif Nat.ble 16 j then (bif Nat.ble j 22 then
       nth .dead [.ptr 3 0, .ptr 3 0, .ptr 3 1, i64 i, st s, i64 s.length, bo (decide (i < (s.length : Int)))] (j - 16) else T j) else T j))) := by kernel_rfl
end Z09

set_option maxRecDepth 100000
namespace Z09
open Go Go.AE Go.Proofs
attribute [local irreducible] loopK evCode evSpec loopB norm k6 evFunc

variable {s : List UInt8} {i : Nat} {G : Out → Prop} {K : AX → St → Prop} {r : Ru}

theorem endW (hs : Stops8 G K) (hd : Done8 G K) (hi : i ≤ s.length) (hl : s.length ≤ 1000000000000000000) (ha : r.a.length ≤ s.length) (hb : r.b.length ≤ s.length) (hG : G (endP s r i)) (st : St) (hst : Is8 s i r st) :
    evCode C5 (c8 [.r, .r, .r, .r, .r, .r]) st K := by
  rw [hst, cut8_6]
  generalize nth .dead st.tmps 6 = x
  generalize nth .dead st.tmps 7 = y
  generalize nth .dead st.tmps 8 = z
  generalize (fun j => nth .dead st.tmps j) = T
  have fin : ∀ st', G (.rule r) → Is8 s i r st' → evCode C5 (c8 [.r, .r, .r, .r, .r, .r, .r]) st' K := by
    intro st' h hst'
    rw [hst']
    generalize nth .dead st'.tmps 6 = x
    generalize nth .dead st'.tmps 7 = y
    generalize nth .dead st'.tmps 8 = z
    generalize (fun j => nth .dead st'.tmps j) = T
    unfold Ru.cells
    rw [f8_z]
    exact hd r _ h ⟨_, rfl⟩ rfl rfl rfl rfl
  unfold Ru.cells
  rw [f8_v]
  have e1 : IntKind.wrap .i64 ((i : Int) + 0) = (i : Int) := by rw [wrap64 (by omega) (by omega)]; omega
  simp only [e1]
  unfold endP at hG
  refine ⟨fun _ => by omega, fun _ => by omega, brn_intro (fun h => hs i _ ?_ ⟨_, rfl, _, rfl⟩ rfl) (fun h => ?_)⟩
  · have h' : ¬ (i = s.length ∧ validRu r = true) := by
      rintro ⟨h1, h2⟩
      unfold validRu at h2
      rw [h2, Bool.and_true] at h
      simp [h1] at h
    by_cases h1 : i = s.length
    · rw [if_pos h1, if_neg (fun h2 => h' ⟨h1, h2⟩)] at hG; exact hG
    · rw [if_neg h1] at hG; exact hG
  · have h2 : (((i : Int) == (s.length : Int)) && validRu r) = true := by
      unfold validRu
      rw [Bool.not_eq_false'] at h
      exact h
    rw [Bool.and_eq_true, beq_iff_eq] at h2
    rw [if_pos (by omega), if_pos h2.2] at hG
    exact fin _ hG (by show _ = _; kernel_rfl)

theorem endWc (hs : Stops8 G K) (hd : Done8 G K) (hi : i ≤ s.length) (hl : s.length ≤ 1000000000000000000) (ha : r.a.length ≤ s.length) (hb : r.b.length ≤ s.length) (hG : G (endP s r i)) (st : St) (hst : Is8c s i r st) :
    evCode C5 (c8 [.r, .r, .r, .r, .r, .r]) st K := by
  rw [hst, cut8_6]
  generalize nth .dead st.tmps 6 = x
  generalize nth .dead st.tmps 7 = y
  generalize nth .dead st.tmps 8 = z
  generalize cellsAt st 4 = R4
  generalize cellsAt st 5 = R5
  generalize cellsAt st 6 = X
  generalize cellsAt st 7 = Y
  generalize cellsAt st 8 = Z
  generalize cellsAt st 9 = W
  generalize (fun j => nth .dead st.tmps j) = T
  have fin : ∀ st', G (.rule r) → Is8c s i r st' → evCode C5 (c8 [.r, .r, .r, .r, .r, .r, .r]) st' K := by
    intro st' h hst'
    rw [hst']
    generalize nth .dead st'.tmps 6 = x
    generalize nth .dead st'.tmps 7 = y
    generalize nth .dead st'.tmps 8 = z
    generalize cellsAt st' 4 = R4
    generalize cellsAt st' 5 = R5
    generalize cellsAt st' 6 = X
    generalize cellsAt st' 7 = Y
    generalize cellsAt st' 8 = Z
    generalize cellsAt st' 9 = W
    generalize (fun j => nth .dead st'.tmps j) = T
    unfold Ru.cells
    rw [f8_zc]
    exact hd r _ h ⟨_, rfl⟩ rfl rfl rfl rfl
  unfold Ru.cells
  rw [f8_vc]
  have e1 : IntKind.wrap .i64 ((i : Int) + 0) = (i : Int) := by rw [wrap64 (by omega) (by omega)]; omega
  simp only [e1]
  unfold endP at hG
  refine ⟨fun _ => by omega, fun _ => by omega, brn_intro (fun h => hs i _ ?_ ⟨_, rfl, _, rfl⟩ rfl) (fun h => ?_)⟩
  · have h' : ¬ (i = s.length ∧ validRu r = true) := by
      rintro ⟨h1, h2⟩
      unfold validRu at h2
      rw [h2, Bool.and_true] at h
      simp [h1] at h
    by_cases h1 : i = s.length
    · rw [if_pos h1, if_neg (fun h2 => h' ⟨h1, h2⟩)] at hG; exact hG
    · rw [if_neg h1] at hG; exact hG
  · have h2 : (((i : Int) == (s.length : Int)) && validRu r) = true := by
      unfold validRu
      rw [Bool.not_eq_false'] at h
      exact h
    rw [Bool.and_eq_true, beq_iff_eq] at h2
    rw [if_pos (by omega), if_pos h2.2] at hG
    exact fin _ hG (by show _ = _; kernel_rfl)

/-- The continuation of dst's body in its call. -/
def kf19 (n : Nat) (k : List AV → St → Prop) (kp : AV → St → Prop) : AX → St → Prop := fun x st1 => match x with
  | .normal => match resOf Try.prog st1 Try.f19.results.toList with
    | some vs => k vs (leave n st1)
    | none => False
  | .ret => match resOf Try.prog st1 Try.f19.results.toList with
    | some vs => k vs (leave n st1)
    | none => False
  | .panic v => kp v (leave n st1)
  | .exit _ => False
def O8 (s : List UInt8) (i : Nat) (r : Ru) (x y z : AV) (T : Nat → AV) : List AV := lapp (S8 s i r.cells x y z T).tmps P3
theorem in19 (s : List UInt8) (i : Nat) (r : Ru) (x y z : AV) (T : Nat → AV) (k : List AV → St → Prop) (kp : AV → St → Prop) : evFunc C4i Try.f19 [.ptr 3 0, .agg r.cells] (S8 s i r.cells x y z T) k kp =
    evCode C4i (bodyOf Try.f19) (E19 s i r.cells r (O8 s i r x y z T)) (kf19 40 k kp) := by kernel_rfl
theorem out19 (s : List UInt8) (i j : Nat) (r r' : Ru) (x y z u v : AV) (X Y Z W : List AV) (T t : Nat → AV) (k : List AV → St → Prop) (kp : AV → St → Prop) :
    kf19 40 k kp .ret ⟨lapp [.ptr 3 0, u, v, .ptr 4 0, .ptr 5 0] (lmap t (ldrop 5 (upto 45 []))), lapp (o8 s j r.cells) [(4, ⟨true, 0, .cells r'.cells⟩), (5, ⟨true, 0, .cells r'.cells⟩), (6, ⟨true, 0, .cells X⟩), (7, ⟨true, 0, .cells Y⟩), (8, ⟨true, 0, .cells Z⟩), (9, ⟨true, 0, .cells W⟩)], 10, O8 s i r x y z T⟩ =
    k [.agg r'.cells] (S8c s j r.cells x y z r'.cells r'.cells X Y Z W T) := by kernel_rfl
end Z09

set_option maxRecDepth 100000
namespace Z09
open Go Go.AE Go.Proofs
attribute [local irreducible] loopK evCode evSpec loopB norm k6 evFunc

variable {s : List UInt8} {i : Nat} {G : Out → Prop} {K : AX → St → Prop} {r : Ru}

theorem out19' (s : List UInt8) (i j : Nat) (r r' : Ru) (x y z : AV) (T : Nat → AV) (k : List AV → St → Prop) (kp : AV → St → Prop) (st2 : St)
    (hst : st2 = ⟨lapp [.ptr 3 0, nth .dead st2.tmps 1, nth .dead st2.tmps 2, .ptr 4 0, .ptr 5 0] (lmap (fun j => nth .dead st2.tmps j) (ldrop 5 (upto 45 []))), lapp (o8 s j r.cells) [(4, ⟨true, 0, .cells r'.cells⟩), (5, ⟨true, 0, .cells r'.cells⟩), (6, ⟨true, 0, .cells (cellsAt st2 6)⟩), (7, ⟨true, 0, .cells (cellsAt st2 7)⟩), (8, ⟨true, 0, .cells (cellsAt st2 8)⟩), (9, ⟨true, 0, .cells (cellsAt st2 9)⟩)], 10, O8 s i r x y z T⟩)
    (hk : ∀ X Y Z W, k [.agg r'.cells] (S8c s j r.cells x y z r'.cells r'.cells X Y Z W T)) : kf19 40 k kp .ret st2 := by
  rw [hst, out19]
  exact hk _ _ _ _

theorem dst8 (hs : Stops8 G K) (hi : i ≤ s.length) (hl : s.length ≤ 1000000000000000000) (ho : -89999 ≤ r.o ∧ r.o ≤ 89999) (hr : r.S = zD ∧ r.E = zD) {F : Ru → Nat → Out} (hG : G (dstQ s i r.a r.o F)) (x y z : AV) (T : Nat → AV)
    (hk : ∀ (b : List UInt8) p S E j st', G (F ⟨r.a, r.o, true, b, p, S, E⟩ j) → j ≤ s.length → b.length ≤ s.length → Is8c s j ⟨r.a, r.o, true, b, p, S, E⟩ st' → K .normal st') :
    evCode C5 (c8 [.r, .r, .r, .r, .r, .l, .r, .l]) (S8 s i r.cells x y z T) K := by
  rw [f8_d, in19]
  generalize T6 r T = T
  refine dst19 (R0 := r.cells) ?_ hi hl ho hG hr (fun b p S E j st' hG' hj hb h => ?_)
  · intro j st g ok out
    obtain ⟨w, hw⟩ := ok
    exact hs j (leave 40 st) g ⟨r.cells, rfl, w, hw⟩ (by show ldrop 40 st.outer = P3; rw [out]; rfl)
  · rw [h]
    generalize nth .dead st'.tmps 1 = u
    generalize nth .dead st'.tmps 2 = v
    generalize cellsAt st' 6 = X
    generalize cellsAt st' 7 = Y
    generalize cellsAt st' 8 = Z
    generalize cellsAt st' 9 = W
    generalize (fun j => nth .dead st'.tmps j) = t
    show evCode C4i _ (S19c s j r.cells (R17 r.a r.o true b p S.k S.d S.m S.w S.e S.t E.k E.d E.m E.w E.e E.t) zRule u v (O8 s i r x y z T) X Y Z W t) _
    rw [d_7]
    refine out19' s i j r ⟨r.a, r.o, true, b, p, S, E⟩ x y z T (k6 K) _ _ (by show _ = _; kernel_rfl) (fun X Y Z W => ?_)
    rw [k6_ev]
    exact hk b p S E j _ hG' hj hb (by show _ = _; kernel_rfl)

theorem walk8 (hs : Stops8 G K) (hd : Done8 G K) (hl : s.length ≤ 1000000000000000000) (hG : G (parse9 s)) (st : St) (hst : Is8 s 0 (stdR [] 0) st) : evCode C5 (c8 [.r, .r, .r]) st K := by
  rw [cut8_3]
  refine v1 ?_ (Nat.zero_le _) hl [] 0 hG st hst (fun a j1 st1 hG1 _ hj1 hla h1 => ?_)
  · exact fun j st a b c => hs j st a b c
  show evCode C5 (c8 [.r, .r, .r, .r]) st1 K
  rw [cut8_4]
  refine v2 ?_ hj1 hl a 0 hG1 st1 h1 (fun o j2 st2 hG2 ho1 ho2 _ hj2 h2 => ?_)
  · exact fun j st a b c => hs j st a b c
  show evCode C5 (c8 [.r, .r, .r, .r, .r]) st2 K
  rw [cut8_5, h2]
  generalize nth .dead st2.tmps 6 = x
  generalize nth .dead st2.tmps 7 = y
  generalize nth .dead st2.tmps 8 = z
  generalize (fun j => nth .dead st2.tmps j) = T
  rw [cond8]
  generalize (fun j => bif Nat.ble 16 j then (bif Nat.ble j 22 then nth .dead [.ptr 3 0, .ptr 3 0, .ptr 3 1, i64 j2, Z09.st s, i64 s.length, bo (decide ((j2 : Int) < (s.length : Int)))] (j - 16) else T j) else T j) = T'
  refine brn_intro (fun h => ?_) (fun h => ?_)
  · have h' : j2 < s.length := by simpa using h
    rw [if_pos h'] at hG2
    refine dst8 (r := stdR a o) ?_ hj2 hl ⟨ho1, ho2⟩ ⟨rfl, rfl⟩ hG2 x y z T' (fun b p S E j3 st3 hG3 hj3 hlb h3 => ?_)
    · exact fun j st a b c => hs j st a b c
    exact endWc hs hd hj3 hl hla hlb hG3 st3 h3
  · have h' : ¬ j2 < s.length := by simpa using h
    rw [if_neg h'] at hG2
    show evCode C5 (c8 [.r, .r, .r, .r, .r, .r]) _ K
    exact endW hs hd hj2 hl hla (Nat.zero_le _) hG2 _ (by show _ = _; kernel_rfl)
end Z09

set_option maxRecDepth 100000
namespace Z09
open Go Go.AE Go.Proofs
attribute [local irreducible] loopK evCode evSpec loopB norm k6 evFunc

def three (R : List AV) (why n : Int) : List (Nat × Ob) := [(0, ⟨true, 0, .cells R⟩), (1, ⟨true, 0, .cells [i64 why]⟩), (2, ⟨true, 0, .cells [i64 n]⟩)]
/-- What may be told of cells when the other objects are forgotten. -/
def Less (R R' : List AV) : Prop := R'.length = R.length ∧ ∀ (j : Nat) v, R'[j]? = some v → v = .dead ∨ (R[j]? = some v ∧ ∃ x, v = .imm x)
theorem Less.imms {R : List AV} (h : ∀ v, v ∈ R → ∃ x, v = .imm x) : Less R R := ⟨rfl, fun j v hv => .inr ⟨hv, h v (List.mem_of_getElem? hv)⟩⟩
/-- Memory of which only the results' cells are told. -/
theorem forget {b0 : Nat} {w0 : World} {R R' : List AV} {why n : Int} {rest : List (Nat × Ob)} {next : Nat} {g : Gh} (hM : Mem G0 b0 w0 (three R why n ++ rest) next g) (hR : Less R R') :
    Mem G0 b0 w0 (three R' why n) 3 { g with objs := three R' why n } ∧ (∀ x V, ARep g (.imm x) V → ARep { g with objs := three R' why n } (.imm x) V) ∧
    ∀ id V, id < 3 → ARep g (.ptr id 0) V → ARep { g with objs := three R' why n } (.ptr id 0) V := by
  have hsame : ∀ {id}, id < 3 → (lookup g.objs id).isSome = true := fun {id} h => by
    rw [hM.same]
    match id, h with
    | 0, _ => rfl
    | 1, _ => rfl
    | 2, _ => rfl
  have hid : ∀ {id}, (lookup (three R' why n) id).isSome = true → id < 3 := fun {id} h => by
    match id with
    | 0 => decide
    | 1 => decide
    | 2 => decide
    | m + 3 =>
      have : lookup (three R' why n) (m + 3) = none := rfl
      rw [this] at h; cases h
  have hls : ∀ {id}, (lookup (three R' why n) id).isSome = true → (lookup g.objs id).isSome = true := fun {id} h => hsame (hid h)
  have hown : ∀ b, ({ g with objs := three R' why n } : Gh).own b → g.own b := fun b h => by
    rcases h with h | ⟨id, h1, h2, h3⟩
    · exact .inl h
    · exact .inr ⟨id, hls h1, h2, h3⟩
  have himm : ∀ x V, ARep g (.imm x) V → ARep { g with objs := three R' why n } (.imm x) V := fun x V h => .imm (h.imm_inv.mono (Nat.le_refl _) (fun b _ h => hown b h) (fun _ _ _ => rfl))
  refine ⟨⟨rfl, fun id ob h => ?_, fun id id' b h1 h2 => hM.uniq id id' b (hls h1) (hls h2), fun id h => ?_, hM.below, hM.size, fun b h => ⟨(hM.basel b h).1, fun id h1 => (hM.basel b h).2 id (hls h1)⟩, fun id b h1 => hM.above id b (hls h1), fun n l h => by cases h⟩, himm, fun id V hi h => ?_⟩
  · have hlt := hid (by rw [h]; rfl : (lookup (three R' why n) id).isSome = true)
    have one : ∀ (id : Nat) (l l' : List AV), lookup g.objs id = some ⟨true, 0, .cells l⟩ → Less l l' → ObRep { g with objs := three R' why n } (g.ex id) (g.ρ id) ⟨true, 0, .cells l'⟩ := by
      intro id l l' hl hless
      have := hM.each id _ hl
      generalize g.ρ id = P at this ⊢
      generalize g.ex id = e at this ⊢
      cases this with
      | @cells _ _ b _ c T fr h1 h2 h3 h4 h5 h6 =>
        refine .cells h1 h2 h3 (by rw [h4, hless.1]) (fun j v hv => ?_) h6
        rcases hless.2 j v hv with rfl | ⟨hv', x, rfl⟩
        · exact .dead
        · exact himm x _ (h5 j _ hv')
    match id, hlt with
    | 0, _ => cases h; exact one 0 R R' (by rw [hM.same]; rfl) hR
    | 1, _ => cases h; exact one 1 [i64 why] [i64 why] (by rw [hM.same]; rfl) (.imms (fun v hv => by rw [List.mem_singleton.1 hv]; exact ⟨_, rfl⟩))
    | 2, _ => cases h; exact one 2 [i64 n] [i64 n] (by rw [hM.same]; rfl) (.imms (fun v hv => by rw [List.mem_singleton.1 hv]; exact ⟨_, rfl⟩))
  · match id, h with
    | id + 3, _ => rfl
  · cases h with
    | @ptr _ _ b ob h1 h2 =>
      have : ∃ ob, lookup (three R' why n) id = some ob := by
        match id, hi with
        | 0, _ => exact ⟨_, rfl⟩
        | 1, _ => exact ⟨_, rfl⟩
        | 2, _ => exact ⟨_, rfl⟩
      obtain ⟨ob', ho⟩ := this
      exact .ptr ho h2

theorem at16 : Try.prog.funcs[16]? = some Try.f16 := by kernel_rfl
/-- What the closure leaves. -/
def K16 (Rf : List AV) (why n : Int) : AX → St → Prop := fun x st => (x = .normal ∨ x = .ret) ∧ st.outer = P3 ∧ ∃ rest, st.objs = three Rf why n ++ rest
theorem n16 (R : List AV) : evCode C16 (c16 [.r]) (E16 R nilV) (K16 R 0 0) := by
  rw [f16_n]
  exact ⟨.inl rfl, rfl, [], rfl⟩
theorem s16 (j : Int) : evCode C16 (c16 [.r]) (E16 (lrepl 17 .dead) (.ifc 44 (.agg [i64 j]))) (K16 zRule 14 j) := by
  show evCode C16 (c16 [.r]) (E16 [.dead, .dead, .dead, .dead, .dead, .dead, .dead, .dead, .dead, .dead, .dead, .dead, .dead, .dead, .dead, .dead, .dead] (.ifc 44 (.agg [i64 j]))) _
  rw [f16_s]
  repeat' first | exact ⟨.inr rfl, rfl, _, rfl⟩ | refine And.intro ?_ ?_
end Z09

set_option maxRecDepth 100000
namespace Z09
open Go Go.AE Go.Proofs
attribute [local irreducible] loopK evCode evSpec loopB norm k6 evFunc

theorem body16 : Try.f16.body = some (.seq (c16 [.l]) (c16 [.r])) := by kernel_rfl
theorem op16 : ∃ oa ob id, c16 [.l] = .region id #[oa, ob] false ∧ oa.op = .call ⟨.builtin .recover, #[], #[]⟩ ∧ oa.guard = none ∧ oa.dst = some 6 ∧ ob.op = .assign (.tmp 6) ∧ ob.guard = none ∧ ob.dst = some 3 :=
  ⟨_, _, _, rfl, rfl, rfl, rfl, rfl, rfl, rfl⟩
theorem run_recover {o : Oper} (ho : o.op = .call ⟨.builtin .recover, #[], #[]⟩) (ρ : Operand → Value) (w : World) : (execOp ρ o).run Try.prog w = .ok .recover w := by
  simp [execOp, ho, resolve, invoke, builtin, Sem.run_bind, Sem.run_pure]
theorem run_assign {o : Oper} {x : Operand} (ho : o.op = .assign x) (ρ : Operand → Value) (w : World) : (execOp ρ o).run Try.prog w = .ok (.value (ρ x)) w := by
  simp [execOp, ho, Sem.run_pure]
/-- The closure's temporaries behind its recover. -/
noncomputable def act16 (V0 V1 V2 XV : Value) : Act := (({ tmps := #[V0, V1, V2] ++ Array.replicate (Try.f16.ntmps - 3) undef, defers := [] } : Act).put (some 6) XV).put (some 3) XV
theorem act16_eq (V0 V1 V2 XV : Value) : (act16 V0 V1 V2 XV).tmps = #[V0, V1, V2, XV, undef, undef, XV, undef, undef, undef, undef, undef, undef, undef, undef, undef, undef, undef, undef] := by kernel_rfl
theorem tr16 {g : Gh} {R0 : List AV} {X : AV} {V0 V1 V2 XV : Value} (h0 : ARep g (.ptr 0 0) V0) (h1 : ARep g (.ptr 1 0) V1) (h2 : ARep g (.ptr 2 0) V2) (hX : ARep g X XV) : TmpsRep g (E16 R0 X).tmps (act16 V0 V1 V2 XV) := by
  unfold TmpsRep
  rw [act16_eq]
  refine ⟨rfl, fun t => ?_⟩
  match t with
  | 0 => exact h0
  | 1 => exact h1
  | 2 => exact h2
  | 3 => exact hX
  | 4 => exact .dead
  | 5 => exact .dead
  | 6 => exact hX
  | 7 => exact .dead
  | 8 => exact .dead
  | 9 => exact .dead
  | 10 => exact .dead
  | 11 => exact .dead
  | 12 => exact .dead
  | 13 => exact .dead
  | 14 => exact .dead
  | 15 => exact .dead
  | 16 => exact .dead
  | 17 => exact .dead
  | 18 => exact .dead
  | t + 19 => exact .dead
/-- What is told of memory behind the closure. -/
def Closed16 (b0 : Nat) (w0 : World) (g : Gh) (Rf : List AV) (why n : Int) (V0 V1 V2 : Value) (w' : World) : Prop :=
  ∃ (g' : Gh) (st' : St), g'.w = w' ∧ g'.base = g.base ∧ Mem G0 b0 w0 st'.objs st'.next g' ∧ (∃ rest, st'.objs = three Rf why n ++ rest) ∧ ARep g' (.ptr 0 0) V0 ∧ ARep g' (.ptr 1 0) V1 ∧ ARep g' (.ptr 2 0) V2
theorem ev6 (V0 V1 V2 X : Value) : (({ tmps := #[V0, V1, V2] ++ Array.replicate (Try.f16.ntmps - 3) undef, defers := [] } : Act).put (some 6) X).eval (.tmp 6) = X := by kernel_rfl
theorem close16 {b0 : Nat} {w0 : World} {g : Gh} {R0 Rf : List AV} {X : AV} {why n : Int} {V0 V1 V2 XV : Value} {u u' : FrameMode} (hev : evCode C16 (c16 [.r]) (E16 R0 X) (K16 Rf why n))
    (hM : Mem G0 b0 w0 (three R0 0 0) 3 g) (h0 : ARep g (.ptr 0 0) V0) (h1 : ARep g (.ptr 1 0) V1) (h2 : ARep g (.ptr 2 0) V2) (hX : ARep g X XV)
    (hrec : ∀ (c0 : Frame) cs, c0.mode = u → (recoverD (c0 :: cs) = some (XV, { c0 with mode := u' } :: cs) ∨ (recoverD (c0 :: cs) = none ∧ XV = .nilIface ∧ u' = u))) :
    CallsD Try.prog 16 #[V0, V1, V2] u g.w (fun e v w' => v = u' ∧ e = .returned (.tuple #[]) ∧ Closed16 b0 w0 g Rf why n V0 V1 V2 w') := by
  refine callsD_of_wpS at16 body16 (fun c0 cs hu => ?_)
  refine wpS_seq ?_
  obtain ⟨oa, ob, id, e, a1, a2, a3, b1, b2, b3⟩ := op16
  rw [e]
  refine wpS_region ?_
  have key : ∀ cs', cs' = { c0 with mode := u' } :: cs → (c16 [.r]).wpS Try.prog (bodyPostS Try.prog Try.f16 c0 cs (fun e v w' => v = u' ∧ e = .returned (.tuple #[]) ∧ Closed16 b0 w0 g Rf why n V0 V1 V2 w'))
      (act16 V0 V1 V2 XV) cs' g.w := by
    intro cs' hcs
    refine wpS_of_wp ?_
    have hT := tr16 (V0 := V0) (V1 := V1) (V2 := V2) (XV := XV) (R0 := R0) h0 h1 h2 hX
    refine evCode_sound (T := []) (C := C16) noE_ok noCall_ok (c16 [.r]) (noWC_nil _) (E16 R0 X) g _ _ _ hev hM hT (fun x st1 g1 a1 hk hM1 hO1 hK1 => ?_)
    obtain ⟨hx, hout, hobjs⟩ := hk
    have hd : a1.defers = [] := hK1.1.1
    have img := hO1.outer.2
    rw [hout] at img
    have fin : ∃ v, v = u' ∧ cs' = { c0 with mode := v } :: cs ∧ ∃ r, (results Try.f16 a1.tmps).run Try.prog g1.w = .ok r g1.w ∧ (v = u' ∧ Ending.returned r = .returned (.tuple #[]) ∧ Closed16 b0 w0 g Rf why n V0 V1 V2 g1.w) := by
      refine ⟨u', rfl, hcs, .tuple #[], ?_, rfl, rfl, g1, st1, rfl, hO1.base, hM1, hobjs, (img 0).1 _ h0, (img 1).1 _ h1, (img 2).1 _ h2⟩
      exact results_eq Try.f16 _ _ _ [] rfl
    obtain ⟨v, rfl, f1, r, f2, f3⟩ := fin
    rcases hx with rfl | rfl
    · exact fun _ => ⟨hd, v, f1, r, f2, f3⟩
    · exact fun _ => ⟨hd, v, f1, r, f2, f3⟩
  have hw : ∀ (o : Oper) f, o.guard = none → Region.wanted o f = true := fun o f h => wanted_none h f
  have e3 : (#[V0, V1, V2] : Array Value).size = 3 := rfl
  rw [e3]
  unfold act16 at key
  have h6 := ev6 V0 V1 V2
  generalize ({ tmps := #[V0, V1, V2] ++ Array.replicate (Try.f16.ntmps - 3) undef, defers := [] } : Act) = A at key h6 ⊢
  generalize bodyPostS Try.prog Try.f16 c0 cs _ = Q at key ⊢
  rw [show List.range (#[oa, ob] : Array Oper).size = [0, 1] from rfl]
  simp only [wpOpsS, List.getElem?_toArray, List.getElem?_cons_zero, List.getElem?_cons_succ, hw oa _ a2, hw ob _ b2, if_true, run_recover a1, run_assign b1, a3, b3]
  rcases hrec c0 cs hu with hr | ⟨hr, rfl, rfl⟩
  · rw [hr]
    simp only [Oper.upon, b3]
    rw [h6]
    exact key _ rfl
  · rw [hr]
    simp only [Oper.upon, b3]
    rw [h6]
    exact key _ (by rw [← hu])
end Z09

set_option maxRecDepth 100000
namespace Z09
open Go Go.AE Go.Proofs
attribute [local irreducible] loopK evCode evSpec loopB norm k6 evFunc

def res9 : Out → List AV
  | .stop j => [.agg zR.cells, i64 14, i64 j]
  | .rule r => [.agg r.cells, i64 0, i64 0]
def sParse9 : List AV → Option (List Prop × List AV)
  | [.imm (.str s)] => some ([(s.length : Int) ≤ 1000000000000000000], res9 (parse9 s))
  | _ => none
theorem run_enter {P : Program} {f : FuncId} {fn : Func} {c : Code} (hf : P.funcs[f]? = some fn) (hname : (fn.name == "runtime.NumGoroutine") = false) (hb : fn.body = some c) (bs : Array Value) (w : World) :
    (invoke (.fn (.func f) bs) #[]).run P w = .ok (.enter f bs) w := by
  have h1 : fn.name ≠ "runtime.NumGoroutine" := by simpa using hname
  simp [invoke, callFunc, hf, h1, hb, Sem.run_bind, Sem.run_pure]
/-- Parse's frame when its body has come to an end. -/
def rs8 (R : List AV) (why n : Int) (rest : List (Nat × Ob)) (nx : Nat) (out : List AV) : St := ⟨lapp [.dead, .dead, .ptr 0 0, .ptr 1 0, .ptr 2 0] (lrepl 35 .dead), three R why n ++ rest, nx, out⟩
theorem res8 (r : Ru) (why n : Int) (rest : List (Nat × Ob)) (nx : Nat) (out : List AV) : resOf Try.prog (rs8 r.cells why n rest nx out) Try.f8.results.toList = some [.agg r.cells, i64 why, i64 n] := by kernel_rfl
theorem out8 (r : Ru) (why n : Int) (objs : List (Nat × Ob)) : outRes objs [.agg r.cells, i64 why, i64 n] [] = some [.agg r.cells, i64 why, i64 n] := by kernel_rfl
theorem leaves8 {b0 : Nat} {w0 : World} {g g1 : Gh} {R0 : List AV} {X : AV} {why n : Int} {r : Ru} {tmps : Array Value} {V0 V1 V2 XV : Value} {u u' : FrameMode} (hev : evCode C16 (c16 [.r]) (E16 R0 X) (K16 r.cells why n))
    (hM : Mem G0 b0 w0 (three R0 0 0) 3 g1) (h0 : ARep g1 (.ptr 0 0) V0) (h1 : ARep g1 (.ptr 1 0) V1) (h2 : ARep g1 (.ptr 2 0) V2) (hX : ARep g1 X XV)
    (hrec : ∀ (c0 : Frame) cs, c0.mode = u → (recoverD (c0 :: cs) = some (XV, { c0 with mode := u' } :: cs) ∨ (recoverD (c0 :: cs) = none ∧ XV = .nilIface ∧ u' = u)))
    (hu : u ≠ .run) (hset : settle u' = .returning) (hsz : tmps.size = 40) (t0 : tmps.getD 2 undef = V0) (t1 : tmps.getD 3 undef = V1) (t2 : tmps.getD 4 undef = V2) (hbase : g1.base = g.base) :
    Leaves Try.prog Try.f8 tmps (FuncDone C5 b0 w0 st0 g (endsAs [.agg r.cells, i64 why, i64 n]) (fun _ _ => False)) [{ target := .fn (.func 16) #[V0, V1, V2], args := #[] }] u g1.w := by
  refine leaves_cons hu (run_enter at16 (by decide) body16 _ _) ((close16 hev hM h0 h1 h2 hX hrec).mono ?_)
  rintro e v w' ⟨rfl, rfl, g4, st4, rfl, hb, hM4, ⟨rest, ho⟩, k0, k1, k2⟩
  show Leaves _ _ _ _ [] (settle v) _
  rw [hset]
  have hT : TmpsRep g4 (rs8 r.cells why n rest st4.next []).tmps { tmps := tmps, defers := [] } := by
    refine ⟨hsz, fun t => ?_⟩
    by_cases e2 : t = 2
    · subst e2; rw [t0]; exact k0
    · by_cases e3 : t = 3
      · subst e3; rw [t1]; exact k1
      · by_cases e4 : t = 4
        · subst e4; rw [t2]; exact k2
        · have : nth .dead (rs8 r.cells why n rest st4.next []).tmps t = .dead := by
            match t with
            | 0 => rfl
            | 1 => rfl
            | 2 => exact absurd rfl e2
            | 3 => exact absurd rfl e3
            | 4 => exact absurd rfl e4
            | t + 5 =>
              show nth .dead (lrepl 35 .dead) t = .dead
              rw [lrepl_eq, nth_eq, List.getD_eq_getElem?_getD, List.getElem?_replicate]
              split <;> rfl
          rw [this]
          exact .dead
  have hM4' : Mem C5.G b0 w0 (rs8 r.cells why n rest st4.next []).objs (rs8 r.cells why n rest st4.next []).next g4 := by
    show Mem G0 b0 w0 (three r.cells why n ++ rest) st4.next g4
    rw [← ho]; exact hM4
  obtain ⟨Vs, q1, q2, q3⟩ := resOf_sound (C := C5) hM4' hT (res8 r why n rest st4.next [])
  refine ⟨resV Vs, results_eq Try.f8 tmps Try.prog g4.w Vs q1, .inl ⟨_, ⟨[], st4.objs, st4.next, []⟩, g4, Vs, rfl, ?_, hM4, rfl, ?_, q2, q3⟩⟩
  · unfold endsAs
    rw [out8]
  · exact ⟨⟨rfl, fun t => .dead g g4⟩, ⟨rfl, fun t => .dead g g4⟩, hb.trans hbase⟩

theorem at8 : Try.prog.funcs[8]? = some Try.f8 := by kernel_rfl
theorem body8 : Try.f8.body = some (.seq (c8 [.l]) (.seq (c8 [.r, .l]) (.seq (c8 [.r, .r, .l]) (c8 [.r, .r, .r])))) := by kernel_rfl
theorem nt8 : Try.f8.ntmps = 40 := by kernel_rfl
theorem cut_a (st : St) (k : AX → St → Prop) : evCode C5 a8 st k = evCode C5 (c8 [.l]) st (fun x st => match x with
    | .normal => evCode C5 (c8 [.r, .l]) st k
    | x => k x st) := by kernel_rfl
theorem op8 : ∃ om od id, c8 [.r, .r, .l] = .region id #[om, od] false ∧ om.op = .makeFunc (.func 16) #[] #[.tmp 2, .tmp 3, .tmp 4] ∧ om.guard = none ∧ om.dst = some 9 ∧ od.op = .defer ⟨.value (.tmp 9), #[], #[]⟩ ∧ od.guard = none ∧ od.dst = none :=
  ⟨_, _, _, rfl, rfl, rfl, rfl, rfl, rfl, rfl⟩
theorem run_makeFunc {o : Oper} {f : FuncId} {cs : Array Operand} (ho : o.op = .makeFunc (.func f) #[] cs) (ρ : Operand → Value) (w : World) : (execOp ρ o).run Try.prog w = .ok (.value (.func (.func f) #[] (cs.map ρ))) w := by
  simp [execOp, ho, Instr.makeFunc]
theorem run_defer {o : Oper} {x : Operand} (ho : o.op = .defer ⟨.value x, #[], #[]⟩) (ρ : Operand → Value) (w : World) {fn : Fn} {cs : Array Value} (hx : ρ x = .func fn #[] cs) :
    (execOp ρ o).run Try.prog w = .ok (.defer { target := .fn fn cs, args := #[] }) w := by
  simp [execOp, ho, resolve, Deferred.ofValue, hx, Sem.run_bind, Sem.run_pure]
/-- The state in front of the deferred call. -/
def tm8 (s : List UInt8) (F : AV) : List AV := lapp [st s, .dead, .ptr 0 0, .ptr 1 0, .ptr 2 0, .ptr 3 0, st s, .agg [st s, i64 0], .ptr 3 0, F] (lrepl 30 .dead)
def F16 : AV := .fn 16 [] [.ptr 0 0, .ptr 1 0, .ptr 2 0]
def ob8 (s : List UInt8) : List (Nat × Ob) := o8 s 0 zRule
def start8 (s : List UInt8) : AX → St → Prop := fun x st => x = .normal ∧ st.tmps = tm8 s .dead ∧ st.objs = ob8 s ∧ st.next = 4
theorem start8_ev (s : List UInt8) : evCode C5 (c8 [.l]) (e8 s) (fun x st => match x with
    | .normal => evCode C5 (c8 [.r, .l]) st (start8 s)
    | x => start8 s x st) := by
  rw [← cut_a, f8_a]
  exact ⟨rfl, rfl, rfl, rfl⟩
def M8 (s : List UInt8) : St := ⟨tm8 s F16, ob8 s, 4, P3⟩
theorem M8_is (s : List UInt8) : Is8 s 0 (stdR [] 0) (M8 s) := by
  show _ = _
  kernel_rfl
/-- How Parse's statements end. -/
def K8 (s : List UInt8) : AX → St → Prop := fun x st => st.outer = P3 ∧ match x with
  | .ret => ∃ r : Ru, parse9 s = .rule r ∧ Ok0 r.cells st
  | .panic v => ∃ (j : Nat) (R : List AV), v = .ifc 44 (.agg [i64 j]) ∧ parse9 s = .stop j ∧ R.length = 17 ∧ Ok0 R st
  | _ => False
end Z09

set_option maxRecDepth 100000
namespace Z09
open Go Go.AE Go.Proofs
attribute [local irreducible] loopK evCode evSpec loopB norm k6 evFunc

theorem K8_ev (s : List UInt8) (hs : s.length ≤ 1000000000000000000) : evCode C5 (c8 [.r, .r, .r]) (M8 s) (K8 s) := by
  refine walk8 (G := fun o => parse9 s = o) (fun j st h ok out => ?_) (fun r st h ok out _ _ _ => ?_) hs rfl (M8 s) (M8_is s)
  · obtain ⟨R, hR, ok⟩ := ok
    exact ⟨out, j, R, rfl, h, hR, ok⟩
  · exact ⟨out, r, h, ok⟩
theorem noW8 : noWC [2, 3, 4] (c8 [.r, .r, .r]) = true := by kernel_rfl
theorem inlF_ok : ∀ f fn, inlF f = some fn → Try.prog.funcs[f]? = some fn ∧ (fn.name == "runtime.NumGoroutine") = false := by
  intro f fn h
  unfold inlF at h
  have one : ∀ (m : Nat) (fm : Func), Nat.beq f m = true → some fm = some fn → Try.prog.funcs[m]? = some fm → (fm.name == "runtime.NumGoroutine") = false → Try.prog.funcs[f]? = some fn ∧ (fn.name == "runtime.NumGoroutine") = false := by
    intro m fm hb e h1 h2
    have := nbeq hb
    subst this
    cases e
    exact ⟨h1, h2⟩
  cases h1 : Nat.beq f 17 with
  | true => rw [h1, cond_true] at h; exact one 17 _ h1 h (by kernel_rfl) (by decide)
  | false =>
  rw [h1, cond_false] at h
  cases h1 : Nat.beq f 18 with
  | true => rw [h1, cond_true] at h; exact one 18 _ h1 h (by kernel_rfl) (by decide)
  | false =>
  rw [h1, cond_false] at h
  cases h1 : Nat.beq f 19 with
  | true => rw [h1, cond_true] at h; exact one 19 _ h1 h (by kernel_rfl) (by decide)
  | false =>
  rw [h1, cond_false] at h
  cases h1 : Nat.beq f 20 with
  | true => rw [h1, cond_true] at h; exact one 20 _ h1 h (by kernel_rfl) (by decide)
  | false =>
  rw [h1, cond_false] at h
  cases h1 : Nat.beq f 31 with
  | true => rw [h1, cond_true] at h; exact one 31 _ h1 h (by kernel_rfl) (by decide)
  | false =>
  rw [h1, cond_false] at h
  cases h1 : Nat.beq f 32 with
  | true => rw [h1, cond_true] at h; exact one 32 _ h1 h (by kernel_rfl) (by decide)
  | false => rw [h1, cond_false] at h; cases h
theorem okC5 : CallOK C5 := inl_ok okF5 inlF_ok 4

theorem body_end {b0 : Nat} {w0 : World} {g0 g : Gh} {s : List UInt8} {a2 : Act} {V0 V1 V2 : Value} (hs : s.length ≤ 1000000000000000000) (hM : Mem G0 b0 w0 (ob8 s) 4 g) (hT : TmpsRep g (tm8 s F16) a2)
    (v0 : a2.tmps.getD 2 undef = V0) (v1 : a2.tmps.getD 3 undef = V1) (v2 : a2.tmps.getD 4 undef = V2) (hd : a2.defers = [{ target := .fn (.func 16) #[V0, V1, V2], args := #[] }]) (hb : g.base = g0.base) :
    (c8 [.r, .r, .r]).wp Try.prog (bodyPostD Try.prog Try.f8 (FuncDone C5 b0 w0 st0 g0 (endsAs (res9 (parse9 s))) (fun _ _ => False))) a2 g.w := by
  refine evCode_sound (T := [2, 3, 4]) (C := C5) okF5 okC5 (c8 [.r, .r, .r]) noW8 (M8 s) g a2 _ _ (K8_ev s hs) hM hT (fun x st1 g1 a1 hk hM1 hO1 hK1 => ?_)
  obtain ⟨hout, hk⟩ := hk
  have hd1 : a1.defers = [{ target := .fn (.func 16) #[V0, V1, V2], args := #[] }] := by rw [hK1.1.1]; exact hd
  have hsz : a1.tmps.size = 40 := by rw [hK1.1.2]; exact hT.1
  have t0 : a1.tmps.getD 2 undef = V0 := by rw [hK1.2 2 (by decide)]; exact v0
  have t1 : a1.tmps.getD 3 undef = V1 := by rw [hK1.2 3 (by decide)]; exact v1
  have t2 : a1.tmps.getD 4 undef = V2 := by rw [hK1.2 4 (by decide)]; exact v2
  have img := hO1.outer.2
  rw [hout] at img
  have r0 : ARep g1 (.ptr 0 0) V0 := (img 0).1 _ (by rw [← v0]; exact hT.2 2)
  have r1 : ARep g1 (.ptr 1 0) V1 := (img 1).1 _ (by rw [← v1]; exact hT.2 3)
  have r2 : ARep g1 (.ptr 2 0) V2 := (img 2).1 _ (by rw [← v2]; exact hT.2 4)
  have hb1 : g1.base = g0.base := by rw [hO1.base]; exact hb
  cases x with
  | normal => exact hk.elim
  | exit id => exact hk.elim
  | ret =>
    intro _
    obtain ⟨r, hp, rest, ho⟩ := hk
    have hM1' : Mem G0 b0 w0 (three r.cells 0 0 ++ rest) st1.next g1 := by
      rw [show three r.cells 0 0 ++ rest = st1.objs from ho.symm]; exact hM1
    have hL : Less r.cells r.cells := .imms (fun v hv => by
      unfold Ru.cells R17 at hv
      simp only [List.mem_cons, List.not_mem_nil, or_false] at hv
      rcases hv with rfl | rfl | rfl | rfl | rfl | rfl | rfl | rfl | rfl | rfl | rfl | rfl | rfl | rfl | rfl | rfl | rfl <;> exact ⟨_, rfl⟩)
    obtain ⟨hM3, _, hptr⟩ := forget hM1' hL
    show Leaves _ _ _ _ _ .returning _
    rw [hd1, hp]
    exact leaves8 (g1 := { g1 with objs := three r.cells 0 0 }) (X := nilV) (XV := .nilIface) (u' := .returning) (n16 r.cells) hM3 (hptr 0 _ (by decide) r0) (hptr 1 _ (by decide) r1) (hptr 2 _ (by decide) r2) (.imm (.val rfl))
      (fun c0 cs hu => .inr ⟨by simp [recoverD, hu], rfl, rfl⟩) (by simp) rfl hsz t0 t1 t2 hb1
  | panic v =>
    intro V hV
    obtain ⟨j, R, rfl, hp, hR, rest, ho⟩ := hk
    have hM1' : Mem G0 b0 w0 (three R 0 0 ++ rest) st1.next g1 := by
      rw [show three R 0 0 ++ rest = st1.objs from ho.symm]; exact hM1
    have hL : Less R (lrepl 17 .dead) := ⟨by rw [hR]; rfl, fun k v hv => .inl (by
      rw [lrepl_eq, List.getElem?_replicate] at hv
      split at hv
      · cases hv; rfl
      · cases hv)⟩
    obtain ⟨hM3, himm, hptr⟩ := forget hM1' hL
    have hX : ARep { g1 with objs := three (lrepl 17 .dead) 0 0 } (.ifc 44 (.agg [i64 j])) V := by
      cases hV with
      | ifc h =>
        cases h with
        | agg q1 q2 q3 =>
          refine .ifc (.agg q1 (fun k c hc => ?_) q3)
          match k with
          | 0 => simp only [List.getElem?_cons_zero, Option.some.injEq] at hc; subst hc; exact himm _ _ (q2 0 _ rfl)
          | k + 1 => simp at hc
    show Leaves _ _ _ _ _ (.panicking [{ v := V, recovered := false }]) _
    rw [hd1, hp]
    exact leaves8 (r := zR) (g1 := { g1 with objs := three (lrepl 17 .dead) 0 0 }) (u' := .panicking [{ v := V, recovered := true }]) (s16 j) hM3 (hptr 0 _ (by decide) r0) (hptr 1 _ (by decide) r1) (hptr 2 _ (by decide) r2) hX
      (fun c0 cs hu => .inl (by simp [recoverD, hu])) (by simp) rfl hsz t0 t1 t2 hb1
theorem put_getD {a : Act} {t : Nat} (V : Value) (h : t < a.tmps.size) : (a.put (some t) V).eval (.tmp t) = V := by
  show (a.tmps.setIfInBounds t V).getD t undef = V
  simp [Array.getD_eq_getD_getElem?, Array.getElem?_setIfInBounds, h]
theorem put_other {a : Act} {t u : Nat} (V : Value) (h : t ≠ u) : (a.put (some t) V).tmps.getD u undef = a.tmps.getD u undef := by
  show (a.tmps.setIfInBounds t V).getD u undef = _
  simp only [Array.getD_eq_getD_getElem?, Array.getElem?_setIfInBounds_ne h]
theorem calls8 {b0 : Nat} {w0 : World} {g : Gh} {s : List UInt8} {vals : Array Value} (hs : s.length ≤ 1000000000000000000) (hM : Mem G0 b0 w0 [] 0 g) (hsz : vals.size = 1) (hr : ARep g (st s) (vals.getD 0 undef)) :
    Calls Try.prog 8 vals g.w (FuncDone C5 b0 w0 st0 g (endsAs (res9 (parse9 s))) (fun _ _ => False)) := by
  refine calls_of_wp_defers at8 body8 ?_
  have hT0 : TmpsRep g (e8 s).tmps { tmps := vals ++ Array.replicate (Try.f8.ntmps - vals.size) undef, defers := [] } := by
    rw [nt8, hsz]
    refine ⟨by simp [hsz, e8, lapp_eq, lrepl_eq], fun t => ?_⟩
    match t with
    | 0 =>
      show ARep g (st s) _
      rw [Array.getD_eq_getD_getElem?, Array.getElem?_append, if_pos (by omega), ← Array.getD_eq_getD_getElem?]
      exact hr
    | t + 1 =>
      have : nth .dead (e8 s).tmps (t + 1) = .dead := by
        show nth .dead (lrepl 39 .dead) t = .dead
        rw [lrepl_eq, nth_eq, List.getD_eq_getElem?_getD, List.getElem?_replicate]
        split <;> rfl
      rw [this]
      exact .dead
  refine wp_seq ?_
  refine evCode_sound (T := []) (C := C5) okF5 okC5 (c8 [.l]) (noWC_nil _) (e8 s) g _ _ _ (start8_ev s) hM hT0 (fun x st1 g1 a1 hk hM1 hO1 hK1 => ?_)
  cases x with
  | exit id => exact absurd hk.1 (by simp)
  | ret => exact absurd hk.1 (by simp)
  | panic v => exact absurd hk.1 (by simp)
  | normal =>
  intro hT1
  show Code.wp _ _ _ _ _
  refine wp_seq ?_
  refine evCode_sound (T := []) (C := C5) okF5 okC5 (c8 [.r, .l]) (noWC_nil _) st1 g1 _ _ _ hk hM1 hT1 (fun x st2 g2 a2 hk hM2 hO2 hK2 => ?_)
  cases x with
  | exit id => exact absurd hk.1 (by simp)
  | ret => exact absurd hk.1 (by simp)
  | panic v => exact absurd hk.1 (by simp)
  | normal =>
  intro hT2
  obtain ⟨_, ht, ho, hn⟩ := hk
  rw [ht] at hT2
  rw [ho, hn] at hM2
  have hd2 : a2.defers = [] := by rw [hK2.1.1, hK1.1.1]
  have hsz2 : a2.tmps.size = 40 := hT2.1
  show Code.wp _ _ _ _ _
  refine wp_seq ?_
  obtain ⟨om, od, id, e, m1, m2, m3, d1, d2, d3⟩ := op8
  rw [e]
  refine wp_region_list ?_
  show wpList _ _ _ [om, od] _ _
  unfold wpList
  rw [if_pos (wanted_none m2 _)]
  left
  unfold Oper.wp
  have hmap : Array.map a2.eval #[.tmp 2, .tmp 3, .tmp 4] = #[a2.tmps.getD 2 undef, a2.tmps.getD 3 undef, a2.tmps.getD 4 undef] := by simp [Act.eval]
  rw [run_makeFunc m1, Oper.upon_value, m3, hmap]
  unfold wpList
  rw [if_pos (wanted_none d2 _)]
  left
  unfold Oper.wp
  rw [run_defer d1 _ _ (put_getD _ (by rw [hsz2]; decide)), Oper.upon_defer, d3]
  show Code.wp _ _ _ _ _
  refine body_end (V0 := a2.tmps.getD 2 undef) (V1 := a2.tmps.getD 3 undef) (V2 := a2.tmps.getD 4 undef) hs hM2 ?_ (put_other _ (by decide)) (put_other _ (by decide)) (put_other _ (by decide)) ?_ ((hO2.base.trans hO1.base))
  · refine ⟨by show (a2.tmps.setIfInBounds 9 _).size = _; rw [Array.size_setIfInBounds]; exact hT2.1, fun t => ?_⟩
    by_cases h9 : t = 9
    · subst h9
      have : ((a2.put (some 9) (.func (.func 16) #[] #[a2.tmps.getD 2 undef, a2.tmps.getD 3 undef, a2.tmps.getD 4 undef])).tmps.getD 9 undef) = .func (.func 16) #[] #[a2.tmps.getD 2 undef, a2.tmps.getD 3 undef, a2.tmps.getD 4 undef] := put_getD _ (by rw [hsz2]; decide)
      show ARep g2 F16 ((a2.put (some 9) (.func (.func 16) #[] #[a2.tmps.getD 2 undef, a2.tmps.getD 3 undef, a2.tmps.getD 4 undef])).tmps.getD 9 undef)
      rw [this]
      refine .fn rfl (fun j c hc => by simp at hc) rfl (fun j c hc => ?_)
      match j with
      | 0 => cases hc; exact hT2.2 2
      | 1 => cases hc; exact hT2.2 3
      | 2 => cases hc; exact hT2.2 4
      | j + 3 => simp at hc
    · show ARep g2 (nth .dead (tm8 s F16) t) ((a2.put (some 9) _).tmps.getD t undef)
      rw [put_other _ (fun h => h9 h.symm)]
      have : nth .dead (tm8 s F16) t = nth .dead (tm8 s .dead) t := by
        have : tm8 s F16 = setNth F16 (tm8 s .dead) 9 := rfl
        rw [this, setNth_eq, nth_eq, nth_eq, List.getD_eq_getElem?_getD, List.getElem?_set_ne (fun h => h9 h.symm), List.getD_eq_getElem?_getD]
      rw [this]
      exact hT2.2 t
  · show _ :: (a2.put _ _).defers = _
    rw [put_defers, hd2]
theorem ok8 : ∀ args pres res, sParse9 args = some (pres, res) → SpecOK Try.prog G0 8 args pres res := by
  intro args pres res h
  unfold sParse9 at h
  split at h
  case h_2 => cases h
  cases h
  rename_i s
  refine spec_done (C := C5) at8 (by decide) (by rw [body8]; rfl) (fun hp g b0 w0 vals hM hsz hr => ?_)
  have hl := hp _ (List.mem_cons_self ..)
  exact calls8 (by omega) hM hsz (hr 0 _ rfl)
end Z09

set_option maxRecDepth 100000
namespace Z09
open Go Go.AE Go.Proofs
attribute [local irreducible] loopK evCode evSpec loopB norm
def sAwake : List AV → Option (List Prop × List AV)
  | [] => some ([], [bo true])
  | _ => none
def ruOf : Out → Ru
  | .stop _ => zR
  | .rule r => r
def whyOf : Out → Int
  | .stop _ => 14
  | .rule _ => 0
def atOf : Out → Int
  | .stop j => j
  | .rule _ => 0
def ruP (s : List UInt8) : Ru := ruOf (parse9 s)
def whyP (s : List UInt8) : Int := whyOf (parse9 s)
def atP (s : List UInt8) : Int := atOf (parse9 s)
theorem res9_eq (o : Out) : res9 o = [.agg (ruOf o).cells, i64 (whyOf o), i64 (atOf o)] := by cases o <;> rfl
def sParseP : List AV → Option (List Prop × List AV)
  | [.imm (.str s)] => some ([(s.length : Int) ≤ 1000000000000000000], [.agg (ruP s).cells, i64 (whyP s), i64 (atP s)])
  | _ => none
noncomputable def F6 := addE F5 8 sParseP
noncomputable def C6 : Cx := cx F6
noncomputable def F7 := addE F6 7 sAwake
noncomputable def C7 : Cx := cx F7
noncomputable def q4 : List Dir → Code := fun p => codeAt p (bodyOf Try.f4)
noncomputable def q5 : List Dir → Code := fun p => codeAt p (bodyOf Try.f5)
noncomputable def a4 : Code := .seq (q4 [.l]) (.seq (q4 [.r, .l]) (q4 [.r, .r, .l]))
noncomputable def b4 : Code := .seq (q4 [.r, .r, .r, .l]) (.seq (q4 [.r, .r, .r, .r, .l]) (q4 [.r, .r, .r, .r, .r, .l]))
def tlN (t : Nat → AV) (n m : Nat) : List AV := lmap t (ldrop n (upto m []))
def e4 (s t : List UInt8) (a b k d m w e u k' d' m' w' e' u' : Int) : St := ⟨lapp [st s, st t, i64 a, i64 b, dayAV k d m w e u, dayAV k' d' m' w' e' u'] (lrepl 114 .dead), [], 0, []⟩
def dcells (k d m w e u : Int) : List AV := [i64 k, i64 d, i64 m, i64 w, i64 e, i64 u]
/-- Behind the front part. -/
def S4 (s t : List UInt8) (a b k d m w e u k' d' m' w' e' u' : Int) (F : List UInt8) (T : Nat → AV) : St :=
  ⟨lapp [st s, st t, i64 a, i64 b, dayAV k d m w e u, dayAV k' d' m' w' e' u', T 6, T 7, T 8, T 9, .ptr 0 0, .ptr 1 0, T 12, st F] (tlN T 14 120), [(0, ⟨true, 0, .cells (dcells k d m w e u)⟩), (1, ⟨true, 0, .cells (dcells k' d' m' w' e' u')⟩)], 2, []⟩
def S4b (s t : List UInt8) (a b k d m w e u k' d' m' w' e' u' : Int) (F S : List UInt8) (R : List AV) (x : AV) (T : Nat → AV) : St :=
  ⟨lapp [st s, st t, i64 a, i64 b, dayAV k d m w e u, dayAV k' d' m' w' e' u', T 6, T 7, T 8, T 9, .ptr 0 0, .ptr 1 0, T 12, st F, .ptr 2 0, x, T 16, st S] (tlN T 18 120), [(0, ⟨true, 0, .cells (dcells k d m w e u)⟩), (1, ⟨true, 0, .cells (dcells k' d' m' w' e' u')⟩), (2, ⟨true, 0, .cells R⟩)], 3, []⟩
noncomputable def a5 : Code := .seq (q5 [.l]) (.seq (q5 [.r, .l]) (.seq (q5 [.r, .r, .l]) (.seq (q5 [.r, .r, .r, .l]) (.seq (q5 [.r, .r, .r, .r, .l]) (q5 [.r, .r, .r, .r, .r, .l])))))
def e5 (s : List UInt8) (a k d m w e u k' d' m' w' e' u' : Int) : St := ⟨lapp [st s, i64 a, dayAV k d m w e u, dayAV k' d' m' w' e' u'] (lrepl 110 .dead), [], 0, []⟩
def S5 (s : List UInt8) (a k d m w e u k' d' m' w' e' u' : Int) (X H F : List UInt8) (T : Nat → AV) : St :=
  ⟨lapp [st s, i64 a, dayAV k d m w e u, dayAV k' d' m' w' e' u', T 4, T 5, .ptr 0 0, .ptr 1 0, T 8, st X, st H, st F] (tlN T 12 114), [(0, ⟨true, 0, .cells (dcells k d m w e 7200)⟩), (1, ⟨true, 0, .cells (dcells k' d' m' w' e' u')⟩)], 2, []⟩
def S5b (s : List UInt8) (a k d m w e u k' d' m' w' e' u' : Int) (X H F : List UInt8) (R : List AV) (why : Int) (T : Nat → AV) : St :=
  ⟨lapp [st s, i64 a, dayAV k d m w e u, dayAV k' d' m' w' e' u', T 4, T 5, .ptr 0 0, .ptr 1 0, T 8, st X, st H, st F, .ptr 2 0, i64 why] (tlN T 14 114), [(0, ⟨true, 0, .cells (dcells k d m w e 7200)⟩), (1, ⟨true, 0, .cells (dcells k' d' m' w' e' u')⟩), (2, ⟨true, 0, .cells R⟩)], 3, []⟩
def S5c (s : List UInt8) (a k d m w e u k' d' m' w' e' u' : Int) (X H F : List UInt8) (R : List AV) (why : Int) (R' : List AV) (why' : Int) (T : Nat → AV) : St :=
  ⟨lapp [st s, i64 a, dayAV k d m w e u, dayAV k' d' m' w' e' u', T 4, T 5, .ptr 0 0, .ptr 1 0, T 8, st X, st H, st F, .ptr 2 0, i64 why, T 14, .ptr 3 0, i64 why'] (tlN T 17 114), [(0, ⟨true, 0, .cells (dcells k d m w e 7200)⟩), (1, ⟨true, 0, .cells (dcells k' d' m' w' e' u')⟩), (2, ⟨true, 0, .cells R⟩), (3, ⟨true, 0, .cells R'⟩)], 4, []⟩
def sParseAt (S0 : List UInt8) (r0 : Ru) (w0 n0 : Int) : List AV → Option (List Prop × List AV)
  | [.imm (.str s)] => some ([s = S0, (s.length : Int) ≤ 1000000000000000000], [.agg r0.cells, i64 w0, i64 n0])
  | _ => none
def F8 (S0 : List UInt8) (r0 : Ru) (w0 n0 : Int) := addE (addE F5 8 (sParseAt S0 r0 w0 n0)) 7 sAwake
noncomputable def C8 (S0 : List UInt8) (r0 : Ru) (w0 n0 : Int) : Cx := cx (F8 S0 r0 w0 n0)
def eqB : List UInt8 → List UInt8 → Bool
  | [], [] => true
  | x :: r, y :: s => bif Nat.beq x.toNat y.toNat then eqB r s else false
  | _, _ => false
def w1s : List UInt8 := [69, 83, 84, 53, 69, 68, 84, 44, 77, 51, 46, 50, 46, 48, 44, 77, 49, 49, 46, 49, 46, 48]
def w2s : List UInt8 := [60, 43, 48, 51, 51, 48, 62, 45, 51, 58, 51, 48]
def w3s : List UInt8 := [69, 83, 84, 53, 69, 68, 84]
def w4s : List UInt8 := [69, 83, 84, 53, 69, 68, 84, 44, 77, 51, 46, 50, 46, 48, 44, 77, 49, 51, 46, 49, 46, 48]
def w5s : List UInt8 := [69, 83, 84, 50, 53]
def w6s : List UInt8 := [74, 51, 54, 53, 47, 50, 53, 44, 120]
def w1r : Ru := ⟨[69, 83, 84], -18000, true, [69, 68, 84], -14400, ⟨3, 0, 3, 2, 0, 7200⟩, ⟨3, 0, 11, 1, 0, 7200⟩⟩
def w2r : Ru := ⟨[43, 48, 51, 51, 48], 12600, false, [], 0, ⟨0, 0, 0, 0, 0, 0⟩, ⟨0, 0, 0, 0, 0, 0⟩⟩
def w0r : Ru := ⟨[], 0, false, [], 0, ⟨0, 0, 0, 0, 0, 0⟩, ⟨0, 0, 0, 0, 0, 0⟩⟩
def sParseW : List AV → Option (List Prop × List AV)
  | [.imm (.str s)] => bif eqB s w1s then some ([], [.agg w1r.cells, i64 0, i64 0]) else bif eqB s w2s then some ([], [.agg w2r.cells, i64 0, i64 0]) else
    bif eqB s w3s then some ([], [.agg w0r.cells, i64 14, i64 7]) else bif eqB s w4s then some ([], [.agg w0r.cells, i64 14, i64 15]) else bif eqB s w5s then some ([], [.agg w0r.cells, i64 14, i64 3]) else none
  | _ => none
def sDayW : List AV → Option (List Prop × List AV)
  | [.imm (.str s)] => bif eqB s w6s then some ([], [dayAV 1 365 0 0 0 90000, i64 7, bo true]) else none
  | _ => none
def FW := addE (addE F5 8 sParseW) 15 sDayW
noncomputable def CW : Cx := cx FW

theorem okP : ∀ args pres res, sParseP args = some (pres, res) → SpecOK Try.prog G0 8 args pres res := by
  intro args pres res h
  unfold sParseP at h
  split at h
  case h_2 => cases h
  cases h
  rename_i s
  refine ok8 _ _ _ ?_
  have : sParse9 [.imm (.str s)] = some ([(s.length : Int) ≤ 1000000000000000000], res9 (parse9 s)) := rfl
  rw [this, res9_eq]
  rfl
theorem okF6 : EOK Try.prog F6 G0 := addE_ok okF5 okP
theorem SpecOK.pre {P : Program} {G : Nat → Option (List AV)} {f : FuncId} {args res : List AV} {pres pres' : List Prop} (h : (∀ p, p ∈ pres' → p) → SpecOK P G f args pres res) (hp : (∀ p, p ∈ pres' → p) → ∀ p, p ∈ pres → p)
    (hb : ∃ fn, P.funcs[f]? = some fn ∧ (fn.name == "runtime.NumGoroutine") = false ∧ fn.body.isNone = false) : SpecOK P G f args pres' res :=
  ⟨hb, fun hps => (h hps).2 (hp hps)⟩
theorem okAt {S0 : List UInt8} {r0 : Ru} {w0 n0 : Int} (e1 : ruP S0 = r0) (e2 : whyP S0 = w0) (e3 : atP S0 = n0) : ∀ args pres res, sParseAt S0 r0 w0 n0 args = some (pres, res) → SpecOK Try.prog G0 8 args pres res := by
  intro args pres res h
  unfold sParseAt at h
  split at h
  case h_2 => cases h
  cases h
  rename_i s
  refine SpecOK.pre (pres := [(s.length : Int) ≤ 1000000000000000000]) (fun hp => ?_) (fun hp p hm => ?_) ⟨_, at8, by decide, by rw [body8]; rfl⟩
  · have := hp _ (List.mem_cons_self ..)
    subst this
    subst e1 e2 e3
    exact okP _ _ _ rfl
  · exact hp p (List.mem_cons_of_mem _ hm)
theorem eqB_eq : ∀ {s t : List UInt8}, eqB s t = true → s = t
  | [], [], _ => rfl
  | [], _ :: _, h => by cases h
  | _ :: _, [], h => by cases h
  | x :: r, y :: s, h => by
    unfold eqB at h
    cases hb : Nat.beq x.toNat y.toNat with
    | false => rw [hb] at h; cases h
    | true =>
      rw [hb, cond_true] at h
      rw [UInt8.toNat_inj.1 (nbeq hb), eqB_eq h]
theorem w1p : parse9 w1s = .rule w1r := by kernel_rfl
theorem w2p : parse9 w2s = .rule w2r := by kernel_rfl
theorem w3p : parse9 w3s = .stop 7 := by kernel_rfl
theorem w4p : parse9 w4s = .stop 15 := by kernel_rfl
theorem w5p : parse9 w5s = .stop 3 := by kernel_rfl
theorem w6p : day w6s = ⟨1, 365, 0, 0, 0, 90000, 7, true⟩ := by kernel_rfl
end Z09

