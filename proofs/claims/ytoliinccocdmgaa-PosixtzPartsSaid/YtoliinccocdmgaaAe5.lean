/- For every pair of strings, offsets and rule days the law PosixtzParts returns true and its arguments read as before. No further condition. -/
import Derived.Test.YtoliinccocdmgaaAe4
import Derived.KernelRfl
import Derived.Test.YtoliinccocdmgaaRows
set_option linter.all false
set_option maxRecDepth 100000
namespace Z09
open Go Go.AE Go.Proofs
attribute [local irreducible] loopK evCode evSpec loopB norm
theorem f7_w (K : List AV → Prop) : evSpec CW Try.f7 [] K =
  ((((0 : Int) == (0 : Int) && decide (Ru.a w1r = [(69 : UInt8), (83 : UInt8), (84 : UInt8)]) &&
                  Ru.o w1r == (-18000 : Int) &&
                Ru.h w1r &&
              decide (Ru.b w1r = [(69 : UInt8), (68 : UInt8), (84 : UInt8)]) &&
            Ru.p w1r == (-14400 : Int) &&
          (Dv.k (Ru.S w1r) == (3 : Int) &&
            (Dv.d (Ru.S w1r) == (0 : Int) &&
              (Dv.m (Ru.S w1r) == (3 : Int) &&
                (Dv.w (Ru.S w1r) == (2 : Int) &&
                  (Dv.e (Ru.S w1r) == (0 : Int) && (Dv.t (Ru.S w1r) == (7200 : Int) && true)))))) &&
        Dv.m (Ru.E w1r) == (11 : Int)) =
      true →
    List.length (Ru.a w1r) ≤ (9223372036854775807 : Nat)) ∧
  (((0 : Int) == (0 : Int) && decide (Ru.a w1r = [(69 : UInt8), (83 : UInt8), (84 : UInt8)]) &&
                    Ru.o w1r == (-18000 : Int) &&
                  Ru.h w1r &&
                decide (Ru.b w1r = [(69 : UInt8), (68 : UInt8), (84 : UInt8)]) &&
              Ru.p w1r == (-14400 : Int) &&
            (Dv.k (Ru.S w1r) == (3 : Int) &&
              (Dv.d (Ru.S w1r) == (0 : Int) &&
                (Dv.m (Ru.S w1r) == (3 : Int) &&
                  (Dv.w (Ru.S w1r) == (2 : Int) &&
                    (Dv.e (Ru.S w1r) == (0 : Int) && (Dv.t (Ru.S w1r) == (7200 : Int) && true)))))) &&
          Dv.m (Ru.E w1r) == (11 : Int)) =
        true →
      List.length (Ru.b w1r) ≤ (9223372036854775807 : Nat)) ∧
    (((0 : Int) == (0 : Int) && decide (Ru.a w1r = [(69 : UInt8), (83 : UInt8), (84 : UInt8)]) &&
                                              Ru.o w1r == (-18000 : Int) &&
                                            Ru.h w1r &&
                                          decide (Ru.b w1r = [(69 : UInt8), (68 : UInt8), (84 : UInt8)]) &&
                                        Ru.p w1r == (-14400 : Int) &&
                                      (Dv.k (Ru.S w1r) == (3 : Int) &&
                                        (Dv.d (Ru.S w1r) == (0 : Int) &&
                                          (Dv.m (Ru.S w1r) == (3 : Int) &&
                                            (Dv.w (Ru.S w1r) == (2 : Int) &&
                                              (Dv.e (Ru.S w1r) == (0 : Int) &&
                                                (Dv.t (Ru.S w1r) == (7200 : Int) && true)))))) &&
                                    Dv.m (Ru.E w1r) == (11 : Int) &&
                                  validRule (Ru.a w1r) (Ru.o w1r) (Ru.h w1r) (Ru.b w1r) (Ru.p w1r) (Dv.k (Ru.S w1r))
                                    (Dv.d (Ru.S w1r)) (Dv.m (Ru.S w1r)) (Dv.w (Ru.S w1r)) (Dv.e (Ru.S w1r))
                                    (Dv.t (Ru.S w1r)) (Dv.k (Ru.E w1r)) (Dv.d (Ru.E w1r)) (Dv.m (Ru.E w1r))
                                    (Dv.w (Ru.E w1r)) (Dv.e (Ru.E w1r)) (Dv.t (Ru.E w1r)) &&
                                (0 : Int) == (0 : Int) &&
                              (decide
                                  (Ru.a w2r = [(43 : UInt8), (48 : UInt8), (51 : UInt8), (51 : UInt8), (48 : UInt8)]) &&
                                (Ru.o w2r == (12600 : Int) &&
                                  (Ru.h w2r == false &&
                                    (decide (Ru.b w2r = []) &&
                                      (Ru.p w2r == (0 : Int) &&
                                        (Dv.k (Ru.S w2r) == (0 : Int) &&
                                            (Dv.d (Ru.S w2r) == (0 : Int) &&
                                              (Dv.m (Ru.S w2r) == (0 : Int) &&
                                                (Dv.w (Ru.S w2r) == (0 : Int) &&
                                                  (Dv.e (Ru.S w2r) == (0 : Int) &&
                                                    (Dv.t (Ru.S w2r) == (0 : Int) && true))))) &&
                                          (Dv.k (Ru.E w2r) == (0 : Int) &&
                                              (Dv.d (Ru.E w2r) == (0 : Int) &&
                                                (Dv.m (Ru.E w2r) == (0 : Int) &&
                                                  (Dv.w (Ru.E w2r) == (0 : Int) &&
                                                    (Dv.e (Ru.E w2r) == (0 : Int) &&
                                                      (Dv.t (Ru.E w2r) == (0 : Int) && true))))) &&
                                            true))))))) &&
                            (14 : Int) == (14 : Int) &&
                          (7 : Int) == (7 : Int) &&
                        (14 : Int) == (14 : Int) &&
                      (15 : Int) == (15 : Int) &&
                    (14 : Int) == (14 : Int) &&
                  (3 : Int) == (3 : Int) &&
                ((1 : Int) == (1 : Int) &&
                  ((365 : Int) == (365 : Int) &&
                    ((0 : Int) == (0 : Int) &&
                      ((0 : Int) == (0 : Int) &&
                        ((0 : Int) == (0 : Int) && ((90000 : Int) == (90000 : Int) && true)))))) &&
              (7 : Int) == (7 : Int) &&
            true) =
          true →
        List.length ([] : List UInt8) ≤ (9223372036854775807 : Nat)) ∧
      (((0 : Int) == (0 : Int) && decide (Ru.a w1r = [(69 : UInt8), (83 : UInt8), (84 : UInt8)]) &&
                                                Ru.o w1r == (-18000 : Int) &&
                                              Ru.h w1r &&
                                            decide (Ru.b w1r = [(69 : UInt8), (68 : UInt8), (84 : UInt8)]) &&
                                          Ru.p w1r == (-14400 : Int) &&
                                        (Dv.k (Ru.S w1r) == (3 : Int) &&
                                          (Dv.d (Ru.S w1r) == (0 : Int) &&
                                            (Dv.m (Ru.S w1r) == (3 : Int) &&
                                              (Dv.w (Ru.S w1r) == (2 : Int) &&
                                                (Dv.e (Ru.S w1r) == (0 : Int) &&
                                                  (Dv.t (Ru.S w1r) == (7200 : Int) && true)))))) &&
                                      Dv.m (Ru.E w1r) == (11 : Int) &&
                                    validRule (Ru.a w1r) (Ru.o w1r) (Ru.h w1r) (Ru.b w1r) (Ru.p w1r) (Dv.k (Ru.S w1r))
                                      (Dv.d (Ru.S w1r)) (Dv.m (Ru.S w1r)) (Dv.w (Ru.S w1r)) (Dv.e (Ru.S w1r))
                                      (Dv.t (Ru.S w1r)) (Dv.k (Ru.E w1r)) (Dv.d (Ru.E w1r)) (Dv.m (Ru.E w1r))
                                      (Dv.w (Ru.E w1r)) (Dv.e (Ru.E w1r)) (Dv.t (Ru.E w1r)) &&
                                  (0 : Int) == (0 : Int) &&
                                (decide
                                    (Ru.a w2r =
                                      [(43 : UInt8), (48 : UInt8), (51 : UInt8), (51 : UInt8), (48 : UInt8)]) &&
                                  (Ru.o w2r == (12600 : Int) &&
                                    (Ru.h w2r == false &&
                                      (decide (Ru.b w2r = []) &&
                                        (Ru.p w2r == (0 : Int) &&
                                          (Dv.k (Ru.S w2r) == (0 : Int) &&
                                              (Dv.d (Ru.S w2r) == (0 : Int) &&
                                                (Dv.m (Ru.S w2r) == (0 : Int) &&
                                                  (Dv.w (Ru.S w2r) == (0 : Int) &&
                                                    (Dv.e (Ru.S w2r) == (0 : Int) &&
                                                      (Dv.t (Ru.S w2r) == (0 : Int) && true))))) &&
                                            (Dv.k (Ru.E w2r) == (0 : Int) &&
                                                (Dv.d (Ru.E w2r) == (0 : Int) &&
                                                  (Dv.m (Ru.E w2r) == (0 : Int) &&
                                                    (Dv.w (Ru.E w2r) == (0 : Int) &&
                                                      (Dv.e (Ru.E w2r) == (0 : Int) &&
                                                        (Dv.t (Ru.E w2r) == (0 : Int) && true))))) &&
                                              true))))))) &&
                              (14 : Int) == (14 : Int) &&
                            (7 : Int) == (7 : Int) &&
                          (14 : Int) == (14 : Int) &&
                        (15 : Int) == (15 : Int) &&
                      (14 : Int) == (14 : Int) &&
                    (3 : Int) == (3 : Int) &&
                  ((1 : Int) == (1 : Int) &&
                    ((365 : Int) == (365 : Int) &&
                      ((0 : Int) == (0 : Int) &&
                        ((0 : Int) == (0 : Int) &&
                          ((0 : Int) == (0 : Int) && ((90000 : Int) == (90000 : Int) && true)))))) &&
                (7 : Int) == (7 : Int) &&
              true) =
            true →
          List.length ([] : List UInt8) ≤ (9223372036854775807 : Nat)) ∧
        K [AV.imm (IV.bool true)]) := by kernel_rfl
theorem f3_in (s : List UInt8) (K : List AV → Prop) : evSpec C7 Try.f3 [st s] K =
  (brn (!true || decide ((↑(List.length s) : Int) > (1000 : Int))) (K [AV.imm (IV.bool true)])
  ((↑(List.length s) : Int) ≤ (1000000000000000000 : Int) ∧
    brn (whyP s != (0 : Int))
      (K
        [AV.imm
            (IV.bool
              (whyP s == (14 : Int) &&
                    (decide (Ru.a (ruP s) = []) &&
                      (Ru.o (ruP s) == (0 : Int) &&
                        (Ru.h (ruP s) == false &&
                          (decide (Ru.b (ruP s) = []) &&
                            (Ru.p (ruP s) == (0 : Int) &&
                              (Dv.k (Ru.S (ruP s)) == (0 : Int) &&
                                  (Dv.d (Ru.S (ruP s)) == (0 : Int) &&
                                    (Dv.m (Ru.S (ruP s)) == (0 : Int) &&
                                      (Dv.w (Ru.S (ruP s)) == (0 : Int) &&
                                        (Dv.e (Ru.S (ruP s)) == (0 : Int) &&
                                          (Dv.t (Ru.S (ruP s)) == (0 : Int) && true))))) &&
                                (Dv.k (Ru.E (ruP s)) == (0 : Int) &&
                                    (Dv.d (Ru.E (ruP s)) == (0 : Int) &&
                                      (Dv.m (Ru.E (ruP s)) == (0 : Int) &&
                                        (Dv.w (Ru.E (ruP s)) == (0 : Int) &&
                                          (Dv.e (Ru.E (ruP s)) == (0 : Int) &&
                                            (Dv.t (Ru.E (ruP s)) == (0 : Int) && true))))) &&
                                  true))))))) &&
                  decide (atP s ≥ (0 : Int)) &&
                decide (atP s ≤ (↑(List.length s) : Int))))])
      (List.length s + List.length [(32 : UInt8)] ≤ (9223372036854775807 : Nat) ∧
        (↑(List.length (s ++ [(32 : UInt8)])) : Int) ≤ (1000000000000000000 : Int) ∧
          ((atP s == (0 : Int)) = true → List.length (Ru.a (ruP s)) ≤ (9223372036854775807 : Nat)) ∧
            ((atP s == (0 : Int)) = true → List.length (Ru.b (ruP s)) ≤ (9223372036854775807 : Nat)) ∧
              K
                [AV.imm
                    (IV.bool
                      (atP s == (0 : Int) &&
                            validRule (Ru.a (ruP s)) (Ru.o (ruP s)) (Ru.h (ruP s)) (Ru.b (ruP s)) (Ru.p (ruP s))
                              (Dv.k (Ru.S (ruP s))) (Dv.d (Ru.S (ruP s))) (Dv.m (Ru.S (ruP s))) (Dv.w (Ru.S (ruP s)))
                              (Dv.e (Ru.S (ruP s))) (Dv.t (Ru.S (ruP s))) (Dv.k (Ru.E (ruP s))) (Dv.d (Ru.E (ruP s)))
                              (Dv.m (Ru.E (ruP s))) (Dv.w (Ru.E (ruP s))) (Dv.e (Ru.E (ruP s))) (Dv.t (Ru.E (ruP s))) &&
                          whyP (s ++ [(32 : UInt8)]) == (14 : Int) &&
                        atP (s ++ [(32 : UInt8)]) == (↑(List.length s) : Int)))]))) := by kernel_rfl
theorem f6_in (k : Int) (d : Int) (m : Int) (w : Int) (e : Int) (u : Int) (K : List AV →
  Prop) : evSpec C7 Try.f6 [dayAV k d m w e u] K =
  (brn (!true || !validDay k d m w e u) (K [AV.imm (IV.bool true)])
  (validDay k d m w e u = true ∧
    List.length (dayF k d m w e u) + List.length [(44 : UInt8), (74 : UInt8), (49 : UInt8)] ≤
        (9223372036854775807 : Nat) ∧
      (↑(List.length (dayF k d m w e u ++ [(44 : UInt8), (74 : UInt8), (49 : UInt8)])) : Int) ≤ big - (20 : Int) ∧
        validDay k d m w e (7200 : Int) = true ∧
          (0 : Int) ≤ IntKind.wrap IntKind.i64 ((↑(List.length (dayF k d m w e (7200 : Int))) : Int) - (2 : Int)) ∧
            IntKind.wrap IntKind.i64 ((↑(List.length (dayF k d m w e (7200 : Int))) : Int) - (2 : Int)) ≤
                (↑(List.length (dayF k d m w e (7200 : Int))) : Int) ∧
              List.length
                      (List.take
                        (Int.toNat
                            (IntKind.wrap IntKind.i64
                              ((↑(List.length (dayF k d m w e (7200 : Int))) : Int) - (2 : Int))) -
                          (0 : Nat))
                        (List.drop (0 : Nat) (dayF k d m w e (7200 : Int)))) +
                    List.length [(44 : UInt8), (74 : UInt8), (49 : UInt8)] ≤
                  (9223372036854775807 : Nat) ∧
                (↑(List.length
                          (List.take
                              (Int.toNat
                                  (IntKind.wrap IntKind.i64
                                    ((↑(List.length (dayF k d m w e (7200 : Int))) : Int) - (2 : Int))) -
                                (0 : Nat))
                              (List.drop (0 : Nat) (dayF k d m w e (7200 : Int))) ++
                            [(44 : UInt8), (74 : UInt8), (49 : UInt8)])) :
                      Int) ≤
                    big - (20 : Int) ∧
                  K
                    [AV.imm
                        (IV.bool
                          (Dy.ok (day (dayF k d m w e u ++ [(44 : UInt8), (74 : UInt8), (49 : UInt8)])) &&
                                    (Dy.k (day (dayF k d m w e u ++ [(44 : UInt8), (74 : UInt8), (49 : UInt8)])) == k &&
                                      (Dy.d (day (dayF k d m w e u ++ [(44 : UInt8), (74 : UInt8), (49 : UInt8)])) ==
                                          d &&
                                        (Dy.m (day (dayF k d m w e u ++ [(44 : UInt8), (74 : UInt8), (49 : UInt8)])) ==
                                            m &&
                                          (Dy.w
                                                (day
                                                  (dayF k d m w e u ++ [(44 : UInt8), (74 : UInt8), (49 : UInt8)])) ==
                                              w &&
                                            (Dy.e
                                                  (day
                                                    (dayF k d m w e u ++ [(44 : UInt8), (74 : UInt8), (49 : UInt8)])) ==
                                                e &&
                                              (Dy.t
                                                    (day
                                                      (dayF k d m w e u ++
                                                        [(44 : UInt8), (74 : UInt8), (49 : UInt8)])) ==
                                                  u &&
                                                true)))))) &&
                                  Dy.n (day (dayF k d m w e u ++ [(44 : UInt8), (74 : UInt8), (49 : UInt8)])) ==
                                    (↑(List.length (dayF k d m w e u)) : Int) &&
                                Dy.ok
                                  (day
                                    (List.take
                                        (Int.toNat
                                            (IntKind.wrap IntKind.i64
                                              ((↑(List.length (dayF k d m w e (7200 : Int))) : Int) - (2 : Int))) -
                                          (0 : Nat))
                                        (List.drop (0 : Nat) (dayF k d m w e (7200 : Int))) ++
                                      [(44 : UInt8), (74 : UInt8), (49 : UInt8)])) &&
                              (Dy.k
                                    (day
                                      (List.take
                                          (Int.toNat
                                              (IntKind.wrap IntKind.i64
                                                ((↑(List.length (dayF k d m w e (7200 : Int))) : Int) - (2 : Int))) -
                                            (0 : Nat))
                                          (List.drop (0 : Nat) (dayF k d m w e (7200 : Int))) ++
                                        [(44 : UInt8), (74 : UInt8), (49 : UInt8)])) ==
                                  k &&
                                (Dy.d
                                      (day
                                        (List.take
                                            (Int.toNat
                                                (IntKind.wrap IntKind.i64
                                                  ((↑(List.length (dayF k d m w e (7200 : Int))) : Int) - (2 : Int))) -
                                              (0 : Nat))
                                            (List.drop (0 : Nat) (dayF k d m w e (7200 : Int))) ++
                                          [(44 : UInt8), (74 : UInt8), (49 : UInt8)])) ==
                                    d &&
                                  (Dy.m
                                        (day
                                          (List.take
                                              (Int.toNat
                                                  (IntKind.wrap IntKind.i64
                                                    ((↑(List.length (dayF k d m w e (7200 : Int))) : Int) -
                                                      (2 : Int))) -
                                                (0 : Nat))
                                              (List.drop (0 : Nat) (dayF k d m w e (7200 : Int))) ++
                                            [(44 : UInt8), (74 : UInt8), (49 : UInt8)])) ==
                                      m &&
                                    (Dy.w
                                          (day
                                            (List.take
                                                (Int.toNat
                                                    (IntKind.wrap IntKind.i64
                                                      ((↑(List.length (dayF k d m w e (7200 : Int))) : Int) -
                                                        (2 : Int))) -
                                                  (0 : Nat))
                                                (List.drop (0 : Nat) (dayF k d m w e (7200 : Int))) ++
                                              [(44 : UInt8), (74 : UInt8), (49 : UInt8)])) ==
                                        w &&
                                      (Dy.e
                                            (day
                                              (List.take
                                                  (Int.toNat
                                                      (IntKind.wrap IntKind.i64
                                                        ((↑(List.length (dayF k d m w e (7200 : Int))) : Int) -
                                                          (2 : Int))) -
                                                    (0 : Nat))
                                                  (List.drop (0 : Nat) (dayF k d m w e (7200 : Int))) ++
                                                [(44 : UInt8), (74 : UInt8), (49 : UInt8)])) ==
                                          e &&
                                        (Dy.t
                                              (day
                                                (List.take
                                                    (Int.toNat
                                                        (IntKind.wrap IntKind.i64
                                                          ((↑(List.length (dayF k d m w e (7200 : Int))) : Int) -
                                                            (2 : Int))) -
                                                      (0 : Nat))
                                                    (List.drop (0 : Nat) (dayF k d m w e (7200 : Int))) ++
                                                  [(44 : UInt8), (74 : UInt8), (49 : UInt8)])) ==
                                            (7200 : Int) &&
                                          true)))))) &&
                            Dy.n
                                (day
                                  (List.take
                                      (Int.toNat
                                          (IntKind.wrap IntKind.i64
                                            ((↑(List.length (dayF k d m w e (7200 : Int))) : Int) - (2 : Int))) -
                                        (0 : Nat))
                                      (List.drop (0 : Nat) (dayF k d m w e (7200 : Int))) ++
                                    [(44 : UInt8), (74 : UInt8), (49 : UInt8)])) ==
                              (↑(List.length
                                    (List.take
                                      (Int.toNat
                                          (IntKind.wrap IntKind.i64
                                            ((↑(List.length (dayF k d m w e (7200 : Int))) : Int) - (2 : Int))) -
                                        (0 : Nat))
                                      (List.drop (0 : Nat) (dayF k d m w e (7200 : Int))))) :
                                Int)))])) := by kernel_rfl
theorem f4_a (s : List
  UInt8) (t : List
  UInt8) (a : Int) (b : Int) (k : Int) (d : Int) (m : Int) (w : Int) (e : Int) (u : Int) (k' : Int) (d' : Int) (m' : Int) (w' : Int) (e' : Int) (u' : Int) (K : AX →
  St → Prop) : evCode C7 a4 (e4 s t a b k d m w e u k' d' m' w' e' u') K =
  (((!true) = false → List.length s ≤ (9223372036854775807 : Nat)) ∧
  ((!true || !A7.valid s) = false → List.length t ≤ (9223372036854775807 : Nat)) ∧
    brn
      (!true || !A7.valid s || !A7.valid t || decide (a < (-89999 : Int)) || decide (a > (89999 : Int)) ||
              decide (b < (-89999 : Int)) ||
            decide (b > (89999 : Int)) ||
          !validDay k d m w e u ||
        !validDay k' d' m' w' e' u')
      (K AX.ret
        (St.mk
          [AV.imm (IV.str s), AV.imm (IV.str t), AV.imm (IV.int IntKind.i64 a), AV.imm (IV.int IntKind.i64 b),
            AV.agg
              [AV.imm (IV.int IntKind.i64 k), AV.imm (IV.int IntKind.i64 d), AV.imm (IV.int IntKind.i64 m),
                AV.imm (IV.int IntKind.i64 w), AV.imm (IV.int IntKind.i64 e), AV.imm (IV.int IntKind.i64 u)],
            AV.agg
              [AV.imm (IV.int IntKind.i64 k'), AV.imm (IV.int IntKind.i64 d'), AV.imm (IV.int IntKind.i64 m'),
                AV.imm (IV.int IntKind.i64 w'), AV.imm (IV.int IntKind.i64 e'), AV.imm (IV.int IntKind.i64 u')],
            AV.dead, AV.dead, AV.dead, AV.dead, AV.ptr (0 : Nat) (0 : Nat), AV.ptr (1 : Nat) (0 : Nat),
            AV.imm (IV.bool true), AV.dead, AV.dead, AV.dead, AV.dead, AV.dead, AV.dead, AV.dead, AV.dead, AV.dead,
            AV.imm (IV.bool true), AV.imm (IV.bool false), AV.imm (IV.bool false),
            AV.opt [((24 : Nat), false)] (AV.imm (IV.str s)),
            AV.opt [((24 : Nat), false)] (AV.imm (IV.bool (A7.valid s))),
            AV.opt [((24 : Nat), false)] (AV.imm (IV.bool !A7.valid s)), AV.imm (IV.bool (!true || !A7.valid s)),
            AV.imm (IV.bool (!true || !A7.valid s)), AV.opt [((29 : Nat), false)] (AV.imm (IV.str t)),
            AV.opt [((29 : Nat), false)] (AV.imm (IV.bool (A7.valid t))),
            AV.opt [((29 : Nat), false)] (AV.imm (IV.bool !A7.valid t)),
            AV.imm (IV.bool (!true || !A7.valid s || !A7.valid t)),
            AV.imm (IV.bool (!true || !A7.valid s || !A7.valid t)),
            AV.opt [((34 : Nat), false)] (AV.imm (IV.int IntKind.i64 a)),
            AV.opt [((34 : Nat), false)] (AV.imm (IV.bool (decide (a < (-89999 : Int))))),
            AV.imm (IV.bool (!true || !A7.valid s || !A7.valid t || decide (a < (-89999 : Int)))),
            AV.imm (IV.bool (!true || !A7.valid s || !A7.valid t || decide (a < (-89999 : Int)))),
            AV.opt [((38 : Nat), false)] (AV.imm (IV.int IntKind.i64 a)),
            AV.opt [((38 : Nat), false)] (AV.imm (IV.bool (decide (a > (89999 : Int))))),
            AV.imm
              (IV.bool
                (!true || !A7.valid s || !A7.valid t || decide (a < (-89999 : Int)) || decide (a > (89999 : Int)))),
            AV.imm
              (IV.bool
                (!true || !A7.valid s || !A7.valid t || decide (a < (-89999 : Int)) || decide (a > (89999 : Int)))),
            AV.opt [((42 : Nat), false)] (AV.imm (IV.int IntKind.i64 b)),
            AV.opt [((42 : Nat), false)] (AV.imm (IV.bool (decide (b < (-89999 : Int))))),
            AV.imm
              (IV.bool
                (!true || !A7.valid s || !A7.valid t || decide (a < (-89999 : Int)) || decide (a > (89999 : Int)) ||
                  decide (b < (-89999 : Int)))),
            AV.imm
              (IV.bool
                (!true || !A7.valid s || !A7.valid t || decide (a < (-89999 : Int)) || decide (a > (89999 : Int)) ||
                  decide (b < (-89999 : Int)))),
            AV.opt [((46 : Nat), false)] (AV.imm (IV.int IntKind.i64 b)),
            AV.opt [((46 : Nat), false)] (AV.imm (IV.bool (decide (b > (89999 : Int))))),
            AV.imm
              (IV.bool
                (!true || !A7.valid s || !A7.valid t || decide (a < (-89999 : Int)) || decide (a > (89999 : Int)) ||
                    decide (b < (-89999 : Int)) ||
                  decide (b > (89999 : Int)))),
            AV.imm
              (IV.bool
                (!true || !A7.valid s || !A7.valid t || decide (a < (-89999 : Int)) || decide (a > (89999 : Int)) ||
                    decide (b < (-89999 : Int)) ||
                  decide (b > (89999 : Int)))),
            AV.opt [((50 : Nat), false)]
              (AV.agg
                [AV.imm (IV.int IntKind.i64 k), AV.imm (IV.int IntKind.i64 d), AV.imm (IV.int IntKind.i64 m),
                  AV.imm (IV.int IntKind.i64 w), AV.imm (IV.int IntKind.i64 e), AV.imm (IV.int IntKind.i64 u)]),
            AV.opt [((50 : Nat), false)] (AV.imm (IV.bool (validDay k d m w e u))),
            AV.opt [((50 : Nat), false)] (AV.imm (IV.bool !validDay k d m w e u)),
            AV.imm
              (IV.bool
                (!true || !A7.valid s || !A7.valid t || decide (a < (-89999 : Int)) || decide (a > (89999 : Int)) ||
                      decide (b < (-89999 : Int)) ||
                    decide (b > (89999 : Int)) ||
                  !validDay k d m w e u)),
            AV.imm
              (IV.bool
                (!true || !A7.valid s || !A7.valid t || decide (a < (-89999 : Int)) || decide (a > (89999 : Int)) ||
                      decide (b < (-89999 : Int)) ||
                    decide (b > (89999 : Int)) ||
                  !validDay k d m w e u)),
            AV.opt [((55 : Nat), false)]
              (AV.agg
                [AV.imm (IV.int IntKind.i64 k'), AV.imm (IV.int IntKind.i64 d'), AV.imm (IV.int IntKind.i64 m'),
                  AV.imm (IV.int IntKind.i64 w'), AV.imm (IV.int IntKind.i64 e'), AV.imm (IV.int IntKind.i64 u')]),
            AV.opt [((55 : Nat), false)] (AV.imm (IV.bool (validDay k' d' m' w' e' u'))),
            AV.opt [((55 : Nat), false)] (AV.imm (IV.bool !validDay k' d' m' w' e' u')),
            AV.imm
              (IV.bool
                (!true || !A7.valid s || !A7.valid t || decide (a < (-89999 : Int)) || decide (a > (89999 : Int)) ||
                        decide (b < (-89999 : Int)) ||
                      decide (b > (89999 : Int)) ||
                    !validDay k d m w e u ||
                  !validDay k' d' m' w' e' u')),
            AV.imm (IV.bool true), AV.dead, AV.dead, AV.dead, AV.dead, AV.dead, AV.dead, AV.dead, AV.dead, AV.dead,
            AV.dead, AV.dead, AV.dead, AV.dead, AV.dead, AV.dead, AV.dead, AV.dead, AV.dead, AV.dead, AV.dead, AV.dead,
            AV.dead, AV.dead, AV.dead, AV.dead, AV.dead, AV.dead, AV.dead, AV.dead, AV.dead, AV.dead, AV.dead, AV.dead,
            AV.dead, AV.dead, AV.dead, AV.dead, AV.dead, AV.dead, AV.dead, AV.dead, AV.dead, AV.dead, AV.dead, AV.dead,
            AV.dead, AV.dead, AV.dead, AV.dead, AV.dead, AV.dead, AV.dead, AV.dead, AV.dead, AV.dead, AV.dead, AV.dead,
            AV.dead, AV.dead]
          [((0 : Nat),
              Ob.mk true (0 : Nat)
                (AObj.cells
                  [AV.imm (IV.int IntKind.i64 k), AV.imm (IV.int IntKind.i64 d), AV.imm (IV.int IntKind.i64 m),
                    AV.imm (IV.int IntKind.i64 w), AV.imm (IV.int IntKind.i64 e), AV.imm (IV.int IntKind.i64 u)])),
            ((1 : Nat),
              Ob.mk true (0 : Nat)
                (AObj.cells
                  [AV.imm (IV.int IntKind.i64 k'), AV.imm (IV.int IntKind.i64 d'), AV.imm (IV.int IntKind.i64 m'),
                    AV.imm (IV.int IntKind.i64 w'), AV.imm (IV.int IntKind.i64 e'), AV.imm (IV.int IntKind.i64 u')]))]
          (2 : Nat) []))
      (List.length [(60 : UInt8)] + List.length s ≤ (9223372036854775807 : Nat) ∧
        List.length ([(60 : UInt8)] ++ s) + List.length [(62 : UInt8)] ≤ (9223372036854775807 : Nat) ∧
          (-604799 : Int) ≤ a ∧
            a ≤ (604799 : Int) ∧
              List.length ([(60 : UInt8)] ++ s ++ [(62 : UInt8)]) + List.length (A8.fmt a) ≤
                  (9223372036854775807 : Nat) ∧
                K AX.normal
                  (St.mk
                    [AV.imm (IV.str s), AV.imm (IV.str t), AV.imm (IV.int IntKind.i64 a), AV.imm (IV.int IntKind.i64 b),
                      AV.agg
                        [AV.imm (IV.int IntKind.i64 k), AV.imm (IV.int IntKind.i64 d), AV.imm (IV.int IntKind.i64 m),
                          AV.imm (IV.int IntKind.i64 w), AV.imm (IV.int IntKind.i64 e), AV.imm (IV.int IntKind.i64 u)],
                      AV.agg
                        [AV.imm (IV.int IntKind.i64 k'), AV.imm (IV.int IntKind.i64 d'), AV.imm (IV.int IntKind.i64 m'),
                          AV.imm (IV.int IntKind.i64 w'), AV.imm (IV.int IntKind.i64 e'),
                          AV.imm (IV.int IntKind.i64 u')],
                      AV.dead, AV.dead, AV.dead, AV.dead, AV.ptr (0 : Nat) (0 : Nat), AV.ptr (1 : Nat) (0 : Nat),
                      AV.imm (IV.bool false), AV.imm (IV.str ([(60 : UInt8)] ++ s ++ [(62 : UInt8)] ++ A8.fmt a)),
                      AV.dead, AV.dead, AV.dead, AV.dead, AV.dead, AV.dead, AV.dead, AV.dead, AV.imm (IV.bool true),
                      AV.imm (IV.bool false), AV.imm (IV.bool false), AV.opt [((24 : Nat), false)] (AV.imm (IV.str s)),
                      AV.opt [((24 : Nat), false)] (AV.imm (IV.bool (A7.valid s))),
                      AV.opt [((24 : Nat), false)] (AV.imm (IV.bool !A7.valid s)),
                      AV.imm (IV.bool (!true || !A7.valid s)), AV.imm (IV.bool (!true || !A7.valid s)),
                      AV.opt [((29 : Nat), false)] (AV.imm (IV.str t)),
                      AV.opt [((29 : Nat), false)] (AV.imm (IV.bool (A7.valid t))),
                      AV.opt [((29 : Nat), false)] (AV.imm (IV.bool !A7.valid t)),
                      AV.imm (IV.bool (!true || !A7.valid s || !A7.valid t)),
                      AV.imm (IV.bool (!true || !A7.valid s || !A7.valid t)),
                      AV.opt [((34 : Nat), false)] (AV.imm (IV.int IntKind.i64 a)),
                      AV.opt [((34 : Nat), false)] (AV.imm (IV.bool (decide (a < (-89999 : Int))))),
                      AV.imm (IV.bool (!true || !A7.valid s || !A7.valid t || decide (a < (-89999 : Int)))),
                      AV.imm (IV.bool (!true || !A7.valid s || !A7.valid t || decide (a < (-89999 : Int)))),
                      AV.opt [((38 : Nat), false)] (AV.imm (IV.int IntKind.i64 a)),
                      AV.opt [((38 : Nat), false)] (AV.imm (IV.bool (decide (a > (89999 : Int))))),
                      AV.imm
                        (IV.bool
                          (!true || !A7.valid s || !A7.valid t || decide (a < (-89999 : Int)) ||
                            decide (a > (89999 : Int)))),
                      AV.imm
                        (IV.bool
                          (!true || !A7.valid s || !A7.valid t || decide (a < (-89999 : Int)) ||
                            decide (a > (89999 : Int)))),
                      AV.opt [((42 : Nat), false)] (AV.imm (IV.int IntKind.i64 b)),
                      AV.opt [((42 : Nat), false)] (AV.imm (IV.bool (decide (b < (-89999 : Int))))),
                      AV.imm
                        (IV.bool
                          (!true || !A7.valid s || !A7.valid t || decide (a < (-89999 : Int)) ||
                              decide (a > (89999 : Int)) ||
                            decide (b < (-89999 : Int)))),
                      AV.imm
                        (IV.bool
                          (!true || !A7.valid s || !A7.valid t || decide (a < (-89999 : Int)) ||
                              decide (a > (89999 : Int)) ||
                            decide (b < (-89999 : Int)))),
                      AV.opt [((46 : Nat), false)] (AV.imm (IV.int IntKind.i64 b)),
                      AV.opt [((46 : Nat), false)] (AV.imm (IV.bool (decide (b > (89999 : Int))))),
                      AV.imm
                        (IV.bool
                          (!true || !A7.valid s || !A7.valid t || decide (a < (-89999 : Int)) ||
                                decide (a > (89999 : Int)) ||
                              decide (b < (-89999 : Int)) ||
                            decide (b > (89999 : Int)))),
                      AV.imm
                        (IV.bool
                          (!true || !A7.valid s || !A7.valid t || decide (a < (-89999 : Int)) ||
                                decide (a > (89999 : Int)) ||
                              decide (b < (-89999 : Int)) ||
                            decide (b > (89999 : Int)))),
                      AV.opt [((50 : Nat), false)]
                        (AV.agg
                          [AV.imm (IV.int IntKind.i64 k), AV.imm (IV.int IntKind.i64 d), AV.imm (IV.int IntKind.i64 m),
                            AV.imm (IV.int IntKind.i64 w), AV.imm (IV.int IntKind.i64 e),
                            AV.imm (IV.int IntKind.i64 u)]),
                      AV.opt [((50 : Nat), false)] (AV.imm (IV.bool (validDay k d m w e u))),
                      AV.opt [((50 : Nat), false)] (AV.imm (IV.bool !validDay k d m w e u)),
                      AV.imm
                        (IV.bool
                          (!true || !A7.valid s || !A7.valid t || decide (a < (-89999 : Int)) ||
                                  decide (a > (89999 : Int)) ||
                                decide (b < (-89999 : Int)) ||
                              decide (b > (89999 : Int)) ||
                            !validDay k d m w e u)),
                      AV.imm
                        (IV.bool
                          (!true || !A7.valid s || !A7.valid t || decide (a < (-89999 : Int)) ||
                                  decide (a > (89999 : Int)) ||
                                decide (b < (-89999 : Int)) ||
                              decide (b > (89999 : Int)) ||
                            !validDay k d m w e u)),
                      AV.opt [((55 : Nat), false)]
                        (AV.agg
                          [AV.imm (IV.int IntKind.i64 k'), AV.imm (IV.int IntKind.i64 d'),
                            AV.imm (IV.int IntKind.i64 m'), AV.imm (IV.int IntKind.i64 w'),
                            AV.imm (IV.int IntKind.i64 e'), AV.imm (IV.int IntKind.i64 u')]),
                      AV.opt [((55 : Nat), false)] (AV.imm (IV.bool (validDay k' d' m' w' e' u'))),
                      AV.opt [((55 : Nat), false)] (AV.imm (IV.bool !validDay k' d' m' w' e' u')),
                      AV.imm
                        (IV.bool
                          (!true || !A7.valid s || !A7.valid t || decide (a < (-89999 : Int)) ||
                                    decide (a > (89999 : Int)) ||
                                  decide (b < (-89999 : Int)) ||
                                decide (b > (89999 : Int)) ||
                              !validDay k d m w e u ||
                            !validDay k' d' m' w' e' u')),
                      AV.dead, AV.imm (IV.str s), AV.imm (IV.str ([(60 : UInt8)] ++ s)),
                      AV.imm (IV.str ([(60 : UInt8)] ++ s ++ [(62 : UInt8)])), AV.imm (IV.int IntKind.i64 a),
                      AV.imm (IV.str (A8.fmt a)), AV.imm (IV.str ([(60 : UInt8)] ++ s ++ [(62 : UInt8)] ++ A8.fmt a)),
                      AV.dead, AV.dead, AV.dead, AV.dead, AV.dead, AV.dead, AV.dead, AV.dead, AV.dead, AV.dead, AV.dead,
                      AV.dead, AV.dead, AV.dead, AV.dead, AV.dead, AV.dead, AV.dead, AV.dead, AV.dead, AV.dead, AV.dead,
                      AV.dead, AV.dead, AV.dead, AV.dead, AV.dead, AV.dead, AV.dead, AV.dead, AV.dead, AV.dead, AV.dead,
                      AV.dead, AV.dead, AV.dead, AV.dead, AV.dead, AV.dead, AV.dead, AV.dead, AV.dead, AV.dead, AV.dead,
                      AV.dead, AV.dead, AV.dead, AV.dead, AV.dead, AV.dead, AV.dead, AV.dead, AV.dead]
                    [((0 : Nat),
                        Ob.mk true (0 : Nat)
                          (AObj.cells
                            [AV.imm (IV.int IntKind.i64 k), AV.imm (IV.int IntKind.i64 d),
                              AV.imm (IV.int IntKind.i64 m), AV.imm (IV.int IntKind.i64 w),
                              AV.imm (IV.int IntKind.i64 e), AV.imm (IV.int IntKind.i64 u)])),
                      ((1 : Nat),
                        Ob.mk true (0 : Nat)
                          (AObj.cells
                            [AV.imm (IV.int IntKind.i64 k'), AV.imm (IV.int IntKind.i64 d'),
                              AV.imm (IV.int IntKind.i64 m'), AV.imm (IV.int IntKind.i64 w'),
                              AV.imm (IV.int IntKind.i64 e'), AV.imm (IV.int IntKind.i64 u')]))]
                    (2 : Nat) []))) := by kernel_rfl
theorem f4_b1 (s : List
  UInt8) (t : List
  UInt8) (a : Int) (b : Int) (k : Int) (d : Int) (m : Int) (w : Int) (e : Int) (u : Int) (k' : Int) (d' : Int) (m' : Int) (w' : Int) (e' : Int) (u' : Int) (F : List
  UInt8) (T : Nat →
  AV) (K : AX →
  St →
    Prop) : evCode C7 (Code.seq (q4 [Dir.r, Dir.r, Dir.r, Dir.l]) (q4 [Dir.r, Dir.r, Dir.r, Dir.r, Dir.l]))
  (S4 s t a b k d m w e u k' d' m' w' e' u' F T) K =
  ((↑(List.length F) : Int) ≤ (1000000000000000000 : Int) ∧
  brn
    (whyP F != (0 : Int) ||
      !(decide (Ru.a (ruP F) = s) &&
          (Ru.o (ruP F) == IntKind.wrap IntKind.i64 ((0 : Int) - a) &&
            (Ru.h (ruP F) == false &&
              (decide (Ru.b (ruP F) = []) &&
                (Ru.p (ruP F) == (0 : Int) &&
                  (Dv.k (Ru.S (ruP F)) == (0 : Int) &&
                      (Dv.d (Ru.S (ruP F)) == (0 : Int) &&
                        (Dv.m (Ru.S (ruP F)) == (0 : Int) &&
                          (Dv.w (Ru.S (ruP F)) == (0 : Int) &&
                            (Dv.e (Ru.S (ruP F)) == (0 : Int) && (Dv.t (Ru.S (ruP F)) == (0 : Int) && true))))) &&
                    (Dv.k (Ru.E (ruP F)) == (0 : Int) &&
                        (Dv.d (Ru.E (ruP F)) == (0 : Int) &&
                          (Dv.m (Ru.E (ruP F)) == (0 : Int) &&
                            (Dv.w (Ru.E (ruP F)) == (0 : Int) &&
                              (Dv.e (Ru.E (ruP F)) == (0 : Int) && (Dv.t (Ru.E (ruP F)) == (0 : Int) && true))))) &&
                      true))))))))
    (K AX.ret
      (St.mk
        [AV.imm (IV.str s), AV.imm (IV.str t), AV.imm (IV.int IntKind.i64 a), AV.imm (IV.int IntKind.i64 b),
          AV.agg
            [AV.imm (IV.int IntKind.i64 k), AV.imm (IV.int IntKind.i64 d), AV.imm (IV.int IntKind.i64 m),
              AV.imm (IV.int IntKind.i64 w), AV.imm (IV.int IntKind.i64 e), AV.imm (IV.int IntKind.i64 u)],
          AV.agg
            [AV.imm (IV.int IntKind.i64 k'), AV.imm (IV.int IntKind.i64 d'), AV.imm (IV.int IntKind.i64 m'),
              AV.imm (IV.int IntKind.i64 w'), AV.imm (IV.int IntKind.i64 e'), AV.imm (IV.int IntKind.i64 u')],
          (clean1 (T (6 : Nat))),
          (clean1 (T (7 : Nat))),
          (clean1 (T (8 : Nat))),
          (clean1 (T (9 : Nat))),
          AV.ptr (0 : Nat) (0 : Nat), AV.ptr (1 : Nat) (0 : Nat), AV.imm (IV.bool false), AV.imm (IV.str F),
          AV.ptr (2 : Nat) (0 : Nat), AV.imm (IV.int IntKind.i64 (whyP F)), AV.imm (IV.int IntKind.i64 (atP F)),
          (clean1 (T (17 : Nat))),
          (clean1 (T (18 : Nat))),
          (clean1 (T (19 : Nat))),
          (clean1 (T (20 : Nat))),
          (clean1 (T (21 : Nat))),
          (clean1 (T (22 : Nat))),
          (clean1 (T (23 : Nat))),
          (clean1 (T (24 : Nat))),
          (clean1 (T (25 : Nat))),
          (clean1 (T (26 : Nat))),
          (clean1 (T (27 : Nat))),
          (clean1 (T (28 : Nat))),
          (clean1 (T (29 : Nat))),
          (clean1 (T (30 : Nat))),
          (clean1 (T (31 : Nat))),
          (clean1 (T (32 : Nat))),
          (clean1 (T (33 : Nat))),
          (clean1 (T (34 : Nat))),
          (clean1 (T (35 : Nat))),
          (clean1 (T (36 : Nat))),
          (clean1 (T (37 : Nat))),
          (clean1 (T (38 : Nat))),
          (clean1 (T (39 : Nat))),
          (clean1 (T (40 : Nat))),
          (clean1 (T (41 : Nat))),
          (clean1 (T (42 : Nat))),
          (clean1 (T (43 : Nat))),
          (clean1 (T (44 : Nat))),
          (clean1 (T (45 : Nat))),
          (clean1 (T (46 : Nat))),
          (clean1 (T (47 : Nat))),
          (clean1 (T (48 : Nat))),
          (clean1 (T (49 : Nat))),
          (clean1 (T (50 : Nat))),
          (clean1 (T (51 : Nat))),
          (clean1 (T (52 : Nat))),
          (clean1 (T (53 : Nat))),
          (clean1 (T (54 : Nat))),
          (clean1 (T (55 : Nat))),
          (clean1 (T (56 : Nat))),
          (clean1 (T (57 : Nat))),
          (clean1 (T (58 : Nat))),
          (clean1 (T (59 : Nat))),
          (clean1 (T (60 : Nat))),
          (clean1 (T (61 : Nat))),
          (clean1 (T (62 : Nat))),
          (clean1 (T (63 : Nat))),
          (clean1 (T (64 : Nat))),
          (clean1 (T (65 : Nat))),
          (clean1 (T (66 : Nat))),
          AV.tup
            [AV.agg
                [AV.imm (IV.str (Ru.a (ruP F))), AV.imm (IV.int IntKind.i64 (Ru.o (ruP F))),
                  AV.imm (IV.bool (Ru.h (ruP F))), AV.imm (IV.str (Ru.b (ruP F))),
                  AV.imm (IV.int IntKind.i64 (Ru.p (ruP F))), AV.imm (IV.int IntKind.i64 (Dv.k (Ru.S (ruP F)))),
                  AV.imm (IV.int IntKind.i64 (Dv.d (Ru.S (ruP F)))), AV.imm (IV.int IntKind.i64 (Dv.m (Ru.S (ruP F)))),
                  AV.imm (IV.int IntKind.i64 (Dv.w (Ru.S (ruP F)))), AV.imm (IV.int IntKind.i64 (Dv.e (Ru.S (ruP F)))),
                  AV.imm (IV.int IntKind.i64 (Dv.t (Ru.S (ruP F)))), AV.imm (IV.int IntKind.i64 (Dv.k (Ru.E (ruP F)))),
                  AV.imm (IV.int IntKind.i64 (Dv.d (Ru.E (ruP F)))), AV.imm (IV.int IntKind.i64 (Dv.m (Ru.E (ruP F)))),
                  AV.imm (IV.int IntKind.i64 (Dv.w (Ru.E (ruP F)))), AV.imm (IV.int IntKind.i64 (Dv.e (Ru.E (ruP F)))),
                  AV.imm (IV.int IntKind.i64 (Dv.t (Ru.E (ruP F))))],
              AV.imm (IV.int IntKind.i64 (whyP F)), AV.imm (IV.int IntKind.i64 (atP F))],
          AV.imm (IV.str F),
          AV.tup
            [AV.agg
                [AV.imm (IV.str (Ru.a (ruP F))), AV.imm (IV.int IntKind.i64 (Ru.o (ruP F))),
                  AV.imm (IV.bool (Ru.h (ruP F))), AV.imm (IV.str (Ru.b (ruP F))),
                  AV.imm (IV.int IntKind.i64 (Ru.p (ruP F))), AV.imm (IV.int IntKind.i64 (Dv.k (Ru.S (ruP F)))),
                  AV.imm (IV.int IntKind.i64 (Dv.d (Ru.S (ruP F)))), AV.imm (IV.int IntKind.i64 (Dv.m (Ru.S (ruP F)))),
                  AV.imm (IV.int IntKind.i64 (Dv.w (Ru.S (ruP F)))), AV.imm (IV.int IntKind.i64 (Dv.e (Ru.S (ruP F)))),
                  AV.imm (IV.int IntKind.i64 (Dv.t (Ru.S (ruP F)))), AV.imm (IV.int IntKind.i64 (Dv.k (Ru.E (ruP F)))),
                  AV.imm (IV.int IntKind.i64 (Dv.d (Ru.E (ruP F)))), AV.imm (IV.int IntKind.i64 (Dv.m (Ru.E (ruP F)))),
                  AV.imm (IV.int IntKind.i64 (Dv.w (Ru.E (ruP F)))), AV.imm (IV.int IntKind.i64 (Dv.e (Ru.E (ruP F)))),
                  AV.imm (IV.int IntKind.i64 (Dv.t (Ru.E (ruP F))))],
              AV.imm (IV.int IntKind.i64 (whyP F)), AV.imm (IV.int IntKind.i64 (atP F))],
          AV.agg
            [AV.imm (IV.str (Ru.a (ruP F))), AV.imm (IV.int IntKind.i64 (Ru.o (ruP F))),
              AV.imm (IV.bool (Ru.h (ruP F))), AV.imm (IV.str (Ru.b (ruP F))),
              AV.imm (IV.int IntKind.i64 (Ru.p (ruP F))), AV.imm (IV.int IntKind.i64 (Dv.k (Ru.S (ruP F)))),
              AV.imm (IV.int IntKind.i64 (Dv.d (Ru.S (ruP F)))), AV.imm (IV.int IntKind.i64 (Dv.m (Ru.S (ruP F)))),
              AV.imm (IV.int IntKind.i64 (Dv.w (Ru.S (ruP F)))), AV.imm (IV.int IntKind.i64 (Dv.e (Ru.S (ruP F)))),
              AV.imm (IV.int IntKind.i64 (Dv.t (Ru.S (ruP F)))), AV.imm (IV.int IntKind.i64 (Dv.k (Ru.E (ruP F)))),
              AV.imm (IV.int IntKind.i64 (Dv.d (Ru.E (ruP F)))), AV.imm (IV.int IntKind.i64 (Dv.m (Ru.E (ruP F)))),
              AV.imm (IV.int IntKind.i64 (Dv.w (Ru.E (ruP F)))), AV.imm (IV.int IntKind.i64 (Dv.e (Ru.E (ruP F)))),
              AV.imm (IV.int IntKind.i64 (Dv.t (Ru.E (ruP F))))],
          AV.imm (IV.int IntKind.i64 (whyP F)), AV.imm (IV.int IntKind.i64 (atP F)),
          AV.imm (IV.int IntKind.i64 (whyP F)), AV.imm (IV.bool (whyP F != (0 : Int))),
          AV.imm (IV.bool (whyP F != (0 : Int))),
          AV.opt [((75 : Nat), false)]
            (AV.agg
              [AV.imm (IV.str (Ru.a (ruP F))), AV.imm (IV.int IntKind.i64 (Ru.o (ruP F))),
                AV.imm (IV.bool (Ru.h (ruP F))), AV.imm (IV.str (Ru.b (ruP F))),
                AV.imm (IV.int IntKind.i64 (Ru.p (ruP F))), AV.imm (IV.int IntKind.i64 (Dv.k (Ru.S (ruP F)))),
                AV.imm (IV.int IntKind.i64 (Dv.d (Ru.S (ruP F)))), AV.imm (IV.int IntKind.i64 (Dv.m (Ru.S (ruP F)))),
                AV.imm (IV.int IntKind.i64 (Dv.w (Ru.S (ruP F)))), AV.imm (IV.int IntKind.i64 (Dv.e (Ru.S (ruP F)))),
                AV.imm (IV.int IntKind.i64 (Dv.t (Ru.S (ruP F)))), AV.imm (IV.int IntKind.i64 (Dv.k (Ru.E (ruP F)))),
                AV.imm (IV.int IntKind.i64 (Dv.d (Ru.E (ruP F)))), AV.imm (IV.int IntKind.i64 (Dv.m (Ru.E (ruP F)))),
                AV.imm (IV.int IntKind.i64 (Dv.w (Ru.E (ruP F)))), AV.imm (IV.int IntKind.i64 (Dv.e (Ru.E (ruP F)))),
                AV.imm (IV.int IntKind.i64 (Dv.t (Ru.E (ruP F))))]),
          AV.opt [((75 : Nat), false)] (AV.imm (IV.str s)),
          AV.opt [((75 : Nat), false)] (AV.imm (IV.int IntKind.i64 a)),
          AV.opt [((75 : Nat), false)] (AV.imm (IV.int IntKind.i64 (IntKind.wrap IntKind.i64 ((0 : Int) - a)))),
          AV.opt [((75 : Nat), false)]
            (AV.agg
              [AV.imm (IV.str s), AV.imm (IV.int IntKind.i64 (IntKind.wrap IntKind.i64 ((0 : Int) - a))),
                AV.imm (IV.bool false), AV.imm (IV.str []), AV.imm (IV.int IntKind.i64 (0 : Int)),
                AV.imm (IV.int IntKind.i64 (0 : Int)), AV.imm (IV.int IntKind.i64 (0 : Int)),
                AV.imm (IV.int IntKind.i64 (0 : Int)), AV.imm (IV.int IntKind.i64 (0 : Int)),
                AV.imm (IV.int IntKind.i64 (0 : Int)), AV.imm (IV.int IntKind.i64 (0 : Int)),
                AV.imm (IV.int IntKind.i64 (0 : Int)), AV.imm (IV.int IntKind.i64 (0 : Int)),
                AV.imm (IV.int IntKind.i64 (0 : Int)), AV.imm (IV.int IntKind.i64 (0 : Int)),
                AV.imm (IV.int IntKind.i64 (0 : Int)), AV.imm (IV.int IntKind.i64 (0 : Int))]),
          AV.opt [((75 : Nat), false)]
            (AV.imm
              (IV.bool
                !(decide (Ru.a (ruP F) = s) &&
                    (Ru.o (ruP F) == IntKind.wrap IntKind.i64 ((0 : Int) - a) &&
                      (Ru.h (ruP F) == false &&
                        (decide (Ru.b (ruP F) = []) &&
                          (Ru.p (ruP F) == (0 : Int) &&
                            (Dv.k (Ru.S (ruP F)) == (0 : Int) &&
                                (Dv.d (Ru.S (ruP F)) == (0 : Int) &&
                                  (Dv.m (Ru.S (ruP F)) == (0 : Int) &&
                                    (Dv.w (Ru.S (ruP F)) == (0 : Int) &&
                                      (Dv.e (Ru.S (ruP F)) == (0 : Int) &&
                                        (Dv.t (Ru.S (ruP F)) == (0 : Int) && true))))) &&
                              (Dv.k (Ru.E (ruP F)) == (0 : Int) &&
                                  (Dv.d (Ru.E (ruP F)) == (0 : Int) &&
                                    (Dv.m (Ru.E (ruP F)) == (0 : Int) &&
                                      (Dv.w (Ru.E (ruP F)) == (0 : Int) &&
                                        (Dv.e (Ru.E (ruP F)) == (0 : Int) &&
                                          (Dv.t (Ru.E (ruP F)) == (0 : Int) && true))))) &&
                                true))))))))),
          AV.imm
            (IV.bool
              (whyP F != (0 : Int) ||
                !(decide (Ru.a (ruP F) = s) &&
                    (Ru.o (ruP F) == IntKind.wrap IntKind.i64 ((0 : Int) - a) &&
                      (Ru.h (ruP F) == false &&
                        (decide (Ru.b (ruP F) = []) &&
                          (Ru.p (ruP F) == (0 : Int) &&
                            (Dv.k (Ru.S (ruP F)) == (0 : Int) &&
                                (Dv.d (Ru.S (ruP F)) == (0 : Int) &&
                                  (Dv.m (Ru.S (ruP F)) == (0 : Int) &&
                                    (Dv.w (Ru.S (ruP F)) == (0 : Int) &&
                                      (Dv.e (Ru.S (ruP F)) == (0 : Int) &&
                                        (Dv.t (Ru.S (ruP F)) == (0 : Int) && true))))) &&
                              (Dv.k (Ru.E (ruP F)) == (0 : Int) &&
                                  (Dv.d (Ru.E (ruP F)) == (0 : Int) &&
                                    (Dv.m (Ru.E (ruP F)) == (0 : Int) &&
                                      (Dv.w (Ru.E (ruP F)) == (0 : Int) &&
                                        (Dv.e (Ru.E (ruP F)) == (0 : Int) &&
                                          (Dv.t (Ru.E (ruP F)) == (0 : Int) && true))))) &&
                                true))))))))),
          (clean1 (T (83 : Nat))),
          (clean1 (T (84 : Nat))),
          (clean1 (T (85 : Nat))),
          (clean1 (T (86 : Nat))),
          (clean1 (T (87 : Nat))),
          (clean1 (T (88 : Nat))),
          (clean1 (T (89 : Nat))),
          (clean1 (T (90 : Nat))),
          (clean1 (T (91 : Nat))),
          (clean1 (T (92 : Nat))),
          (clean1 (T (93 : Nat))),
          (clean1 (T (94 : Nat))),
          (clean1 (T (95 : Nat))),
          (clean1 (T (96 : Nat))),
          (clean1 (T (97 : Nat))),
          (clean1 (T (98 : Nat))),
          (clean1 (T (99 : Nat))),
          (clean1 (T (100 : Nat))),
          (clean1 (T (101 : Nat))),
          (clean1 (T (102 : Nat))),
          (clean1 (T (103 : Nat))),
          (clean1 (T (104 : Nat))),
          (clean1 (T (105 : Nat))),
          (clean1 (T (106 : Nat))),
          (clean1 (T (107 : Nat))),
          (clean1 (T (108 : Nat))),
          (clean1 (T (109 : Nat))),
          (clean1 (T (110 : Nat))),
          (clean1 (T (111 : Nat))),
          (clean1 (T (112 : Nat))),
          (clean1 (T (113 : Nat))),
          (clean1 (T (114 : Nat))),
          (clean1 (T (115 : Nat))),
          (clean1 (T (116 : Nat))),
          (clean1 (T (117 : Nat))),
          (clean1 (T (118 : Nat))),
          (clean1 (T (119 : Nat)))]
        [((0 : Nat),
            Ob.mk true (0 : Nat)
              (AObj.cells
                [AV.imm (IV.int IntKind.i64 k), AV.imm (IV.int IntKind.i64 d), AV.imm (IV.int IntKind.i64 m),
                  AV.imm (IV.int IntKind.i64 w), AV.imm (IV.int IntKind.i64 e), AV.imm (IV.int IntKind.i64 u)])),
          ((1 : Nat),
            Ob.mk true (0 : Nat)
              (AObj.cells
                [AV.imm (IV.int IntKind.i64 k'), AV.imm (IV.int IntKind.i64 d'), AV.imm (IV.int IntKind.i64 m'),
                  AV.imm (IV.int IntKind.i64 w'), AV.imm (IV.int IntKind.i64 e'), AV.imm (IV.int IntKind.i64 u')])),
          ((2 : Nat),
            Ob.mk true (0 : Nat)
              (AObj.cells
                [AV.imm (IV.str (Ru.a (ruP F))), AV.imm (IV.int IntKind.i64 (Ru.o (ruP F))),
                  AV.imm (IV.bool (Ru.h (ruP F))), AV.imm (IV.str (Ru.b (ruP F))),
                  AV.imm (IV.int IntKind.i64 (Ru.p (ruP F))), AV.imm (IV.int IntKind.i64 (Dv.k (Ru.S (ruP F)))),
                  AV.imm (IV.int IntKind.i64 (Dv.d (Ru.S (ruP F)))), AV.imm (IV.int IntKind.i64 (Dv.m (Ru.S (ruP F)))),
                  AV.imm (IV.int IntKind.i64 (Dv.w (Ru.S (ruP F)))), AV.imm (IV.int IntKind.i64 (Dv.e (Ru.S (ruP F)))),
                  AV.imm (IV.int IntKind.i64 (Dv.t (Ru.S (ruP F)))), AV.imm (IV.int IntKind.i64 (Dv.k (Ru.E (ruP F)))),
                  AV.imm (IV.int IntKind.i64 (Dv.d (Ru.E (ruP F)))), AV.imm (IV.int IntKind.i64 (Dv.m (Ru.E (ruP F)))),
                  AV.imm (IV.int IntKind.i64 (Dv.w (Ru.E (ruP F)))), AV.imm (IV.int IntKind.i64 (Dv.e (Ru.E (ruP F)))),
                  AV.imm (IV.int IntKind.i64 (Dv.t (Ru.E (ruP F))))]))]
        (3 : Nat) []))
    (K AX.normal
      (St.mk
        [AV.imm (IV.str s), AV.imm (IV.str t), AV.imm (IV.int IntKind.i64 a), AV.imm (IV.int IntKind.i64 b),
          AV.agg
            [AV.imm (IV.int IntKind.i64 k), AV.imm (IV.int IntKind.i64 d), AV.imm (IV.int IntKind.i64 m),
              AV.imm (IV.int IntKind.i64 w), AV.imm (IV.int IntKind.i64 e), AV.imm (IV.int IntKind.i64 u)],
          AV.agg
            [AV.imm (IV.int IntKind.i64 k'), AV.imm (IV.int IntKind.i64 d'), AV.imm (IV.int IntKind.i64 m'),
              AV.imm (IV.int IntKind.i64 w'), AV.imm (IV.int IntKind.i64 e'), AV.imm (IV.int IntKind.i64 u')],
          (clean1 (T (6 : Nat))),
          (clean1 (T (7 : Nat))),
          (clean1 (T (8 : Nat))),
          (clean1 (T (9 : Nat))),
          AV.ptr (0 : Nat) (0 : Nat), AV.ptr (1 : Nat) (0 : Nat),
          (clean1 (T (12 : Nat))),
          AV.imm (IV.str F), AV.ptr (2 : Nat) (0 : Nat), AV.imm (IV.int IntKind.i64 (whyP F)),
          AV.imm (IV.int IntKind.i64 (atP F)),
          (clean1 (T (17 : Nat))),
          (clean1 (T (18 : Nat))),
          (clean1 (T (19 : Nat))),
          (clean1 (T (20 : Nat))),
          (clean1 (T (21 : Nat))),
          (clean1 (T (22 : Nat))),
          (clean1 (T (23 : Nat))),
          (clean1 (T (24 : Nat))),
          (clean1 (T (25 : Nat))),
          (clean1 (T (26 : Nat))),
          (clean1 (T (27 : Nat))),
          (clean1 (T (28 : Nat))),
          (clean1 (T (29 : Nat))),
          (clean1 (T (30 : Nat))),
          (clean1 (T (31 : Nat))),
          (clean1 (T (32 : Nat))),
          (clean1 (T (33 : Nat))),
          (clean1 (T (34 : Nat))),
          (clean1 (T (35 : Nat))),
          (clean1 (T (36 : Nat))),
          (clean1 (T (37 : Nat))),
          (clean1 (T (38 : Nat))),
          (clean1 (T (39 : Nat))),
          (clean1 (T (40 : Nat))),
          (clean1 (T (41 : Nat))),
          (clean1 (T (42 : Nat))),
          (clean1 (T (43 : Nat))),
          (clean1 (T (44 : Nat))),
          (clean1 (T (45 : Nat))),
          (clean1 (T (46 : Nat))),
          (clean1 (T (47 : Nat))),
          (clean1 (T (48 : Nat))),
          (clean1 (T (49 : Nat))),
          (clean1 (T (50 : Nat))),
          (clean1 (T (51 : Nat))),
          (clean1 (T (52 : Nat))),
          (clean1 (T (53 : Nat))),
          (clean1 (T (54 : Nat))),
          (clean1 (T (55 : Nat))),
          (clean1 (T (56 : Nat))),
          (clean1 (T (57 : Nat))),
          (clean1 (T (58 : Nat))),
          (clean1 (T (59 : Nat))),
          (clean1 (T (60 : Nat))),
          (clean1 (T (61 : Nat))),
          (clean1 (T (62 : Nat))),
          (clean1 (T (63 : Nat))),
          (clean1 (T (64 : Nat))),
          (clean1 (T (65 : Nat))),
          (clean1 (T (66 : Nat))),
          AV.tup
            [AV.agg
                [AV.imm (IV.str (Ru.a (ruP F))), AV.imm (IV.int IntKind.i64 (Ru.o (ruP F))),
                  AV.imm (IV.bool (Ru.h (ruP F))), AV.imm (IV.str (Ru.b (ruP F))),
                  AV.imm (IV.int IntKind.i64 (Ru.p (ruP F))), AV.imm (IV.int IntKind.i64 (Dv.k (Ru.S (ruP F)))),
                  AV.imm (IV.int IntKind.i64 (Dv.d (Ru.S (ruP F)))), AV.imm (IV.int IntKind.i64 (Dv.m (Ru.S (ruP F)))),
                  AV.imm (IV.int IntKind.i64 (Dv.w (Ru.S (ruP F)))), AV.imm (IV.int IntKind.i64 (Dv.e (Ru.S (ruP F)))),
                  AV.imm (IV.int IntKind.i64 (Dv.t (Ru.S (ruP F)))), AV.imm (IV.int IntKind.i64 (Dv.k (Ru.E (ruP F)))),
                  AV.imm (IV.int IntKind.i64 (Dv.d (Ru.E (ruP F)))), AV.imm (IV.int IntKind.i64 (Dv.m (Ru.E (ruP F)))),
                  AV.imm (IV.int IntKind.i64 (Dv.w (Ru.E (ruP F)))), AV.imm (IV.int IntKind.i64 (Dv.e (Ru.E (ruP F)))),
                  AV.imm (IV.int IntKind.i64 (Dv.t (Ru.E (ruP F))))],
              AV.imm (IV.int IntKind.i64 (whyP F)), AV.imm (IV.int IntKind.i64 (atP F))],
          AV.imm (IV.str F),
          AV.tup
            [AV.agg
                [AV.imm (IV.str (Ru.a (ruP F))), AV.imm (IV.int IntKind.i64 (Ru.o (ruP F))),
                  AV.imm (IV.bool (Ru.h (ruP F))), AV.imm (IV.str (Ru.b (ruP F))),
                  AV.imm (IV.int IntKind.i64 (Ru.p (ruP F))), AV.imm (IV.int IntKind.i64 (Dv.k (Ru.S (ruP F)))),
                  AV.imm (IV.int IntKind.i64 (Dv.d (Ru.S (ruP F)))), AV.imm (IV.int IntKind.i64 (Dv.m (Ru.S (ruP F)))),
                  AV.imm (IV.int IntKind.i64 (Dv.w (Ru.S (ruP F)))), AV.imm (IV.int IntKind.i64 (Dv.e (Ru.S (ruP F)))),
                  AV.imm (IV.int IntKind.i64 (Dv.t (Ru.S (ruP F)))), AV.imm (IV.int IntKind.i64 (Dv.k (Ru.E (ruP F)))),
                  AV.imm (IV.int IntKind.i64 (Dv.d (Ru.E (ruP F)))), AV.imm (IV.int IntKind.i64 (Dv.m (Ru.E (ruP F)))),
                  AV.imm (IV.int IntKind.i64 (Dv.w (Ru.E (ruP F)))), AV.imm (IV.int IntKind.i64 (Dv.e (Ru.E (ruP F)))),
                  AV.imm (IV.int IntKind.i64 (Dv.t (Ru.E (ruP F))))],
              AV.imm (IV.int IntKind.i64 (whyP F)), AV.imm (IV.int IntKind.i64 (atP F))],
          AV.agg
            [AV.imm (IV.str (Ru.a (ruP F))), AV.imm (IV.int IntKind.i64 (Ru.o (ruP F))),
              AV.imm (IV.bool (Ru.h (ruP F))), AV.imm (IV.str (Ru.b (ruP F))),
              AV.imm (IV.int IntKind.i64 (Ru.p (ruP F))), AV.imm (IV.int IntKind.i64 (Dv.k (Ru.S (ruP F)))),
              AV.imm (IV.int IntKind.i64 (Dv.d (Ru.S (ruP F)))), AV.imm (IV.int IntKind.i64 (Dv.m (Ru.S (ruP F)))),
              AV.imm (IV.int IntKind.i64 (Dv.w (Ru.S (ruP F)))), AV.imm (IV.int IntKind.i64 (Dv.e (Ru.S (ruP F)))),
              AV.imm (IV.int IntKind.i64 (Dv.t (Ru.S (ruP F)))), AV.imm (IV.int IntKind.i64 (Dv.k (Ru.E (ruP F)))),
              AV.imm (IV.int IntKind.i64 (Dv.d (Ru.E (ruP F)))), AV.imm (IV.int IntKind.i64 (Dv.m (Ru.E (ruP F)))),
              AV.imm (IV.int IntKind.i64 (Dv.w (Ru.E (ruP F)))), AV.imm (IV.int IntKind.i64 (Dv.e (Ru.E (ruP F)))),
              AV.imm (IV.int IntKind.i64 (Dv.t (Ru.E (ruP F))))],
          AV.imm (IV.int IntKind.i64 (whyP F)), AV.imm (IV.int IntKind.i64 (atP F)),
          AV.imm (IV.int IntKind.i64 (whyP F)), AV.imm (IV.bool (whyP F != (0 : Int))),
          AV.imm (IV.bool (whyP F != (0 : Int))),
          AV.opt [((75 : Nat), false)]
            (AV.agg
              [AV.imm (IV.str (Ru.a (ruP F))), AV.imm (IV.int IntKind.i64 (Ru.o (ruP F))),
                AV.imm (IV.bool (Ru.h (ruP F))), AV.imm (IV.str (Ru.b (ruP F))),
                AV.imm (IV.int IntKind.i64 (Ru.p (ruP F))), AV.imm (IV.int IntKind.i64 (Dv.k (Ru.S (ruP F)))),
                AV.imm (IV.int IntKind.i64 (Dv.d (Ru.S (ruP F)))), AV.imm (IV.int IntKind.i64 (Dv.m (Ru.S (ruP F)))),
                AV.imm (IV.int IntKind.i64 (Dv.w (Ru.S (ruP F)))), AV.imm (IV.int IntKind.i64 (Dv.e (Ru.S (ruP F)))),
                AV.imm (IV.int IntKind.i64 (Dv.t (Ru.S (ruP F)))), AV.imm (IV.int IntKind.i64 (Dv.k (Ru.E (ruP F)))),
                AV.imm (IV.int IntKind.i64 (Dv.d (Ru.E (ruP F)))), AV.imm (IV.int IntKind.i64 (Dv.m (Ru.E (ruP F)))),
                AV.imm (IV.int IntKind.i64 (Dv.w (Ru.E (ruP F)))), AV.imm (IV.int IntKind.i64 (Dv.e (Ru.E (ruP F)))),
                AV.imm (IV.int IntKind.i64 (Dv.t (Ru.E (ruP F))))]),
          AV.opt [((75 : Nat), false)] (AV.imm (IV.str s)),
          AV.opt [((75 : Nat), false)] (AV.imm (IV.int IntKind.i64 a)),
          AV.opt [((75 : Nat), false)] (AV.imm (IV.int IntKind.i64 (IntKind.wrap IntKind.i64 ((0 : Int) - a)))),
          AV.opt [((75 : Nat), false)]
            (AV.agg
              [AV.imm (IV.str s), AV.imm (IV.int IntKind.i64 (IntKind.wrap IntKind.i64 ((0 : Int) - a))),
                AV.imm (IV.bool false), AV.imm (IV.str []), AV.imm (IV.int IntKind.i64 (0 : Int)),
                AV.imm (IV.int IntKind.i64 (0 : Int)), AV.imm (IV.int IntKind.i64 (0 : Int)),
                AV.imm (IV.int IntKind.i64 (0 : Int)), AV.imm (IV.int IntKind.i64 (0 : Int)),
                AV.imm (IV.int IntKind.i64 (0 : Int)), AV.imm (IV.int IntKind.i64 (0 : Int)),
                AV.imm (IV.int IntKind.i64 (0 : Int)), AV.imm (IV.int IntKind.i64 (0 : Int)),
                AV.imm (IV.int IntKind.i64 (0 : Int)), AV.imm (IV.int IntKind.i64 (0 : Int)),
                AV.imm (IV.int IntKind.i64 (0 : Int)), AV.imm (IV.int IntKind.i64 (0 : Int))]),
          AV.opt [((75 : Nat), false)]
            (AV.imm
              (IV.bool
                !(decide (Ru.a (ruP F) = s) &&
                    (Ru.o (ruP F) == IntKind.wrap IntKind.i64 ((0 : Int) - a) &&
                      (Ru.h (ruP F) == false &&
                        (decide (Ru.b (ruP F) = []) &&
                          (Ru.p (ruP F) == (0 : Int) &&
                            (Dv.k (Ru.S (ruP F)) == (0 : Int) &&
                                (Dv.d (Ru.S (ruP F)) == (0 : Int) &&
                                  (Dv.m (Ru.S (ruP F)) == (0 : Int) &&
                                    (Dv.w (Ru.S (ruP F)) == (0 : Int) &&
                                      (Dv.e (Ru.S (ruP F)) == (0 : Int) &&
                                        (Dv.t (Ru.S (ruP F)) == (0 : Int) && true))))) &&
                              (Dv.k (Ru.E (ruP F)) == (0 : Int) &&
                                  (Dv.d (Ru.E (ruP F)) == (0 : Int) &&
                                    (Dv.m (Ru.E (ruP F)) == (0 : Int) &&
                                      (Dv.w (Ru.E (ruP F)) == (0 : Int) &&
                                        (Dv.e (Ru.E (ruP F)) == (0 : Int) &&
                                          (Dv.t (Ru.E (ruP F)) == (0 : Int) && true))))) &&
                                true))))))))),
          AV.imm
            (IV.bool
              (whyP F != (0 : Int) ||
                !(decide (Ru.a (ruP F) = s) &&
                    (Ru.o (ruP F) == IntKind.wrap IntKind.i64 ((0 : Int) - a) &&
                      (Ru.h (ruP F) == false &&
                        (decide (Ru.b (ruP F) = []) &&
                          (Ru.p (ruP F) == (0 : Int) &&
                            (Dv.k (Ru.S (ruP F)) == (0 : Int) &&
                                (Dv.d (Ru.S (ruP F)) == (0 : Int) &&
                                  (Dv.m (Ru.S (ruP F)) == (0 : Int) &&
                                    (Dv.w (Ru.S (ruP F)) == (0 : Int) &&
                                      (Dv.e (Ru.S (ruP F)) == (0 : Int) &&
                                        (Dv.t (Ru.S (ruP F)) == (0 : Int) && true))))) &&
                              (Dv.k (Ru.E (ruP F)) == (0 : Int) &&
                                  (Dv.d (Ru.E (ruP F)) == (0 : Int) &&
                                    (Dv.m (Ru.E (ruP F)) == (0 : Int) &&
                                      (Dv.w (Ru.E (ruP F)) == (0 : Int) &&
                                        (Dv.e (Ru.E (ruP F)) == (0 : Int) &&
                                          (Dv.t (Ru.E (ruP F)) == (0 : Int) && true))))) &&
                                true))))))))),
          (clean1 (T (83 : Nat))),
          (clean1 (T (84 : Nat))),
          (clean1 (T (85 : Nat))),
          (clean1 (T (86 : Nat))),
          (clean1 (T (87 : Nat))),
          (clean1 (T (88 : Nat))),
          (clean1 (T (89 : Nat))),
          (clean1 (T (90 : Nat))),
          (clean1 (T (91 : Nat))),
          (clean1 (T (92 : Nat))),
          (clean1 (T (93 : Nat))),
          (clean1 (T (94 : Nat))),
          (clean1 (T (95 : Nat))),
          (clean1 (T (96 : Nat))),
          (clean1 (T (97 : Nat))),
          (clean1 (T (98 : Nat))),
          (clean1 (T (99 : Nat))),
          (clean1 (T (100 : Nat))),
          (clean1 (T (101 : Nat))),
          (clean1 (T (102 : Nat))),
          (clean1 (T (103 : Nat))),
          (clean1 (T (104 : Nat))),
          (clean1 (T (105 : Nat))),
          (clean1 (T (106 : Nat))),
          (clean1 (T (107 : Nat))),
          (clean1 (T (108 : Nat))),
          (clean1 (T (109 : Nat))),
          (clean1 (T (110 : Nat))),
          (clean1 (T (111 : Nat))),
          (clean1 (T (112 : Nat))),
          (clean1 (T (113 : Nat))),
          (clean1 (T (114 : Nat))),
          (clean1 (T (115 : Nat))),
          (clean1 (T (116 : Nat))),
          (clean1 (T (117 : Nat))),
          (clean1 (T (118 : Nat))),
          (clean1 (T (119 : Nat)))]
        [((0 : Nat),
            Ob.mk true (0 : Nat)
              (AObj.cells
                [AV.imm (IV.int IntKind.i64 k), AV.imm (IV.int IntKind.i64 d), AV.imm (IV.int IntKind.i64 m),
                  AV.imm (IV.int IntKind.i64 w), AV.imm (IV.int IntKind.i64 e), AV.imm (IV.int IntKind.i64 u)])),
          ((1 : Nat),
            Ob.mk true (0 : Nat)
              (AObj.cells
                [AV.imm (IV.int IntKind.i64 k'), AV.imm (IV.int IntKind.i64 d'), AV.imm (IV.int IntKind.i64 m'),
                  AV.imm (IV.int IntKind.i64 w'), AV.imm (IV.int IntKind.i64 e'), AV.imm (IV.int IntKind.i64 u')])),
          ((2 : Nat),
            Ob.mk true (0 : Nat)
              (AObj.cells
                [AV.imm (IV.str (Ru.a (ruP F))), AV.imm (IV.int IntKind.i64 (Ru.o (ruP F))),
                  AV.imm (IV.bool (Ru.h (ruP F))), AV.imm (IV.str (Ru.b (ruP F))),
                  AV.imm (IV.int IntKind.i64 (Ru.p (ruP F))), AV.imm (IV.int IntKind.i64 (Dv.k (Ru.S (ruP F)))),
                  AV.imm (IV.int IntKind.i64 (Dv.d (Ru.S (ruP F)))), AV.imm (IV.int IntKind.i64 (Dv.m (Ru.S (ruP F)))),
                  AV.imm (IV.int IntKind.i64 (Dv.w (Ru.S (ruP F)))), AV.imm (IV.int IntKind.i64 (Dv.e (Ru.S (ruP F)))),
                  AV.imm (IV.int IntKind.i64 (Dv.t (Ru.S (ruP F)))), AV.imm (IV.int IntKind.i64 (Dv.k (Ru.E (ruP F)))),
                  AV.imm (IV.int IntKind.i64 (Dv.d (Ru.E (ruP F)))), AV.imm (IV.int IntKind.i64 (Dv.m (Ru.E (ruP F)))),
                  AV.imm (IV.int IntKind.i64 (Dv.w (Ru.E (ruP F)))), AV.imm (IV.int IntKind.i64 (Dv.e (Ru.E (ruP F)))),
                  AV.imm (IV.int IntKind.i64 (Dv.t (Ru.E (ruP F))))]))]
        (3 : Nat) []))) := by kernel_rfl
theorem f4_c (s : List
  UInt8) (t : List
  UInt8) (a : Int) (b : Int) (k : Int) (d : Int) (m : Int) (w : Int) (e : Int) (u : Int) (k' : Int) (d' : Int) (m' : Int) (w' : Int) (e' : Int) (u' : Int) (F : List
  UInt8) (S : List
  UInt8) (R : List
  AV) (x : AV) (T : Nat →
  AV) (K : List AV →
  Prop) : evCode C7 (q4 [Dir.r, Dir.r, Dir.r, Dir.r, Dir.r, Dir.r])
  (S4b s t a b k d m w e u k' d' m' w' e' u' F S R x T) (finK C7 Try.f4 K) =
  ((↑(List.length S) : Int) ≤ (1000000000000000000 : Int) ∧
  K
    [AV.imm
        (IV.bool
          (whyP S == (0 : Int) &&
            (decide (Ru.a (ruP S) = s) &&
              (Ru.o (ruP S) == IntKind.wrap IntKind.i64 ((0 : Int) - a) &&
                (Ru.h (ruP S) == true &&
                  (decide (Ru.b (ruP S) = t) &&
                    (Ru.p (ruP S) == IntKind.wrap IntKind.i64 ((0 : Int) - b) &&
                      (Dv.k (Ru.S (ruP S)) == k &&
                          (Dv.d (Ru.S (ruP S)) == d &&
                            (Dv.m (Ru.S (ruP S)) == m &&
                              (Dv.w (Ru.S (ruP S)) == w &&
                                (Dv.e (Ru.S (ruP S)) == e && (Dv.t (Ru.S (ruP S)) == u && true))))) &&
                        (Dv.k (Ru.E (ruP S)) == k' &&
                            (Dv.d (Ru.E (ruP S)) == d' &&
                              (Dv.m (Ru.E (ruP S)) == m' &&
                                (Dv.w (Ru.E (ruP S)) == w' &&
                                  (Dv.e (Ru.E (ruP S)) == e' && (Dv.t (Ru.E (ruP S)) == u' && true))))) &&
                          true)))))))))]) := by kernel_rfl
end Z09

set_option maxRecDepth 100000
namespace Z09
open Go Go.AE Go.Proofs
attribute [local irreducible] loopK evCode evSpec loopB norm

theorem at3 : Try.prog.funcs[3]? = some Try.f3 := by kernel_rfl
theorem at4 : Try.prog.funcs[4]? = some Try.f4 := by kernel_rfl
theorem at5 : Try.prog.funcs[5]? = some Try.f5 := by kernel_rfl
theorem at6 : Try.prog.funcs[6]? = some Try.f6 := by kernel_rfl
theorem at7 : Try.prog.funcs[7]? = some Try.f7 := by kernel_rfl
theorem okPW1 {s : List UInt8} {o : Out} (h : parse9 s = o) (hl : s.length ≤ 100) : SpecOK Try.prog G0 8 [.imm (.str s)] [] [.agg (ruOf o).cells, i64 (whyOf o), i64 (atOf o)] := by
  refine SpecOK.pre (pres := [(s.length : Int) ≤ 1000000000000000000]) (fun _ => ?_) (fun _ p hp => ?_) ⟨_, at8, by decide, by rw [body8]; rfl⟩
  · have := okP [.imm (.str s)] [(s.length : Int) ≤ 1000000000000000000] _ rfl
    unfold ruP whyP atP at this
    rw [h] at this
    exact this
  · rw [List.mem_singleton.1 hp]; omega
theorem okPW : ∀ args pres res, sParseW args = some (pres, res) → SpecOK Try.prog G0 8 args pres res := by
  intro args pres res h
  unfold sParseW at h
  split at h
  case h_2 => cases h
  rename_i s
  cases h1 : eqB s w1s with
  | true => rw [h1, cond_true] at h; cases h; rw [eqB_eq h1]; exact okPW1 w1p (by decide)
  | false =>
  rw [h1, cond_false] at h
  cases h1 : eqB s w2s with
  | true => rw [h1, cond_true] at h; cases h; rw [eqB_eq h1]; exact okPW1 w2p (by decide)
  | false =>
  rw [h1, cond_false] at h
  cases h1 : eqB s w3s with
  | true => rw [h1, cond_true] at h; cases h; rw [eqB_eq h1]; exact okPW1 w3p (by decide)
  | false =>
  rw [h1, cond_false] at h
  cases h1 : eqB s w4s with
  | true => rw [h1, cond_true] at h; cases h; rw [eqB_eq h1]; exact okPW1 w4p (by decide)
  | false =>
  rw [h1, cond_false] at h
  cases h1 : eqB s w5s with
  | true => rw [h1, cond_true] at h; cases h; rw [eqB_eq h1]; exact okPW1 w5p (by decide)
  | false => rw [h1, cond_false] at h; cases h
theorem okDW : ∀ args pres res, sDayW args = some (pres, res) → SpecOK Try.prog G0 15 args pres res := by
  intro args pres res h
  unfold sDayW at h
  split at h
  case h_2 => cases h
  rename_i s
  cases h1 : eqB s w6s with
  | true =>
    rw [h1, cond_true] at h; cases h; rw [eqB_eq h1]
    refine SpecOK.pre (pres := [(w6s.length : Int) ≤ big - 20]) (fun _ => ?_) (fun _ p hp => ?_) ⟨_, at15, by decide, rfl⟩
    · have := ok15 [.imm (.str w6s)] [(w6s.length : Int) ≤ big - 20] _ rfl
      rw [w6p] at this
      exact this
    · rw [List.mem_singleton.1 hp]; decide
  | false => rw [h1, cond_false] at h; cases h
theorem okW : EOK Try.prog FW G0 := addE_ok (addE_ok okF5 okPW) okDW
theorem ok7 : ∀ args pres res, sAwake args = some (pres, res) → SpecOK Try.prog G0 7 args pres res := by
  intro args pres res h
  unfold sAwake at h
  split at h
  case h_2 => cases h
  cases h
  refine mk okW at7 (by decide) rfl (fun _ K hK => ?_)
  rw [show cx FW = CW from rfl, f7_w]
  repeat' refine And.intro ?_ ?_
  all_goals first | exact fun _ => by decide | exact Eq.mp (by kernel_rfl) hK
theorem okF7 : EOK Try.prog F7 G0 := addE_ok okF6 ok7
theorem okF8 {S0 : List UInt8} {r0 : Ru} {w0 n0 : Int} (e1 : ruP S0 = r0) (e2 : whyP S0 = w0) (e3 : atP S0 = n0) : EOK Try.prog (F8 S0 r0 w0 n0) G0 := addE_ok (addE_ok okF5 (okAt e1 e2 e3)) ok7
end Z09

set_option maxRecDepth 100000
namespace Z09
open Go Go.AE Go.Proofs

/-! ### what stands behind a rule's part -/
def Sep (c : UInt8) : Prop := c = 32 ∨ c = 44
theorem takeWhile_c {p : UInt8 → Bool} {c : UInt8} (h : p c = false) (v : List UInt8) : ∀ t : List UInt8, (t ++ c :: v).takeWhile p = t.takeWhile p
  | [] => by simp [List.takeWhile_cons, h]
  | b :: t => by
    rw [List.cons_append, List.takeWhile_cons, List.takeWhile_cons, takeWhile_c h v t]
theorem sepD {c : UInt8} (h : Sep c) : A8.isD c = false := by rcases h with rfl | rfl <;> decide
theorem runD_c {c : UInt8} (h : Sep c) (v t : List UInt8) : A8.runD (t ++ c :: v) = A8.runD t := takeWhile_c (sepD h) v t
theorem drop_c {t : List UInt8} {i : Nat} (h : i ≤ t.length) (u : List UInt8) : (t ++ u).drop i = t.drop i ++ u := List.drop_append_of_le_length h
theorem field_c {c : UInt8} (h : Sep c) (v t : List UInt8) : A8.field (t ++ c :: v) = A8.field t := by
  have hd := sepD h
  match t with
  | [] =>
    have : c ≠ 58 := by rcases h with rfl | rfl <;> decide
    cases v with
    | nil => rfl
    | cons x v => cases v with
      | nil => rfl
      | cons y v => simp [A8.field, this]
  | [x] => cases v with
    | nil => rfl
    | cons y v => simp [A8.field, hd]
  | [x, y] => simp [A8.field, hd]
  | x :: y :: z :: r => rfl
theorem field_3 {t : List UInt8} {m : Nat} (h : A8.field t = some m) : 3 ≤ t.length := by
  match t with
  | [] => simp [A8.field] at h
  | [x] => simp [A8.field] at h
  | [x, y] => simp [A8.field] at h
  | x :: y :: z :: r => simp
theorem fl_c {c : UInt8} (h : Sep c) (v t : List UInt8) : A8.fl (t ++ c :: v) = A8.fl t := by
  unfold A8.fl
  rw [field_c h]
  cases hf : A8.field t with
  | none => rfl
  | some m =>
    have := field_3 hf
    simp only [drop_c (show 3 ≤ t.length by omega), field_c h]
theorem parse8_c {c : UInt8} (h : Sep c) (v t : List UInt8) : A8.parse (t ++ c :: v) = A8.parse t := by
  have ho : A8.off (t ++ c :: v) = A8.off t ∧ A8.sgn (t ++ c :: v) = A8.sgn t := by
    cases t with
    | nil => rcases h with rfl | rfl <;> exact ⟨rfl, rfl⟩
    | cons b t => exact ⟨rfl, rfl⟩
  have hle := A8.off_le_len t
  have hh : A8.hoursP (t ++ c :: v) (A8.off t) = A8.hoursP t (A8.off t) := by
    unfold A8.hoursP
    rw [drop_c hle, runD_c h]
  unfold A8.parse
  rw [ho.1, ho.2, hh]
  split
  · rename_i hok
    obtain ⟨n, e, hn, _⟩ := A8.hours_le t (A8.off t) hle hok
    rw [e, Int.toNat_natCast]
    have : A8.fieldsP (t ++ c :: v) n = A8.fieldsP t n := by
      rw [A8.fieldsP_fl, A8.fieldsP_fl, drop_c hn, fl_c h]
    rw [this]
  · rfl
theorem number_c {c : UInt8} (h : Sep c) (v t : List UInt8) : number (t ++ c :: v) = number t := by
  unfold number
  rw [runD_c h]
theorem after_c {c : UInt8} (h : Sep c) (v t : List UInt8) (i : Nat) (hi : i ≤ t.length) (b : UInt8) (hb : b ≠ c) : after (t ++ c :: v) i b = after t i b := by
  unfold after
  rw [drop_c hi]
  cases t.drop i with
  | nil =>
    show (if c = b then _ else _) = _
    rw [if_neg (fun e => hb e.symm)]
  | cons x r =>
    show (if x = b then _ else _) = (if x = b then _ else _)
    rw [show r.append (c :: v) = r ++ c :: v from rfl, number_c h]
theorem date_c {c : UInt8} (h : Sep c) (v : List UInt8) (x : UInt8) (r : List UInt8) : date (x :: r ++ c :: v) = date (x :: r) := by
  have h46 : (46 : UInt8) ≠ c := by rcases h with rfl | rfl <;> decide
  have hr := number_c h v r
  have hx := number_c h v (x :: r)
  show (if x = 74 then _ else if x = 77 then _ else _) = (if x = 74 then _ else if x = 77 then _ else _)
  rw [show r.append (c :: v) = r ++ c :: v from rfl, hr, hx]
  have hm : dateM (x :: r ++ c :: v) = dateM (x :: r) := by
    unfold dateM
    rw [show List.drop 1 (x :: r ++ c :: v) = r ++ c :: v from rfl, show List.drop 1 (x :: r) = r from rfl, hr]
    obtain ⟨_, n, _, e, hn, _⟩ := number_n r
    rw [e, Int.toNat_natCast]
    have a1 : after (x :: r ++ c :: v) (n + 1) 46 = after (x :: r) (n + 1) 46 := after_c h v (x :: r) (n + 1) (by simp; omega) 46 h46
    rw [a1]
    obtain ⟨_, m, _, e2, hm, _⟩ := after_n (x :: r) (n + 1) 46
    rw [e2, Int.toNat_natCast]
    have a2 : after (x :: r ++ c :: v) m 46 = after (x :: r) m 46 := after_c h v (x :: r) m hm 46 h46
    rw [a2]
  rw [hm]
theorem date_sep {c : UInt8} (h : Sep c) (v : List UInt8) : (date (c :: v)).ok = false := by
  have h1 : c ≠ 74 := by rcases h with rfl | rfl <;> decide
  have h2 : c ≠ 77 := by rcases h with rfl | rfl <;> decide
  show (if c = 74 then (⟨1, _, 0, 0, 0, _, _⟩ : D) else if c = 77 then _ else _).ok = false
  rw [if_neg h1, if_neg h2]
  show (number (c :: v)).2.2 = false
  have : number (c :: v) = number [] := number_c h v []
  rw [this]
  rfl
theorem getD_c (t : List UInt8) (c : UInt8) (v : List UInt8) (n : Nat) : (t ++ c :: v).getD n 0 = if n < t.length then t.getD n 0 else (c :: v).getD (n - t.length) 0 := by
  simp only [List.getD_eq_getElem?_getD]
  split
  · rename_i h; rw [List.getElem?_append_left h]
  · rename_i h; rw [List.getElem?_append_right (by omega)]
theorem day_c {c : UInt8} (h : Sep c) (v t : List UInt8) : day (t ++ c :: v) = day t := by
  have bad : ∀ s, (date s).ok = false → day s = noDy := fun s hs => by
    unfold day slash dayT
    rw [hs]
    simp
  cases t with
  | nil => rw [bad [] rfl, show [] ++ c :: v = c :: v from rfl, bad _ (date_sep h v)]
  | cons x r =>
  generalize ht : x :: r = t
  obtain ⟨n, hn, hl⟩ := date_n t
  have hd := date_c h v x r
  rw [ht] at hd
  have hs : slash (t ++ c :: v) (date t) = slash t (date t) := by
    unfold slash
    rw [hn, Int.toNat_natCast, getD_c]
    by_cases hlt : n < t.length
    · rw [if_pos hlt]
      have h1 : decide ((n : Int) < ((t ++ c :: v).length : Int)) = true := by simp; omega
      have h2 : decide ((n : Int) < (t.length : Int)) = true := by simp; omega
      rw [h1, h2]
    · rw [if_neg hlt]
      have h2 : decide ((n : Int) < (t.length : Int)) = false := by simp; omega
      have : n - t.length = 0 := by omega
      rw [h2, this]
      have h47 : ((c :: v).getD 0 0 == (47 : UInt8)) = false := by rcases h with rfl | rfl <;> rfl
      rw [h47, Bool.and_false, Bool.and_false, Bool.false_and]
  unfold day
  rw [hd, hs]
  split
  · rename_i hsl
    have hlt : n < t.length := by
      unfold slash at hsl
      simp only [Bool.and_eq_true, decide_eq_true_eq] at hsl
      omega
    rw [hn, Int.toNat_natCast, drop_c (by omega), parse8_c h]
  · rfl
theorem comma_c (t : List UInt8) (i : Nat) (hi : i ≤ t.length) : comma (t ++ [32]) i = comma t i := by
  unfold comma
  rw [drop_c hi]
  cases t.drop i <;> rfl
theorem parse7_c (t : List UInt8) : A7.parse (t ++ [32]) = A7.parse t := by
  have hP : ∀ t, A7.parseP (t ++ [32]) = A7.parseP t := by
    intro t
    have hl : A7.letters (t ++ [32]) = A7.letters t := by
      unfold A7.letters
      rw [takeWhile_c (by decide : A7.alphaB 32 = false)]
    unfold A7.parseP
    rw [hl, List.take_append_of_le_length (A7.letters_le t)]
  cases t with
  | nil => exact hP []
  | cons b r =>
    show (if b = 60 then A7.parseQ (r ++ [32]) else A7.parseP (b :: (r ++ [32]))) = (if b = 60 then A7.parseQ r else A7.parseP (b :: r))
    split
    · unfold A7.parseQ
      by_cases hp : A7.place r 62 < r.length
      · have : A7.place (r ++ [32]) 62 = A7.place r 62 := by
          have hne : (List.takeWhile (fun x => x != 62) r).length ≠ r.length := by
            intro e; unfold A7.place at hp; omega
          unfold A7.place
          rw [List.takeWhile_append, if_neg hne]
        rw [this, if_pos hp, if_pos (by simp; omega), List.take_append_of_le_length (by omega)]
      · have hle := A7.place_le r 62
        have heq : (List.takeWhile (fun x => x != 62) r).length = r.length := by unfold A7.place at hp hle; omega
        have : A7.place (r ++ [32]) 62 = r.length + 1 := by
          unfold A7.place
          rw [List.takeWhile_append, if_pos heq]
          simp
        rw [if_neg hp, this, if_neg (by simp)]
    · exact hP (b :: r)
end Z09

set_option maxRecDepth 100000
namespace Z09
open Go Go.AE Go.Proofs

section
variable {s : List UInt8} {i : Nat} {P : Out → Prop}
theorem nameQ_P {F : List UInt8 → Nat → Out} (hi : i ≤ s.length) (h : P (.stop i)) (hF : ∀ a j, j ≤ s.length → P (F a j)) : P (nameQ s i F) := by
  unfold nameQ
  obtain ⟨n, hn, hl, _⟩ := parse7_n (s.drop i)
  rw [List.length_drop] at hl
  split
  · rw [hn, Int.toNat_natCast]; exact hF _ _ (by omega)
  · exact h
theorem offQ_P {F : Int → Nat → Out} (hi : i ≤ s.length) (h : P (.stop i)) (hF : ∀ a j, j ≤ s.length → P (F a j)) : P (offQ s i F) := by
  unfold offQ
  obtain ⟨n, hn, hl⟩ := parse_n (s.drop i)
  rw [List.length_drop] at hl
  split
  · rw [hn, Int.toNat_natCast]; exact hF _ _ (by omega)
  · exact h
theorem dayQ_P {F : Dv → Nat → Out} (hi : i ≤ s.length) (h : P (.stop i)) (hF : ∀ a j, j ≤ s.length → P (F a j)) : P (dayQ s i F) := by
  unfold dayQ
  obtain ⟨n, hn, hl⟩ := day_n (s.drop i)
  rw [List.length_drop] at hl
  split
  · rw [hn, Int.toNat_natCast]; exact hF _ _ (by omega)
  · exact h
theorem comma_lt (h : comma s i = true) : i < s.length := by
  rw [comma_eq] at h
  simp at h
  exact h.1
theorem commaQ_P {F : Nat → Out} (h : P (.stop i)) (hF : ∀ j, j ≤ s.length → P (F j)) : P (commaQ s i F) := by
  unfold commaQ
  split
  · rename_i hc
    exact hF _ (comma_lt hc)
  · exact h
theorem dstOffQ_P {o : Int} {F : Int → Nat → Out} (hi : i ≤ s.length) (h : P (.stop i)) (hF : ∀ a j, j ≤ s.length → P (F a j)) : P (dstOffQ s i o F) := by
  unfold dstOffQ
  split
  · exact offQ_P hi h hF
  · exact hF _ _ hi
theorem dstQ_P {a : List UInt8} {o : Int} {F : Ru → Nat → Out} (hi : i ≤ s.length) (h : ∀ j, j ≤ s.length → P (.stop j)) (hF : ∀ r j, j ≤ s.length → P (F r j)) : P (dstQ s i a o F) := by
  unfold dstQ
  exact nameQ_P hi (h _ hi) fun _ _ h1 => dstOffQ_P h1 (h _ h1) fun _ _ h2 => commaQ_P (h _ h2) fun _ h3 => dayQ_P h3 (h _ h3) fun _ _ h4 => commaQ_P (h _ h4) fun _ h5 => dayQ_P h5 (h _ h5) fun _ _ h6 => hF _ _ h6
theorem parse9_P (h : ∀ j, j ≤ s.length → P (.stop j)) (hr : ∀ r, validRu r = true → P (.rule r)) : P (parse9 s) := by
  have he : ∀ r j, j ≤ s.length → P (endP s r j) := by
    intro r j hj
    unfold endP
    split
    · split
      · rename_i hv; exact hr r hv
      · exact h j hj
    · exact h j hj
  unfold parse9
  refine nameQ_P (Nat.zero_le _) (h 0 (Nat.zero_le _)) fun _ _ h1 => offQ_P h1 (h _ h1) fun _ _ h2 => ?_
  split
  · exact dstQ_P h2 h he
  · exact he _ _ h2
end
theorem parse9_stop {s : List UInt8} {j : Nat} (h : parse9 s = .stop j) : j ≤ s.length :=
  parse9_P (P := fun o => ∀ j, o = .stop j → j ≤ s.length) (fun k hk j e => by cases e; exact hk) (fun r _ j e => by cases e) j h
theorem parse9_valid {s : List UInt8} {r : Ru} (h : parse9 s = .rule r) : validRu r = true :=
  parse9_P (P := fun o => ∀ r, o = .rule r → validRu r = true) (fun k hk r e => by cases e) (fun r hv r' e => by cases e; exact hv) r h

section
variable {s : List UInt8} {i : Nat}
/-- What a string answers, and what it answers with a space behind it. -/
def Twin (s : List UInt8) (o o' : Out) : Prop := ∀ r, o = .rule r → o' = .stop s.length
theorem Twin.stop {j : Nat} {o' : Out} : Twin s (.stop j) o' := fun r e => by cases e
theorem nameQ_c {F F' : List UInt8 → Nat → Out} (hi : i ≤ s.length) (hF : ∀ a j, j ≤ s.length → Twin s (F a j) (F' a j)) : Twin s (nameQ s i F) (nameQ (s ++ [32]) i F') := by
  unfold nameQ
  rw [drop_c hi, parse7_c]
  obtain ⟨n, hn, hl, _⟩ := parse7_n (s.drop i)
  rw [List.length_drop] at hl
  split
  · rw [hn, Int.toNat_natCast]; exact hF _ _ (by omega)
  · exact .stop
theorem offQ_c {F F' : Int → Nat → Out} (hi : i ≤ s.length) (hF : ∀ a j, j ≤ s.length → Twin s (F a j) (F' a j)) : Twin s (offQ s i F) (offQ (s ++ [32]) i F') := by
  unfold offQ
  rw [drop_c hi, parse8_c (Or.inl rfl)]
  obtain ⟨n, hn, hl⟩ := parse_n (s.drop i)
  rw [List.length_drop] at hl
  split
  · rw [hn, Int.toNat_natCast]; exact hF _ _ (by omega)
  · exact .stop
theorem dayQ_c {F F' : Dv → Nat → Out} (hi : i ≤ s.length) (hF : ∀ a j, j ≤ s.length → Twin s (F a j) (F' a j)) : Twin s (dayQ s i F) (dayQ (s ++ [32]) i F') := by
  unfold dayQ
  rw [drop_c hi, day_c (Or.inl rfl)]
  obtain ⟨n, hn, hl⟩ := day_n (s.drop i)
  rw [List.length_drop] at hl
  split
  · rw [hn, Int.toNat_natCast]; exact hF _ _ (by omega)
  · exact .stop
theorem commaQ_c {F F' : Nat → Out} (hi : i ≤ s.length) (hF : ∀ j, j ≤ s.length → Twin s (F j) (F' j)) : Twin s (commaQ s i F) (commaQ (s ++ [32]) i F') := by
  unfold commaQ
  rw [comma_c s i hi]
  split
  · rename_i hc
    exact hF _ (comma_lt hc)
  · exact .stop
theorem dstOffQ_c {o : Int} {F F' : Int → Nat → Out} (hi : i ≤ s.length) (hF : ∀ a j, j ≤ s.length → Twin s (F a j) (F' a j)) : Twin s (dstOffQ s i o F) (dstOffQ (s ++ [32]) i o F') := by
  unfold dstOffQ
  rw [drop_c hi, parse8_c (Or.inl rfl)]
  split
  · exact offQ_c hi hF
  · exact hF _ _ hi
theorem dstQ_c {a : List UInt8} {o : Int} {F F' : Ru → Nat → Out} (hi : i ≤ s.length) (hF : ∀ r j, j ≤ s.length → Twin s (F r j) (F' r j)) : Twin s (dstQ s i a o F) (dstQ (s ++ [32]) i a o F') := by
  unfold dstQ
  exact nameQ_c hi fun _ _ h1 => dstOffQ_c h1 fun _ _ h2 => commaQ_c h2 fun _ h3 => dayQ_c h3 fun _ _ h4 => commaQ_c h4 fun _ h5 => dayQ_c h5 fun _ _ h6 => hF _ _ h6
theorem endP_c {r : Ru} (hi : i ≤ s.length) : Twin s (endP s r i) (endP (s ++ [32]) r i) := by
  intro r' e
  unfold endP at e
  split at e
  · rename_i h
    unfold endP
    rw [if_neg (by simp; omega), h]
  · cases e
end
theorem parse9_c (s : List UInt8) : Twin s (parse9 s) (parse9 (s ++ [32])) := by
  unfold parse9
  refine nameQ_c (Nat.zero_le _) fun a i h1 => offQ_c h1 fun o i h2 => ?_
  have hlt' : i < (s ++ [32]).length := by simp; omega
  rw [if_pos hlt']
  split
  · exact dstQ_c h2 fun r j hj => endP_c hj
  · rename_i hlt
    have hi : i = s.length := by omega
    subst hi
    intro r _
    unfold dstQ nameQ
    rw [drop_c (Nat.le_refl _), List.drop_length, parse7_c]
    rfl
/-- What is accepted is rejected at its end when a space follows. -/
theorem parse9_space {s : List UInt8} {r : Ru} (h : parse9 s = .rule r) : parse9 (s ++ [32]) = .stop s.length := parse9_c s r h
end Z09

set_option maxRecDepth 100000
namespace Z09
open Go Go.AE Go.Proofs

/-! ### spellings -/
def NotD (u : List UInt8) : Prop := u = [] ∨ A8.isD (u.getD 0 0) = false
def End (u : List UInt8) : Prop := u = [] ∨ ∃ c v, u = c :: v ∧ Sep c
theorem End.notD {u : List UInt8} (h : End u) : NotD u := by
  rcases h with rfl | ⟨c, v, rfl, hc⟩
  · exact Or.inl rfl
  · exact Or.inr (sepD hc)
theorem number_dd {n : Nat} (hn : n < 1000) {u : List UInt8} (hu : NotD u) : number (dd n ++ u) = ((n : Int), ((dd n).length : Int), true) := by
  obtain ⟨hd, hv⟩ := A8.dd_ok hn
  have hl := dd_len n
  have hr : A8.runD (dd n ++ u) = dd n := A8.runD_app hd hu
  unfold number
  rw [hr, if_pos hl.2]
  have : A8.num (dd n) = n := hv
  rw [this]
  simp
  omega
theorem after_dd {s : List UInt8} {i n : Nat} {c : UInt8} {u : List UInt8} (hn : n < 1000) (hu : NotD u) (h : s.drop i = c :: (dd n ++ u)) : after s i c = ((n : Int), ((i + 1 + (dd n).length : Nat) : Int), true) := by
  unfold after
  rw [h]
  show (if c = c then _ else _) = _
  rw [if_pos rfl, number_dd hn hu]
  simp
def dspell (k d m w e : Int) : List UInt8 := if k = 1 then 74 :: dd d.toNat else if k = 3 then 77 :: (dd m.toNat ++ (46 :: (dd w.toNat ++ (46 :: dd e.toNat)))) else dd d.toNat
theorem dayF_eq (k d m w e t : Int) : dayF k d m w e t = dspell k d m w e ++ 47 :: A8.fmt t := rfl
theorem valid_time {k d m w e t t' : Int} (h : validDay k d m w e t = true) (h0 : -604799 ≤ t') (h1 : t' ≤ 604799) : validDay k d m w e t' = true := by
  unfold validDay at h ⊢
  simp only [Bool.and_eq_true] at h ⊢
  exact ⟨⟨by simpa using h0, by simpa using h1⟩, h.2⟩
theorem valid_cases {k d m w e t : Int} (h : validDay k d m w e t = true) : (k = 1 ∧ m = 0 ∧ w = 0 ∧ e = 0 ∧ 1 ≤ d ∧ d ≤ 365) ∨ (k = 2 ∧ m = 0 ∧ w = 0 ∧ e = 0 ∧ 0 ≤ d ∧ d ≤ 365) ∨ (k = 3 ∧ d = 0 ∧ 1 ≤ m ∧ m ≤ 12 ∧ 1 ≤ w ∧ w ≤ 5 ∧ 0 ≤ e ∧ e < 7) := by
  unfold validDay at h
  simp only [Bool.or_eq_true, Bool.and_eq_true, decide_eq_true_eq, beq_iff_eq] at h
  omega
theorem dd_cons (n : Nat) (hn : n < 1000) : ∃ b r, dd n = b :: r ∧ A8.isD b = true := by
  have hl := dd_len n
  obtain ⟨hd, _⟩ := A8.dd_ok hn
  cases h : dd n with
  | nil => rw [h] at hl; simp at hl
  | cons b r => exact ⟨b, r, rfl, hd b (by rw [show A8.dd n = dd n from rfl, h]; exact List.mem_cons_self ..)⟩
theorem date_cons (b : UInt8) (r : List UInt8) : date (b :: r) = if b = 74 then ⟨1, (number r).1, 0, 0, 0, (number r).2.1 + 1, (number r).2.2⟩ else if b = 77 then dateM (b :: r) else ⟨2, (number (b :: r)).1, 0, 0, 0, (number (b :: r)).2.1, (number (b :: r)).2.2⟩ := rfl
theorem date_spell {k d m w e t : Int} (hv : validDay k d m w e t = true) {u : List UInt8} (hu : NotD u) : date (dspell k d m w e ++ u) = ⟨k, d, m, w, e, ((dspell k d m w e).length : Int), true⟩ := by
  rcases valid_cases hv with ⟨rfl, rfl, rfl, rfl, h0, h1⟩ | ⟨rfl, rfl, rfl, rfl, h0, h1⟩ | ⟨rfl, rfl, h0, h1, h2, h3, h4, h5⟩
  · obtain ⟨n, rfl⟩ := nat_of (show 0 ≤ d by omega)
    have : dspell 1 n 0 0 0 = 74 :: dd n := by unfold dspell; rw [if_pos rfl, Int.toNat_natCast]
    rw [this]
    rw [List.cons_append, date_cons, if_pos rfl, number_dd (by omega) hu]
    simp
  · obtain ⟨n, rfl⟩ := nat_of h0
    have : dspell 2 n 0 0 0 = dd n := by unfold dspell; rw [if_neg (by decide), if_neg (by decide), Int.toNat_natCast]
    rw [this]
    have hnum := number_dd (show n < 1000 by omega) hu
    obtain ⟨b, r, hb, hd⟩ := dd_cons n (by omega)
    have h1 : b ≠ 74 := by rintro rfl; exact absurd hd (by decide)
    have h2 : b ≠ 77 := by rintro rfl; exact absurd hd (by decide)
    rw [hb] at hnum ⊢
    rw [List.cons_append] at hnum ⊢
    rw [date_cons, if_neg h1, if_neg h2, hnum]
  · obtain ⟨M, rfl⟩ := nat_of (show 0 ≤ m by omega)
    obtain ⟨W, rfl⟩ := nat_of (show 0 ≤ w by omega)
    obtain ⟨E, rfl⟩ := nat_of h4
    have : dspell 3 0 M W E = 77 :: (dd M ++ (46 :: (dd W ++ (46 :: dd E)))) := by unfold dspell; rw [if_neg (by decide), if_pos rfl, Int.toNat_natCast, Int.toNat_natCast, Int.toNat_natCast]
    rw [this]
    have e0 : (77 :: (dd M ++ (46 :: (dd W ++ (46 :: dd E)))) : List UInt8) ++ u = 77 :: (dd M ++ (46 :: (dd W ++ (46 :: (dd E ++ u))))) := by simp
    rw [e0]
    have d46 : ∀ x : List UInt8, NotD (46 :: x) := fun x => Or.inr (by decide : A8.isD 46 = false)
    rw [date_cons, if_neg (by decide), if_pos rfl]
    unfold dateM
    have hn1 : number (List.drop 1 (77 :: (dd M ++ (46 :: (dd W ++ (46 :: (dd E ++ u))))))) = ((M : Int), ((dd M).length : Int), true) := number_dd (by omega) (d46 _)
    rw [hn1]
    simp only [Int.toNat_natCast, if_true]
    have a1 : after (77 :: (dd M ++ (46 :: (dd W ++ (46 :: (dd E ++ u)))))) ((dd M).length + 1) 46 = ((W : Int), (((dd M).length + 1 + 1 + (dd W).length : Nat) : Int), true) := by
      refine after_dd (by omega) (d46 (dd E ++ u)) ?_
      rw [List.drop_succ_cons]
      exact List.drop_left
    rw [a1]
    simp only [Int.toNat_natCast, if_true]
    have a2 : after (77 :: (dd M ++ (46 :: (dd W ++ (46 :: (dd E ++ u)))))) ((dd M).length + 1 + 1 + (dd W).length) 46 = ((E : Int), (((dd M).length + 1 + 1 + (dd W).length + 1 + (dd E).length : Nat) : Int), true) := by
      refine after_dd (by omega) hu ?_
      have : (77 :: (dd M ++ (46 :: (dd W ++ (46 :: (dd E ++ u))))) : List UInt8) = (77 :: (dd M ++ (46 :: dd W))) ++ 46 :: (dd E ++ u) := by simp
      rw [this]
      have hl : (77 :: (dd M ++ (46 :: dd W)) : List UInt8).length = (dd M).length + 1 + 1 + (dd W).length := by simp; omega
      rw [← hl]
      exact List.drop_left
    rw [a2]
    simp only [D.mk.injEq, true_and, and_true]
    simp only [List.length_cons, List.length_append]
    omega
theorem parse8_fmt {t : Int} (h0 : -604799 ≤ t) (h1 : t ≤ 604799) {u : List UInt8} (hu : End u) : A8.parse (A8.fmt t ++ u) = (t, ((A8.fmt t).length : Int), true) := by
  rcases hu with rfl | ⟨c, v, rfl, hc⟩
  · rw [List.append_nil]; exact A8.parse_fmt h0 h1
  · rw [parse8_c hc]; exact A8.parse_fmt h0 h1
theorem getD_at (x : List UInt8) (b : UInt8) (r : List UInt8) : (x ++ b :: r).getD x.length 0 = b := by
  simp [List.getD_eq_getElem?_getD]
/-- A day with its time. -/
theorem day_form {k d m w e t : Int} (hv : validDay k d m w e t = true) {u : List UInt8} (hu : End u) : day (dayF k d m w e t ++ u) = ⟨k, d, m, w, e, t, ((dayF k d m w e t).length : Int), true⟩ := by
  obtain ⟨t0, t1, _⟩ := validDay_b hv
  rw [dayF_eq]
  have e0 : dspell k d m w e ++ 47 :: A8.fmt t ++ u = dspell k d m w e ++ 47 :: (A8.fmt t ++ u) := by simp
  rw [e0]
  have hd := date_spell hv (u := 47 :: (A8.fmt t ++ u)) (Or.inr (by decide : A8.isD 47 = false))
  have hs : slash (dspell k d m w e ++ 47 :: (A8.fmt t ++ u)) (date (dspell k d m w e ++ 47 :: (A8.fmt t ++ u))) = true := by
    rw [hd]
    unfold slash
    simp only [Int.toNat_natCast, getD_at]
    simp
    omega
  unfold day
  rw [if_pos hs, hd]
  simp only [Int.toNat_natCast]
  have hdrop : (dspell k d m w e ++ 47 :: (A8.fmt t ++ u)).drop ((dspell k d m w e).length + 1) = A8.fmt t ++ u := by
    have : dspell k d m w e ++ 47 :: (A8.fmt t ++ u) = (dspell k d m w e ++ [47]) ++ (A8.fmt t ++ u) := by simp
    rw [this, show (dspell k d m w e).length + 1 = (dspell k d m w e ++ [47]).length by simp]
    exact List.drop_left
  rw [hdrop, parse8_fmt t0 t1 hu]
  unfold dayT
  simp only [hv, Bool.and_self, if_true, Dy.mk.injEq, true_and, and_true]
  simp only [List.length_append, List.length_cons]
  omega
/-- A day without a time. -/
theorem day_short {k d m w e t : Int} (hv : validDay k d m w e t = true) {c : UInt8} (v : List UInt8) (hc : Sep c) : day (dspell k d m w e ++ c :: v) = ⟨k, d, m, w, e, 7200, ((dspell k d m w e).length : Int), true⟩ := by
  have hd := date_spell hv (u := c :: v) (Or.inr (sepD hc))
  have h47 : c ≠ 47 := by rcases hc with rfl | rfl <;> decide
  have hs : slash (dspell k d m w e ++ c :: v) (date (dspell k d m w e ++ c :: v)) = false := by
    rw [hd]
    unfold slash
    simp only [Int.toNat_natCast, getD_at]
    simp [h47]
  unfold day
  rw [hs, hd]
  unfold dayT
  simp only [valid_time hv (by decide : (-604799 : Int) ≤ 7200) (by decide), Bool.and_self, if_true, Bool.false_eq_true, if_false]
theorem short_eq (k d m w e : Int) : (dayF k d m w e 7200).take ((dayF k d m w e 7200).length - 2) = dspell k d m w e := by
  have h : A8.fmt 7200 = [50] := by decide
  rw [dayF_eq, h]
  rw [List.length_append]
  exact List.take_left
end Z09

set_option maxRecDepth 100000
namespace Z09
open Go Go.AE Go.Proofs
attribute [local irreducible] loopK evCode evSpec loopB norm

theorem valid7_le {s : List UInt8} (h : A7.valid s = true) : 3 ≤ s.length ∧ s.length ≤ 255 := by
  unfold A7.valid at h
  simp only [Bool.and_eq_true, decide_eq_true_eq] at h
  exact h.2
theorem validRu_le {r : Ru} (h : validRu r = true) : r.a.length ≤ 255 ∧ r.b.length ≤ 255 := by
  unfold validRu validRule at h
  rw [Bool.and_eq_true, Bool.and_eq_true] at h
  refine ⟨(valid7_le h.1.1).2, ?_⟩
  cases hh : r.h with
  | true =>
    rw [hh] at h
    simp only [if_true, Bool.and_eq_true] at h
    exact (valid7_le h.2.1.1.1).2
  | false =>
    rw [hh] at h
    simp only [Bool.false_eq_true, if_false, Bool.and_eq_true, decide_eq_true_eq] at h
    have : r.b = [] := h.2.1.1.1.1.1.1.1.1.1.1.1.1.1
    rw [this]; decide
theorem f3_ev (s : List UInt8) (K : List AV → Prop) (hK : K [bo true]) : evSpec C7 Try.f3 [st s] K := by
  have hb : ∀ b : Bool, b = true → K [AV.imm (IV.bool b)] := fun b h => by rw [h]; exact hK
  rw [f3_in]
  refine brn_intro (fun _ => hK) (fun h => ?_)
  have hl : s.length ≤ 1000 := by simp at h; omega
  cases ho : parse9 s with
  | stop j =>
    have e1 : ruP s = zR := by unfold ruP; rw [ho]; rfl
    have e2 : whyP s = 14 := by unfold whyP; rw [ho]; rfl
    have e3 : atP s = j := by unfold atP; rw [ho]; rfl
    have hj := parse9_stop ho
    rw [e1, e2, e3]
    refine ⟨by omega, brn_intro (fun _ => hb _ ?_) (fun h => by simp at h)⟩
    simp [zR, zD, hj]
  | rule r =>
    have e1 : ruP s = r := by unfold ruP; rw [ho]; rfl
    have e2 : whyP s = 0 := by unfold whyP; rw [ho]; rfl
    have e3 : atP s = 0 := by unfold atP; rw [ho]; rfl
    have hv := parse9_valid ho
    have hs := parse9_space ho
    have e4 : whyP (s ++ [32]) = 14 := by unfold whyP; rw [hs]; rfl
    have e5 : atP (s ++ [32]) = (s.length : Int) := by unfold atP; rw [hs]; rfl
    have hle := validRu_le hv
    rw [e1, e2, e3]
    refine ⟨by omega, brn_intro (fun h => by simp at h) (fun _ => ⟨by simp; omega, by simp; omega, fun _ => by omega, fun _ => by omega, hb _ ?_⟩)⟩
    rw [e4, e5]
    unfold validRu at hv
    rw [hv]
    simp
theorem dspell_len {k d m w e t : Int} (hv : validDay k d m w e t = true) : (dspell k d m w e).length ≤ 12 := by
  unfold dspell
  have ld := dd_len d.toNat
  have lm := dd_len m.toNat
  have lw := dd_len w.toNat
  have le := dd_len e.toNat
  split
  · simp only [List.length_cons]; omega
  · split
    · simp only [List.length_cons, List.length_append]; omega
    · omega
theorem dayF_len {k d m w e t : Int} (hv : validDay k d m w e t = true) : 1 ≤ (dayF k d m w e t).length ∧ (dayF k d m w e t).length ≤ 23 := by
  obtain ⟨t0, t1, _⟩ := validDay_b hv
  have h1 := dspell_len hv
  have h2 := fmt_len t0 t1
  rw [dayF_eq, List.length_append, List.length_cons]
  omega
theorem f6_ev (k d m w e u : Int) (K : List AV → Prop) (hK : K [bo true]) : evSpec C7 Try.f6 [dayAV k d m w e u] K := by
  have hb : ∀ b : Bool, b = true → K [AV.imm (IV.bool b)] := fun b h => by rw [h]; exact hK
  rw [f6_in]
  refine brn_intro (fun _ => hK) (fun h => ?_)
  have hv : validDay k d m w e u = true := by simpa using h
  have hv2 := valid_time hv (by decide : (-604799 : Int) ≤ 7200) (by decide)
  have l1 := dayF_len hv
  have l2 := dayF_len hv2
  have lx : (dayF k d m w e 7200).length = (dspell k d m w e).length + 2 := by
    have h : A8.fmt 7200 = [50] := by decide
    rw [dayF_eq, h, List.length_append]; rfl
  have ew : IntKind.wrap .i64 (((dayF k d m w e 7200).length : Int) - 2) = ((dspell k d m w e).length : Int) := by rw [wrap64 (by omega) (by omega)]; omega
  have es : List.take (Int.toNat ((dspell k d m w e).length : Int) - 0) (List.drop 0 (dayF k d m w e 7200)) = dspell k d m w e := by
    have := short_eq k d m w e
    rw [lx, Nat.add_sub_cancel] at this
    rw [Int.toNat_natCast, Nat.sub_zero, List.drop_zero]
    exact this
  simp only [ew, es]
  have p1 := day_form hv (u := [44, 74, 49]) (Or.inr ⟨44, _, rfl, Or.inr rfl⟩)
  have p2 := day_short hv (c := 44) [74, 49] (Or.inr rfl)
  rw [p1, p2]
  have hbig : big = 9223372036854774000 := rfl
  refine ⟨hv, by simp; omega, by simp; omega, hv2, by omega, by omega, by simp; omega, by simp; omega, hb _ ?_⟩
  simp
end Z09

set_option maxRecDepth 100000
namespace Z09
open Go Go.AE Go.Proofs
attribute [local irreducible] loopK evCode evSpec loopB norm
def S4d (s t : List UInt8) (a b k d m w e u k' d' m' w' e' u' : Int) (F : List UInt8) (R : List AV) (x : AV) (T : Nat → AV) : St :=
  ⟨lapp [st s, st t, i64 a, i64 b, dayAV k d m w e u, dayAV k' d' m' w' e' u', T 6, T 7, T 8, T 9, .ptr 0 0, .ptr 1 0, T 12, st F, .ptr 2 0, x] (tlN T 16 120), [(0, ⟨true, 0, .cells (dcells k d m w e u)⟩), (1, ⟨true, 0, .cells (dcells k' d' m' w' e' u')⟩), (2, ⟨true, 0, .cells R⟩)], 3, []⟩
theorem f4_b2 (s : List
  UInt8) (t : List
  UInt8) (a : Int) (b : Int) (k : Int) (d : Int) (m : Int) (w : Int) (e : Int) (u : Int) (k' : Int) (d' : Int) (m' : Int) (w' : Int) (e' : Int) (u' : Int) (F : List
  UInt8) (R : List
  AV) (x : AV) (y : AV) (T : Nat →
  AV) (K : AX →
  St →
    Prop) : evCode C7 (q4 [Dir.r, Dir.r, Dir.r, Dir.r, Dir.r, Dir.l])
  (S4d s t a b k d m w e u k' d' m' w' e' u' F R x T) K =
  ((List.length t ≤ (9223372036854775800 : Nat) ∧
    List.length F + List.length (A7.fmt t) ≤ (9223372036854775807 : Nat) ∧
      ((-604799 : Int) ≤ b ∧
          b ≤ (604799 : Int) ∧
            List.length (F ++ A7.fmt t) + List.length (A8.fmt b) ≤ (9223372036854775807 : Nat) ∧
              List.length (F ++ A7.fmt t ++ A8.fmt b) + List.length [(44 : UInt8)] ≤ (9223372036854775807 : Nat) ∧
                (validDay k d m w e u = true ∧
                    List.length (F ++ A7.fmt t ++ A8.fmt b ++ [(44 : UInt8)]) + List.length (dayF k d m w e u) ≤
                        (9223372036854775807 : Nat) ∧
                      List.length (F ++ A7.fmt t ++ A8.fmt b ++ [(44 : UInt8)] ++ dayF k d m w e u) +
                            List.length [(44 : UInt8)] ≤
                          (9223372036854775807 : Nat) ∧
                        validDay k' d' m' w' e' u' = true ∧
                          List.length
                                  (F ++ A7.fmt t ++ A8.fmt b ++ [(44 : UInt8)] ++ dayF k d m w e u ++ [(44 : UInt8)]) +
                                List.length (dayF k' d' m' w' e' u') ≤
                              (9223372036854775807 : Nat) ∧
                            K AX.normal
                              (St.mk
                                [AV.imm (IV.str s), AV.imm (IV.str t), AV.imm (IV.int IntKind.i64 a),
                                  AV.imm (IV.int IntKind.i64 b),
                                  AV.agg
                                    [AV.imm (IV.int IntKind.i64 k), AV.imm (IV.int IntKind.i64 d),
                                      AV.imm (IV.int IntKind.i64 m), AV.imm (IV.int IntKind.i64 w),
                                      AV.imm (IV.int IntKind.i64 e), AV.imm (IV.int IntKind.i64 u)],
                                  AV.agg
                                    [AV.imm (IV.int IntKind.i64 k'), AV.imm (IV.int IntKind.i64 d'),
                                      AV.imm (IV.int IntKind.i64 m'), AV.imm (IV.int IntKind.i64 w'),
                                      AV.imm (IV.int IntKind.i64 e'), AV.imm (IV.int IntKind.i64 u')],
                                  T (6 : Nat), T (7 : Nat), T (8 : Nat), T (9 : Nat), AV.ptr (0 : Nat) (0 : Nat),
                                  AV.ptr (1 : Nat) (0 : Nat), T (12 : Nat), AV.imm (IV.str F),
                                  AV.ptr (2 : Nat) (0 : Nat), x, T (16 : Nat),
                                  AV.imm
                                    (IV.str
                                      (F ++ A7.fmt t ++ A8.fmt b ++ [(44 : UInt8)] ++ dayF k d m w e u ++
                                          [(44 : UInt8)] ++
                                        dayF k' d' m' w' e' u')),
                                  T (18 : Nat), T (19 : Nat), T (20 : Nat), T (21 : Nat), T (22 : Nat), T (23 : Nat),
                                  T (24 : Nat), T (25 : Nat), T (26 : Nat), T (27 : Nat), T (28 : Nat), T (29 : Nat),
                                  T (30 : Nat), T (31 : Nat), T (32 : Nat), T (33 : Nat), T (34 : Nat), T (35 : Nat),
                                  T (36 : Nat), T (37 : Nat), T (38 : Nat), T (39 : Nat), T (40 : Nat), T (41 : Nat),
                                  T (42 : Nat), T (43 : Nat), T (44 : Nat), T (45 : Nat), T (46 : Nat), T (47 : Nat),
                                  T (48 : Nat), T (49 : Nat), T (50 : Nat), T (51 : Nat), T (52 : Nat), T (53 : Nat),
                                  T (54 : Nat), T (55 : Nat), T (56 : Nat), T (57 : Nat), T (58 : Nat), T (59 : Nat),
                                  T (60 : Nat), T (61 : Nat), T (62 : Nat), T (63 : Nat), T (64 : Nat), T (65 : Nat),
                                  T (66 : Nat), T (67 : Nat), T (68 : Nat), T (69 : Nat), T (70 : Nat), T (71 : Nat),
                                  T (72 : Nat), T (73 : Nat), T (74 : Nat), T (75 : Nat), T (76 : Nat), T (77 : Nat),
                                  T (78 : Nat), T (79 : Nat), T (80 : Nat), T (81 : Nat), T (82 : Nat),
                                  AV.imm (IV.str F), AV.imm (IV.str t), AV.imm (IV.str (A7.fmt t)),
                                  AV.imm (IV.str (F ++ A7.fmt t)), AV.imm (IV.int IntKind.i64 b),
                                  AV.imm (IV.str (A8.fmt b)), AV.imm (IV.str (F ++ A7.fmt t ++ A8.fmt b)),
                                  AV.imm (IV.str (F ++ A7.fmt t ++ A8.fmt b ++ [(44 : UInt8)])),
                                  AV.agg
                                    [AV.imm (IV.int IntKind.i64 k), AV.imm (IV.int IntKind.i64 d),
                                      AV.imm (IV.int IntKind.i64 m), AV.imm (IV.int IntKind.i64 w),
                                      AV.imm (IV.int IntKind.i64 e), AV.imm (IV.int IntKind.i64 u)],
                                  AV.imm (IV.str (dayF k d m w e u)),
                                  AV.imm (IV.str (F ++ A7.fmt t ++ A8.fmt b ++ [(44 : UInt8)] ++ dayF k d m w e u)),
                                  AV.imm
                                    (IV.str
                                      (F ++ A7.fmt t ++ A8.fmt b ++ [(44 : UInt8)] ++ dayF k d m w e u ++
                                        [(44 : UInt8)])),
                                  AV.agg
                                    [AV.imm (IV.int IntKind.i64 k'), AV.imm (IV.int IntKind.i64 d'),
                                      AV.imm (IV.int IntKind.i64 m'), AV.imm (IV.int IntKind.i64 w'),
                                      AV.imm (IV.int IntKind.i64 e'), AV.imm (IV.int IntKind.i64 u')],
                                  AV.imm (IV.str (dayF k' d' m' w' e' u')),
                                  AV.imm
                                    (IV.str
                                      (F ++ A7.fmt t ++ A8.fmt b ++ [(44 : UInt8)] ++ dayF k d m w e u ++
                                          [(44 : UInt8)] ++
                                        dayF k' d' m' w' e' u')),
                                  T (98 : Nat), T (99 : Nat), T (100 : Nat), T (101 : Nat), T (102 : Nat),
                                  T (103 : Nat), T (104 : Nat), T (105 : Nat), T (106 : Nat), T (107 : Nat),
                                  T (108 : Nat), T (109 : Nat), T (110 : Nat), T (111 : Nat), T (112 : Nat),
                                  T (113 : Nat), T (114 : Nat), T (115 : Nat), T (116 : Nat), T (117 : Nat),
                                  T (118 : Nat), T (119 : Nat)]
                                [((0 : Nat),
                                    Ob.mk true (0 : Nat)
                                      (AObj.cells
                                        [AV.imm (IV.int IntKind.i64 k), AV.imm (IV.int IntKind.i64 d),
                                          AV.imm (IV.int IntKind.i64 m), AV.imm (IV.int IntKind.i64 w),
                                          AV.imm (IV.int IntKind.i64 e), AV.imm (IV.int IntKind.i64 u)])),
                                  ((1 : Nat),
                                    Ob.mk true (0 : Nat)
                                      (AObj.cells
                                        [AV.imm (IV.int IntKind.i64 k'), AV.imm (IV.int IntKind.i64 d'),
                                          AV.imm (IV.int IntKind.i64 m'), AV.imm (IV.int IntKind.i64 w'),
                                          AV.imm (IV.int IntKind.i64 e'), AV.imm (IV.int IntKind.i64 u')])),
                                  ((2 : Nat), Ob.mk true (0 : Nat) (AObj.cells R))]
                                (3 : Nat) [])) ∧
                  validDay k d m w e u = true ∧
                    List.length (F ++ A7.fmt t ++ A8.fmt b ++ [(44 : UInt8)]) + List.length (dayF k d m w e u) ≤
                        (9223372036854775807 : Nat) ∧
                      List.length (F ++ A7.fmt t ++ A8.fmt b ++ [(44 : UInt8)] ++ dayF k d m w e u) +
                            List.length [(44 : UInt8)] ≤
                          (9223372036854775807 : Nat) ∧
                        validDay k' d' m' w' e' u' = true ∧
                          List.length
                                  (F ++ A7.fmt t ++ A8.fmt b ++ [(44 : UInt8)] ++ dayF k d m w e u ++ [(44 : UInt8)]) +
                                List.length (dayF k' d' m' w' e' u') ≤
                              (9223372036854775807 : Nat) ∧
                            K AX.normal
                              (St.mk
                                [AV.imm (IV.str s), AV.imm (IV.str t), AV.imm (IV.int IntKind.i64 a),
                                  AV.imm (IV.int IntKind.i64 b),
                                  AV.agg
                                    [AV.imm (IV.int IntKind.i64 k), AV.imm (IV.int IntKind.i64 d),
                                      AV.imm (IV.int IntKind.i64 m), AV.imm (IV.int IntKind.i64 w),
                                      AV.imm (IV.int IntKind.i64 e), AV.imm (IV.int IntKind.i64 u)],
                                  AV.agg
                                    [AV.imm (IV.int IntKind.i64 k'), AV.imm (IV.int IntKind.i64 d'),
                                      AV.imm (IV.int IntKind.i64 m'), AV.imm (IV.int IntKind.i64 w'),
                                      AV.imm (IV.int IntKind.i64 e'), AV.imm (IV.int IntKind.i64 u')],
                                  T (6 : Nat), T (7 : Nat), T (8 : Nat), T (9 : Nat), AV.ptr (0 : Nat) (0 : Nat),
                                  AV.ptr (1 : Nat) (0 : Nat), T (12 : Nat), AV.imm (IV.str F),
                                  AV.ptr (2 : Nat) (0 : Nat), x, T (16 : Nat),
                                  AV.imm
                                    (IV.str
                                      (F ++ A7.fmt t ++ A8.fmt b ++ [(44 : UInt8)] ++ dayF k d m w e u ++
                                          [(44 : UInt8)] ++
                                        dayF k' d' m' w' e' u')),
                                  T (18 : Nat), T (19 : Nat), T (20 : Nat), T (21 : Nat), T (22 : Nat), T (23 : Nat),
                                  T (24 : Nat), T (25 : Nat), T (26 : Nat), T (27 : Nat), T (28 : Nat), T (29 : Nat),
                                  T (30 : Nat), T (31 : Nat), T (32 : Nat), T (33 : Nat), T (34 : Nat), T (35 : Nat),
                                  T (36 : Nat), T (37 : Nat), T (38 : Nat), T (39 : Nat), T (40 : Nat), T (41 : Nat),
                                  T (42 : Nat), T (43 : Nat), T (44 : Nat), T (45 : Nat), T (46 : Nat), T (47 : Nat),
                                  T (48 : Nat), T (49 : Nat), T (50 : Nat), T (51 : Nat), T (52 : Nat), T (53 : Nat),
                                  T (54 : Nat), T (55 : Nat), T (56 : Nat), T (57 : Nat), T (58 : Nat), T (59 : Nat),
                                  T (60 : Nat), T (61 : Nat), T (62 : Nat), T (63 : Nat), T (64 : Nat), T (65 : Nat),
                                  T (66 : Nat), T (67 : Nat), T (68 : Nat), T (69 : Nat), T (70 : Nat), T (71 : Nat),
                                  T (72 : Nat), T (73 : Nat), T (74 : Nat), T (75 : Nat), T (76 : Nat), T (77 : Nat),
                                  T (78 : Nat), T (79 : Nat), T (80 : Nat), T (81 : Nat), T (82 : Nat),
                                  AV.imm (IV.str F), AV.imm (IV.str t), AV.imm (IV.str (A7.fmt t)),
                                  AV.imm (IV.str (F ++ A7.fmt t)), AV.imm (IV.int IntKind.i64 b),
                                  AV.imm (IV.str (A8.fmt b)), AV.imm (IV.str (F ++ A7.fmt t ++ A8.fmt b)),
                                  AV.imm (IV.str (F ++ A7.fmt t ++ A8.fmt b ++ [(44 : UInt8)])),
                                  AV.agg
                                    [AV.imm (IV.int IntKind.i64 k), AV.imm (IV.int IntKind.i64 d),
                                      AV.imm (IV.int IntKind.i64 m), AV.imm (IV.int IntKind.i64 w),
                                      AV.imm (IV.int IntKind.i64 e), AV.imm (IV.int IntKind.i64 u)],
                                  AV.imm (IV.str (dayF k d m w e u)),
                                  AV.imm (IV.str (F ++ A7.fmt t ++ A8.fmt b ++ [(44 : UInt8)] ++ dayF k d m w e u)),
                                  AV.imm
                                    (IV.str
                                      (F ++ A7.fmt t ++ A8.fmt b ++ [(44 : UInt8)] ++ dayF k d m w e u ++
                                        [(44 : UInt8)])),
                                  AV.agg
                                    [AV.imm (IV.int IntKind.i64 k'), AV.imm (IV.int IntKind.i64 d'),
                                      AV.imm (IV.int IntKind.i64 m'), AV.imm (IV.int IntKind.i64 w'),
                                      AV.imm (IV.int IntKind.i64 e'), AV.imm (IV.int IntKind.i64 u')],
                                  AV.imm (IV.str (dayF k' d' m' w' e' u')),
                                  AV.imm
                                    (IV.str
                                      (F ++ A7.fmt t ++ A8.fmt b ++ [(44 : UInt8)] ++ dayF k d m w e u ++
                                          [(44 : UInt8)] ++
                                        dayF k' d' m' w' e' u')),
                                  T (98 : Nat), T (99 : Nat), T (100 : Nat), T (101 : Nat), T (102 : Nat),
                                  T (103 : Nat), T (104 : Nat), T (105 : Nat), T (106 : Nat), T (107 : Nat),
                                  T (108 : Nat), T (109 : Nat), T (110 : Nat), T (111 : Nat), T (112 : Nat),
                                  T (113 : Nat), T (114 : Nat), T (115 : Nat), T (116 : Nat), T (117 : Nat),
                                  T (118 : Nat), T (119 : Nat)]
                                [((0 : Nat),
                                    Ob.mk true (0 : Nat)
                                      (AObj.cells
                                        [AV.imm (IV.int IntKind.i64 k), AV.imm (IV.int IntKind.i64 d),
                                          AV.imm (IV.int IntKind.i64 m), AV.imm (IV.int IntKind.i64 w),
                                          AV.imm (IV.int IntKind.i64 e), AV.imm (IV.int IntKind.i64 u)])),
                                  ((1 : Nat),
                                    Ob.mk true (0 : Nat)
                                      (AObj.cells
                                        [AV.imm (IV.int IntKind.i64 k'), AV.imm (IV.int IntKind.i64 d'),
                                          AV.imm (IV.int IntKind.i64 m'), AV.imm (IV.int IntKind.i64 w'),
                                          AV.imm (IV.int IntKind.i64 e'), AV.imm (IV.int IntKind.i64 u')])),
                                  ((2 : Nat), Ob.mk true (0 : Nat) (AObj.cells R))]
                                (3 : Nat) [])) ∧
        (((-604799 : Int) ≤ b ∧
              b ≤ (604799 : Int) ∧
                List.length (F ++ A7.fmt t) + List.length (A8.fmt b) ≤ (9223372036854775807 : Nat) ∧
                  List.length (F ++ A7.fmt t ++ A8.fmt b) + List.length [(44 : UInt8)] ≤ (9223372036854775807 : Nat) ∧
                    (validDay k d m w e u = true ∧
                        List.length (F ++ A7.fmt t ++ A8.fmt b ++ [(44 : UInt8)]) + List.length (dayF k d m w e u) ≤
                            (9223372036854775807 : Nat) ∧
                          List.length (F ++ A7.fmt t ++ A8.fmt b ++ [(44 : UInt8)] ++ dayF k d m w e u) +
                                List.length [(44 : UInt8)] ≤
                              (9223372036854775807 : Nat) ∧
                            validDay k' d' m' w' e' u' = true ∧
                              List.length
                                      (F ++ A7.fmt t ++ A8.fmt b ++ [(44 : UInt8)] ++ dayF k d m w e u ++
                                        [(44 : UInt8)]) +
                                    List.length (dayF k' d' m' w' e' u') ≤
                                  (9223372036854775807 : Nat) ∧
                                K AX.normal
                                  (St.mk
                                    [AV.imm (IV.str s), AV.imm (IV.str t), AV.imm (IV.int IntKind.i64 a),
                                      AV.imm (IV.int IntKind.i64 b),
                                      AV.agg
                                        [AV.imm (IV.int IntKind.i64 k), AV.imm (IV.int IntKind.i64 d),
                                          AV.imm (IV.int IntKind.i64 m), AV.imm (IV.int IntKind.i64 w),
                                          AV.imm (IV.int IntKind.i64 e), AV.imm (IV.int IntKind.i64 u)],
                                      AV.agg
                                        [AV.imm (IV.int IntKind.i64 k'), AV.imm (IV.int IntKind.i64 d'),
                                          AV.imm (IV.int IntKind.i64 m'), AV.imm (IV.int IntKind.i64 w'),
                                          AV.imm (IV.int IntKind.i64 e'), AV.imm (IV.int IntKind.i64 u')],
                                      T (6 : Nat), T (7 : Nat), T (8 : Nat), T (9 : Nat), AV.ptr (0 : Nat) (0 : Nat),
                                      AV.ptr (1 : Nat) (0 : Nat), T (12 : Nat), AV.imm (IV.str F),
                                      AV.ptr (2 : Nat) (0 : Nat), x, T (16 : Nat),
                                      AV.imm
                                        (IV.str
                                          (F ++ A7.fmt t ++ A8.fmt b ++ [(44 : UInt8)] ++ dayF k d m w e u ++
                                              [(44 : UInt8)] ++
                                            dayF k' d' m' w' e' u')),
                                      T (18 : Nat), T (19 : Nat), T (20 : Nat), T (21 : Nat), T (22 : Nat),
                                      T (23 : Nat), T (24 : Nat), T (25 : Nat), T (26 : Nat), T (27 : Nat),
                                      T (28 : Nat), T (29 : Nat), T (30 : Nat), T (31 : Nat), T (32 : Nat),
                                      T (33 : Nat), T (34 : Nat), T (35 : Nat), T (36 : Nat), T (37 : Nat),
                                      T (38 : Nat), T (39 : Nat), T (40 : Nat), T (41 : Nat), T (42 : Nat),
                                      T (43 : Nat), T (44 : Nat), T (45 : Nat), T (46 : Nat), T (47 : Nat),
                                      T (48 : Nat), T (49 : Nat), T (50 : Nat), T (51 : Nat), T (52 : Nat),
                                      T (53 : Nat), T (54 : Nat), T (55 : Nat), T (56 : Nat), T (57 : Nat),
                                      T (58 : Nat), T (59 : Nat), T (60 : Nat), T (61 : Nat), T (62 : Nat),
                                      T (63 : Nat), T (64 : Nat), T (65 : Nat), T (66 : Nat), T (67 : Nat),
                                      T (68 : Nat), T (69 : Nat), T (70 : Nat), T (71 : Nat), T (72 : Nat),
                                      T (73 : Nat), T (74 : Nat), T (75 : Nat), T (76 : Nat), T (77 : Nat),
                                      T (78 : Nat), T (79 : Nat), T (80 : Nat), T (81 : Nat), T (82 : Nat),
                                      AV.imm (IV.str F), AV.imm (IV.str t), AV.imm (IV.str (A7.fmt t)),
                                      AV.imm (IV.str (F ++ A7.fmt t)), AV.imm (IV.int IntKind.i64 b),
                                      AV.imm (IV.str (A8.fmt b)), AV.imm (IV.str (F ++ A7.fmt t ++ A8.fmt b)),
                                      AV.imm (IV.str (F ++ A7.fmt t ++ A8.fmt b ++ [(44 : UInt8)])),
                                      AV.agg
                                        [AV.imm (IV.int IntKind.i64 k), AV.imm (IV.int IntKind.i64 d),
                                          AV.imm (IV.int IntKind.i64 m), AV.imm (IV.int IntKind.i64 w),
                                          AV.imm (IV.int IntKind.i64 e), AV.imm (IV.int IntKind.i64 u)],
                                      AV.imm (IV.str (dayF k d m w e u)),
                                      AV.imm (IV.str (F ++ A7.fmt t ++ A8.fmt b ++ [(44 : UInt8)] ++ dayF k d m w e u)),
                                      AV.imm
                                        (IV.str
                                          (F ++ A7.fmt t ++ A8.fmt b ++ [(44 : UInt8)] ++ dayF k d m w e u ++
                                            [(44 : UInt8)])),
                                      AV.agg
                                        [AV.imm (IV.int IntKind.i64 k'), AV.imm (IV.int IntKind.i64 d'),
                                          AV.imm (IV.int IntKind.i64 m'), AV.imm (IV.int IntKind.i64 w'),
                                          AV.imm (IV.int IntKind.i64 e'), AV.imm (IV.int IntKind.i64 u')],
                                      AV.imm (IV.str (dayF k' d' m' w' e' u')),
                                      AV.imm
                                        (IV.str
                                          (F ++ A7.fmt t ++ A8.fmt b ++ [(44 : UInt8)] ++ dayF k d m w e u ++
                                              [(44 : UInt8)] ++
                                            dayF k' d' m' w' e' u')),
                                      T (98 : Nat), T (99 : Nat), T (100 : Nat), T (101 : Nat), T (102 : Nat),
                                      T (103 : Nat), T (104 : Nat), T (105 : Nat), T (106 : Nat), T (107 : Nat),
                                      T (108 : Nat), T (109 : Nat), T (110 : Nat), T (111 : Nat), T (112 : Nat),
                                      T (113 : Nat), T (114 : Nat), T (115 : Nat), T (116 : Nat), T (117 : Nat),
                                      T (118 : Nat), T (119 : Nat)]
                                    [((0 : Nat),
                                        Ob.mk true (0 : Nat)
                                          (AObj.cells
                                            [AV.imm (IV.int IntKind.i64 k), AV.imm (IV.int IntKind.i64 d),
                                              AV.imm (IV.int IntKind.i64 m), AV.imm (IV.int IntKind.i64 w),
                                              AV.imm (IV.int IntKind.i64 e), AV.imm (IV.int IntKind.i64 u)])),
                                      ((1 : Nat),
                                        Ob.mk true (0 : Nat)
                                          (AObj.cells
                                            [AV.imm (IV.int IntKind.i64 k'), AV.imm (IV.int IntKind.i64 d'),
                                              AV.imm (IV.int IntKind.i64 m'), AV.imm (IV.int IntKind.i64 w'),
                                              AV.imm (IV.int IntKind.i64 e'), AV.imm (IV.int IntKind.i64 u')])),
                                      ((2 : Nat), Ob.mk true (0 : Nat) (AObj.cells R))]
                                    (3 : Nat) [])) ∧
                      validDay k d m w e u = true ∧
                        List.length (F ++ A7.fmt t ++ A8.fmt b ++ [(44 : UInt8)]) + List.length (dayF k d m w e u) ≤
                            (9223372036854775807 : Nat) ∧
                          List.length (F ++ A7.fmt t ++ A8.fmt b ++ [(44 : UInt8)] ++ dayF k d m w e u) +
                                List.length [(44 : UInt8)] ≤
                              (9223372036854775807 : Nat) ∧
                            validDay k' d' m' w' e' u' = true ∧
                              List.length
                                      (F ++ A7.fmt t ++ A8.fmt b ++ [(44 : UInt8)] ++ dayF k d m w e u ++
                                        [(44 : UInt8)]) +
                                    List.length (dayF k' d' m' w' e' u') ≤
                                  (9223372036854775807 : Nat) ∧
                                K AX.normal
                                  (St.mk
                                    [AV.imm (IV.str s), AV.imm (IV.str t), AV.imm (IV.int IntKind.i64 a),
                                      AV.imm (IV.int IntKind.i64 b),
                                      AV.agg
                                        [AV.imm (IV.int IntKind.i64 k), AV.imm (IV.int IntKind.i64 d),
                                          AV.imm (IV.int IntKind.i64 m), AV.imm (IV.int IntKind.i64 w),
                                          AV.imm (IV.int IntKind.i64 e), AV.imm (IV.int IntKind.i64 u)],
                                      AV.agg
                                        [AV.imm (IV.int IntKind.i64 k'), AV.imm (IV.int IntKind.i64 d'),
                                          AV.imm (IV.int IntKind.i64 m'), AV.imm (IV.int IntKind.i64 w'),
                                          AV.imm (IV.int IntKind.i64 e'), AV.imm (IV.int IntKind.i64 u')],
                                      T (6 : Nat), T (7 : Nat), T (8 : Nat), T (9 : Nat), AV.ptr (0 : Nat) (0 : Nat),
                                      AV.ptr (1 : Nat) (0 : Nat), T (12 : Nat), AV.imm (IV.str F),
                                      AV.ptr (2 : Nat) (0 : Nat), x, T (16 : Nat),
                                      AV.imm
                                        (IV.str
                                          (F ++ A7.fmt t ++ A8.fmt b ++ [(44 : UInt8)] ++ dayF k d m w e u ++
                                              [(44 : UInt8)] ++
                                            dayF k' d' m' w' e' u')),
                                      T (18 : Nat), T (19 : Nat), T (20 : Nat), T (21 : Nat), T (22 : Nat),
                                      T (23 : Nat), T (24 : Nat), T (25 : Nat), T (26 : Nat), T (27 : Nat),
                                      T (28 : Nat), T (29 : Nat), T (30 : Nat), T (31 : Nat), T (32 : Nat),
                                      T (33 : Nat), T (34 : Nat), T (35 : Nat), T (36 : Nat), T (37 : Nat),
                                      T (38 : Nat), T (39 : Nat), T (40 : Nat), T (41 : Nat), T (42 : Nat),
                                      T (43 : Nat), T (44 : Nat), T (45 : Nat), T (46 : Nat), T (47 : Nat),
                                      T (48 : Nat), T (49 : Nat), T (50 : Nat), T (51 : Nat), T (52 : Nat),
                                      T (53 : Nat), T (54 : Nat), T (55 : Nat), T (56 : Nat), T (57 : Nat),
                                      T (58 : Nat), T (59 : Nat), T (60 : Nat), T (61 : Nat), T (62 : Nat),
                                      T (63 : Nat), T (64 : Nat), T (65 : Nat), T (66 : Nat), T (67 : Nat),
                                      T (68 : Nat), T (69 : Nat), T (70 : Nat), T (71 : Nat), T (72 : Nat),
                                      T (73 : Nat), T (74 : Nat), T (75 : Nat), T (76 : Nat), T (77 : Nat),
                                      T (78 : Nat), T (79 : Nat), T (80 : Nat), T (81 : Nat), T (82 : Nat),
                                      AV.imm (IV.str F), AV.imm (IV.str t), AV.imm (IV.str (A7.fmt t)),
                                      AV.imm (IV.str (F ++ A7.fmt t)), AV.imm (IV.int IntKind.i64 b),
                                      AV.imm (IV.str (A8.fmt b)), AV.imm (IV.str (F ++ A7.fmt t ++ A8.fmt b)),
                                      AV.imm (IV.str (F ++ A7.fmt t ++ A8.fmt b ++ [(44 : UInt8)])),
                                      AV.agg
                                        [AV.imm (IV.int IntKind.i64 k), AV.imm (IV.int IntKind.i64 d),
                                          AV.imm (IV.int IntKind.i64 m), AV.imm (IV.int IntKind.i64 w),
                                          AV.imm (IV.int IntKind.i64 e), AV.imm (IV.int IntKind.i64 u)],
                                      AV.imm (IV.str (dayF k d m w e u)),
                                      AV.imm (IV.str (F ++ A7.fmt t ++ A8.fmt b ++ [(44 : UInt8)] ++ dayF k d m w e u)),
                                      AV.imm
                                        (IV.str
                                          (F ++ A7.fmt t ++ A8.fmt b ++ [(44 : UInt8)] ++ dayF k d m w e u ++
                                            [(44 : UInt8)])),
                                      AV.agg
                                        [AV.imm (IV.int IntKind.i64 k'), AV.imm (IV.int IntKind.i64 d'),
                                          AV.imm (IV.int IntKind.i64 m'), AV.imm (IV.int IntKind.i64 w'),
                                          AV.imm (IV.int IntKind.i64 e'), AV.imm (IV.int IntKind.i64 u')],
                                      AV.imm (IV.str (dayF k' d' m' w' e' u')),
                                      AV.imm
                                        (IV.str
                                          (F ++ A7.fmt t ++ A8.fmt b ++ [(44 : UInt8)] ++ dayF k d m w e u ++
                                              [(44 : UInt8)] ++
                                            dayF k' d' m' w' e' u')),
                                      T (98 : Nat), T (99 : Nat), T (100 : Nat), T (101 : Nat), T (102 : Nat),
                                      T (103 : Nat), T (104 : Nat), T (105 : Nat), T (106 : Nat), T (107 : Nat),
                                      T (108 : Nat), T (109 : Nat), T (110 : Nat), T (111 : Nat), T (112 : Nat),
                                      T (113 : Nat), T (114 : Nat), T (115 : Nat), T (116 : Nat), T (117 : Nat),
                                      T (118 : Nat), T (119 : Nat)]
                                    [((0 : Nat),
                                        Ob.mk true (0 : Nat)
                                          (AObj.cells
                                            [AV.imm (IV.int IntKind.i64 k), AV.imm (IV.int IntKind.i64 d),
                                              AV.imm (IV.int IntKind.i64 m), AV.imm (IV.int IntKind.i64 w),
                                              AV.imm (IV.int IntKind.i64 e), AV.imm (IV.int IntKind.i64 u)])),
                                      ((1 : Nat),
                                        Ob.mk true (0 : Nat)
                                          (AObj.cells
                                            [AV.imm (IV.int IntKind.i64 k'), AV.imm (IV.int IntKind.i64 d'),
                                              AV.imm (IV.int IntKind.i64 m'), AV.imm (IV.int IntKind.i64 w'),
                                              AV.imm (IV.int IntKind.i64 e'), AV.imm (IV.int IntKind.i64 u')])),
                                      ((2 : Nat), Ob.mk true (0 : Nat) (AObj.cells R))]
                                    (3 : Nat) [])) ∧
            (-604799 : Int) ≤ b ∧
              b ≤ (604799 : Int) ∧
                List.length (F ++ A7.fmt t) + List.length (A8.fmt b) ≤ (9223372036854775807 : Nat) ∧
                  List.length (F ++ A7.fmt t ++ A8.fmt b) + List.length [(44 : UInt8)] ≤ (9223372036854775807 : Nat) ∧
                    validDay k d m w e u = true ∧
                      List.length (F ++ A7.fmt t ++ A8.fmt b ++ [(44 : UInt8)]) + List.length (dayF k d m w e u) ≤
                          (9223372036854775807 : Nat) ∧
                        List.length (F ++ A7.fmt t ++ A8.fmt b ++ [(44 : UInt8)] ++ dayF k d m w e u) +
                              List.length [(44 : UInt8)] ≤
                            (9223372036854775807 : Nat) ∧
                          validDay k' d' m' w' e' u' = true ∧
                            List.length
                                    (F ++ A7.fmt t ++ A8.fmt b ++ [(44 : UInt8)] ++ dayF k d m w e u ++
                                      [(44 : UInt8)]) +
                                  List.length (dayF k' d' m' w' e' u') ≤
                                (9223372036854775807 : Nat) ∧
                              K AX.normal
                                (St.mk
                                  [AV.imm (IV.str s), AV.imm (IV.str t), AV.imm (IV.int IntKind.i64 a),
                                    AV.imm (IV.int IntKind.i64 b),
                                    AV.agg
                                      [AV.imm (IV.int IntKind.i64 k), AV.imm (IV.int IntKind.i64 d),
                                        AV.imm (IV.int IntKind.i64 m), AV.imm (IV.int IntKind.i64 w),
                                        AV.imm (IV.int IntKind.i64 e), AV.imm (IV.int IntKind.i64 u)],
                                    AV.agg
                                      [AV.imm (IV.int IntKind.i64 k'), AV.imm (IV.int IntKind.i64 d'),
                                        AV.imm (IV.int IntKind.i64 m'), AV.imm (IV.int IntKind.i64 w'),
                                        AV.imm (IV.int IntKind.i64 e'), AV.imm (IV.int IntKind.i64 u')],
                                    T (6 : Nat), T (7 : Nat), T (8 : Nat), T (9 : Nat), AV.ptr (0 : Nat) (0 : Nat),
                                    AV.ptr (1 : Nat) (0 : Nat), T (12 : Nat), AV.imm (IV.str F),
                                    AV.ptr (2 : Nat) (0 : Nat), x, T (16 : Nat),
                                    AV.imm
                                      (IV.str
                                        (F ++ A7.fmt t ++ A8.fmt b ++ [(44 : UInt8)] ++ dayF k d m w e u ++
                                            [(44 : UInt8)] ++
                                          dayF k' d' m' w' e' u')),
                                    T (18 : Nat), T (19 : Nat), T (20 : Nat), T (21 : Nat), T (22 : Nat), T (23 : Nat),
                                    T (24 : Nat), T (25 : Nat), T (26 : Nat), T (27 : Nat), T (28 : Nat), T (29 : Nat),
                                    T (30 : Nat), T (31 : Nat), T (32 : Nat), T (33 : Nat), T (34 : Nat), T (35 : Nat),
                                    T (36 : Nat), T (37 : Nat), T (38 : Nat), T (39 : Nat), T (40 : Nat), T (41 : Nat),
                                    T (42 : Nat), T (43 : Nat), T (44 : Nat), T (45 : Nat), T (46 : Nat), T (47 : Nat),
                                    T (48 : Nat), T (49 : Nat), T (50 : Nat), T (51 : Nat), T (52 : Nat), T (53 : Nat),
                                    T (54 : Nat), T (55 : Nat), T (56 : Nat), T (57 : Nat), T (58 : Nat), T (59 : Nat),
                                    T (60 : Nat), T (61 : Nat), T (62 : Nat), T (63 : Nat), T (64 : Nat), T (65 : Nat),
                                    T (66 : Nat), T (67 : Nat), T (68 : Nat), T (69 : Nat), T (70 : Nat), T (71 : Nat),
                                    T (72 : Nat), T (73 : Nat), T (74 : Nat), T (75 : Nat), T (76 : Nat), T (77 : Nat),
                                    T (78 : Nat), T (79 : Nat), T (80 : Nat), T (81 : Nat), T (82 : Nat),
                                    AV.imm (IV.str F), AV.imm (IV.str t), AV.imm (IV.str (A7.fmt t)),
                                    AV.imm (IV.str (F ++ A7.fmt t)), AV.imm (IV.int IntKind.i64 b),
                                    AV.imm (IV.str (A8.fmt b)), AV.imm (IV.str (F ++ A7.fmt t ++ A8.fmt b)),
                                    AV.imm (IV.str (F ++ A7.fmt t ++ A8.fmt b ++ [(44 : UInt8)])),
                                    AV.agg
                                      [AV.imm (IV.int IntKind.i64 k), AV.imm (IV.int IntKind.i64 d),
                                        AV.imm (IV.int IntKind.i64 m), AV.imm (IV.int IntKind.i64 w),
                                        AV.imm (IV.int IntKind.i64 e), AV.imm (IV.int IntKind.i64 u)],
                                    AV.imm (IV.str (dayF k d m w e u)),
                                    AV.imm (IV.str (F ++ A7.fmt t ++ A8.fmt b ++ [(44 : UInt8)] ++ dayF k d m w e u)),
                                    AV.imm
                                      (IV.str
                                        (F ++ A7.fmt t ++ A8.fmt b ++ [(44 : UInt8)] ++ dayF k d m w e u ++
                                          [(44 : UInt8)])),
                                    AV.agg
                                      [AV.imm (IV.int IntKind.i64 k'), AV.imm (IV.int IntKind.i64 d'),
                                        AV.imm (IV.int IntKind.i64 m'), AV.imm (IV.int IntKind.i64 w'),
                                        AV.imm (IV.int IntKind.i64 e'), AV.imm (IV.int IntKind.i64 u')],
                                    AV.imm (IV.str (dayF k' d' m' w' e' u')),
                                    AV.imm
                                      (IV.str
                                        (F ++ A7.fmt t ++ A8.fmt b ++ [(44 : UInt8)] ++ dayF k d m w e u ++
                                            [(44 : UInt8)] ++
                                          dayF k' d' m' w' e' u')),
                                    T (98 : Nat), T (99 : Nat), T (100 : Nat), T (101 : Nat), T (102 : Nat),
                                    T (103 : Nat), T (104 : Nat), T (105 : Nat), T (106 : Nat), T (107 : Nat),
                                    T (108 : Nat), T (109 : Nat), T (110 : Nat), T (111 : Nat), T (112 : Nat),
                                    T (113 : Nat), T (114 : Nat), T (115 : Nat), T (116 : Nat), T (117 : Nat),
                                    T (118 : Nat), T (119 : Nat)]
                                  [((0 : Nat),
                                      Ob.mk true (0 : Nat)
                                        (AObj.cells
                                          [AV.imm (IV.int IntKind.i64 k), AV.imm (IV.int IntKind.i64 d),
                                            AV.imm (IV.int IntKind.i64 m), AV.imm (IV.int IntKind.i64 w),
                                            AV.imm (IV.int IntKind.i64 e), AV.imm (IV.int IntKind.i64 u)])),
                                    ((1 : Nat),
                                      Ob.mk true (0 : Nat)
                                        (AObj.cells
                                          [AV.imm (IV.int IntKind.i64 k'), AV.imm (IV.int IntKind.i64 d'),
                                            AV.imm (IV.int IntKind.i64 m'), AV.imm (IV.int IntKind.i64 w'),
                                            AV.imm (IV.int IntKind.i64 e'), AV.imm (IV.int IntKind.i64 u')])),
                                    ((2 : Nat), Ob.mk true (0 : Nat) (AObj.cells R))]
                                  (3 : Nat) [])) ∧
          ((-604799 : Int) ≤ b ∧
              b ≤ (604799 : Int) ∧
                List.length (F ++ A7.fmt t) + List.length (A8.fmt b) ≤ (9223372036854775807 : Nat) ∧
                  List.length (F ++ A7.fmt t ++ A8.fmt b) + List.length [(44 : UInt8)] ≤ (9223372036854775807 : Nat) ∧
                    validDay k d m w e u = true ∧
                      List.length (F ++ A7.fmt t ++ A8.fmt b ++ [(44 : UInt8)]) + List.length (dayF k d m w e u) ≤
                          (9223372036854775807 : Nat) ∧
                        List.length (F ++ A7.fmt t ++ A8.fmt b ++ [(44 : UInt8)] ++ dayF k d m w e u) +
                              List.length [(44 : UInt8)] ≤
                            (9223372036854775807 : Nat) ∧
                          validDay k' d' m' w' e' u' = true ∧
                            List.length
                                    (F ++ A7.fmt t ++ A8.fmt b ++ [(44 : UInt8)] ++ dayF k d m w e u ++
                                      [(44 : UInt8)]) +
                                  List.length (dayF k' d' m' w' e' u') ≤
                                (9223372036854775807 : Nat) ∧
                              K AX.normal
                                (St.mk
                                  [AV.imm (IV.str s), AV.imm (IV.str t), AV.imm (IV.int IntKind.i64 a),
                                    AV.imm (IV.int IntKind.i64 b),
                                    AV.agg
                                      [AV.imm (IV.int IntKind.i64 k), AV.imm (IV.int IntKind.i64 d),
                                        AV.imm (IV.int IntKind.i64 m), AV.imm (IV.int IntKind.i64 w),
                                        AV.imm (IV.int IntKind.i64 e), AV.imm (IV.int IntKind.i64 u)],
                                    AV.agg
                                      [AV.imm (IV.int IntKind.i64 k'), AV.imm (IV.int IntKind.i64 d'),
                                        AV.imm (IV.int IntKind.i64 m'), AV.imm (IV.int IntKind.i64 w'),
                                        AV.imm (IV.int IntKind.i64 e'), AV.imm (IV.int IntKind.i64 u')],
                                    T (6 : Nat), T (7 : Nat), T (8 : Nat), T (9 : Nat), AV.ptr (0 : Nat) (0 : Nat),
                                    AV.ptr (1 : Nat) (0 : Nat), T (12 : Nat), AV.imm (IV.str F),
                                    AV.ptr (2 : Nat) (0 : Nat), x, T (16 : Nat),
                                    AV.imm
                                      (IV.str
                                        (F ++ A7.fmt t ++ A8.fmt b ++ [(44 : UInt8)] ++ dayF k d m w e u ++
                                            [(44 : UInt8)] ++
                                          dayF k' d' m' w' e' u')),
                                    T (18 : Nat), T (19 : Nat), T (20 : Nat), T (21 : Nat), T (22 : Nat), T (23 : Nat),
                                    T (24 : Nat), T (25 : Nat), T (26 : Nat), T (27 : Nat), T (28 : Nat), T (29 : Nat),
                                    T (30 : Nat), T (31 : Nat), T (32 : Nat), T (33 : Nat), T (34 : Nat), T (35 : Nat),
                                    T (36 : Nat), T (37 : Nat), T (38 : Nat), T (39 : Nat), T (40 : Nat), T (41 : Nat),
                                    T (42 : Nat), T (43 : Nat), T (44 : Nat), T (45 : Nat), T (46 : Nat), T (47 : Nat),
                                    T (48 : Nat), T (49 : Nat), T (50 : Nat), T (51 : Nat), T (52 : Nat), T (53 : Nat),
                                    T (54 : Nat), T (55 : Nat), T (56 : Nat), T (57 : Nat), T (58 : Nat), T (59 : Nat),
                                    T (60 : Nat), T (61 : Nat), T (62 : Nat), T (63 : Nat), T (64 : Nat), T (65 : Nat),
                                    T (66 : Nat), T (67 : Nat), T (68 : Nat), T (69 : Nat), T (70 : Nat), T (71 : Nat),
                                    T (72 : Nat), T (73 : Nat), T (74 : Nat), T (75 : Nat), T (76 : Nat), T (77 : Nat),
                                    T (78 : Nat), T (79 : Nat), T (80 : Nat), T (81 : Nat), T (82 : Nat),
                                    AV.imm (IV.str F), AV.imm (IV.str t), AV.imm (IV.str (A7.fmt t)),
                                    AV.imm (IV.str (F ++ A7.fmt t)), AV.imm (IV.int IntKind.i64 b),
                                    AV.imm (IV.str (A8.fmt b)), AV.imm (IV.str (F ++ A7.fmt t ++ A8.fmt b)),
                                    AV.imm (IV.str (F ++ A7.fmt t ++ A8.fmt b ++ [(44 : UInt8)])),
                                    AV.agg
                                      [AV.imm (IV.int IntKind.i64 k), AV.imm (IV.int IntKind.i64 d),
                                        AV.imm (IV.int IntKind.i64 m), AV.imm (IV.int IntKind.i64 w),
                                        AV.imm (IV.int IntKind.i64 e), AV.imm (IV.int IntKind.i64 u)],
                                    AV.imm (IV.str (dayF k d m w e u)),
                                    AV.imm (IV.str (F ++ A7.fmt t ++ A8.fmt b ++ [(44 : UInt8)] ++ dayF k d m w e u)),
                                    AV.imm
                                      (IV.str
                                        (F ++ A7.fmt t ++ A8.fmt b ++ [(44 : UInt8)] ++ dayF k d m w e u ++
                                          [(44 : UInt8)])),
                                    AV.agg
                                      [AV.imm (IV.int IntKind.i64 k'), AV.imm (IV.int IntKind.i64 d'),
                                        AV.imm (IV.int IntKind.i64 m'), AV.imm (IV.int IntKind.i64 w'),
                                        AV.imm (IV.int IntKind.i64 e'), AV.imm (IV.int IntKind.i64 u')],
                                    AV.imm (IV.str (dayF k' d' m' w' e' u')),
                                    AV.imm
                                      (IV.str
                                        (F ++ A7.fmt t ++ A8.fmt b ++ [(44 : UInt8)] ++ dayF k d m w e u ++
                                            [(44 : UInt8)] ++
                                          dayF k' d' m' w' e' u')),
                                    T (98 : Nat), T (99 : Nat), T (100 : Nat), T (101 : Nat), T (102 : Nat),
                                    T (103 : Nat), T (104 : Nat), T (105 : Nat), T (106 : Nat), T (107 : Nat),
                                    T (108 : Nat), T (109 : Nat), T (110 : Nat), T (111 : Nat), T (112 : Nat),
                                    T (113 : Nat), T (114 : Nat), T (115 : Nat), T (116 : Nat), T (117 : Nat),
                                    T (118 : Nat), T (119 : Nat)]
                                  [((0 : Nat),
                                      Ob.mk true (0 : Nat)
                                        (AObj.cells
                                          [AV.imm (IV.int IntKind.i64 k), AV.imm (IV.int IntKind.i64 d),
                                            AV.imm (IV.int IntKind.i64 m), AV.imm (IV.int IntKind.i64 w),
                                            AV.imm (IV.int IntKind.i64 e), AV.imm (IV.int IntKind.i64 u)])),
                                    ((1 : Nat),
                                      Ob.mk true (0 : Nat)
                                        (AObj.cells
                                          [AV.imm (IV.int IntKind.i64 k'), AV.imm (IV.int IntKind.i64 d'),
                                            AV.imm (IV.int IntKind.i64 m'), AV.imm (IV.int IntKind.i64 w'),
                                            AV.imm (IV.int IntKind.i64 e'), AV.imm (IV.int IntKind.i64 u')])),
                                    ((2 : Nat), Ob.mk true (0 : Nat) (AObj.cells R))]
                                  (3 : Nat) [])) ∧
            (-604799 : Int) ≤ b ∧
              b ≤ (604799 : Int) ∧
                List.length (F ++ A7.fmt t) + List.length (A8.fmt b) ≤ (9223372036854775807 : Nat) ∧
                  List.length (F ++ A7.fmt t ++ A8.fmt b) + List.length [(44 : UInt8)] ≤ (9223372036854775807 : Nat) ∧
                    validDay k d m w e u = true ∧
                      List.length (F ++ A7.fmt t ++ A8.fmt b ++ [(44 : UInt8)]) + List.length (dayF k d m w e u) ≤
                          (9223372036854775807 : Nat) ∧
                        List.length (F ++ A7.fmt t ++ A8.fmt b ++ [(44 : UInt8)] ++ dayF k d m w e u) +
                              List.length [(44 : UInt8)] ≤
                            (9223372036854775807 : Nat) ∧
                          validDay k' d' m' w' e' u' = true ∧
                            List.length
                                    (F ++ A7.fmt t ++ A8.fmt b ++ [(44 : UInt8)] ++ dayF k d m w e u ++
                                      [(44 : UInt8)]) +
                                  List.length (dayF k' d' m' w' e' u') ≤
                                (9223372036854775807 : Nat) ∧
                              K AX.normal
                                (St.mk
                                  [AV.imm (IV.str s), AV.imm (IV.str t), AV.imm (IV.int IntKind.i64 a),
                                    AV.imm (IV.int IntKind.i64 b),
                                    AV.agg
                                      [AV.imm (IV.int IntKind.i64 k), AV.imm (IV.int IntKind.i64 d),
                                        AV.imm (IV.int IntKind.i64 m), AV.imm (IV.int IntKind.i64 w),
                                        AV.imm (IV.int IntKind.i64 e), AV.imm (IV.int IntKind.i64 u)],
                                    AV.agg
                                      [AV.imm (IV.int IntKind.i64 k'), AV.imm (IV.int IntKind.i64 d'),
                                        AV.imm (IV.int IntKind.i64 m'), AV.imm (IV.int IntKind.i64 w'),
                                        AV.imm (IV.int IntKind.i64 e'), AV.imm (IV.int IntKind.i64 u')],
                                    T (6 : Nat), T (7 : Nat), T (8 : Nat), T (9 : Nat), AV.ptr (0 : Nat) (0 : Nat),
                                    AV.ptr (1 : Nat) (0 : Nat), T (12 : Nat), AV.imm (IV.str F),
                                    AV.ptr (2 : Nat) (0 : Nat), x, T (16 : Nat),
                                    AV.imm
                                      (IV.str
                                        (F ++ A7.fmt t ++ A8.fmt b ++ [(44 : UInt8)] ++ dayF k d m w e u ++
                                            [(44 : UInt8)] ++
                                          dayF k' d' m' w' e' u')),
                                    T (18 : Nat), T (19 : Nat), T (20 : Nat), T (21 : Nat), T (22 : Nat), T (23 : Nat),
                                    T (24 : Nat), T (25 : Nat), T (26 : Nat), T (27 : Nat), T (28 : Nat), T (29 : Nat),
                                    T (30 : Nat), T (31 : Nat), T (32 : Nat), T (33 : Nat), T (34 : Nat), T (35 : Nat),
                                    T (36 : Nat), T (37 : Nat), T (38 : Nat), T (39 : Nat), T (40 : Nat), T (41 : Nat),
                                    T (42 : Nat), T (43 : Nat), T (44 : Nat), T (45 : Nat), T (46 : Nat), T (47 : Nat),
                                    T (48 : Nat), T (49 : Nat), T (50 : Nat), T (51 : Nat), T (52 : Nat), T (53 : Nat),
                                    T (54 : Nat), T (55 : Nat), T (56 : Nat), T (57 : Nat), T (58 : Nat), T (59 : Nat),
                                    T (60 : Nat), T (61 : Nat), T (62 : Nat), T (63 : Nat), T (64 : Nat), T (65 : Nat),
                                    T (66 : Nat), T (67 : Nat), T (68 : Nat), T (69 : Nat), T (70 : Nat), T (71 : Nat),
                                    T (72 : Nat), T (73 : Nat), T (74 : Nat), T (75 : Nat), T (76 : Nat), T (77 : Nat),
                                    T (78 : Nat), T (79 : Nat), T (80 : Nat), T (81 : Nat), T (82 : Nat),
                                    AV.imm (IV.str F), AV.imm (IV.str t), AV.imm (IV.str (A7.fmt t)),
                                    AV.imm (IV.str (F ++ A7.fmt t)), AV.imm (IV.int IntKind.i64 b),
                                    AV.imm (IV.str (A8.fmt b)), AV.imm (IV.str (F ++ A7.fmt t ++ A8.fmt b)),
                                    AV.imm (IV.str (F ++ A7.fmt t ++ A8.fmt b ++ [(44 : UInt8)])),
                                    AV.agg
                                      [AV.imm (IV.int IntKind.i64 k), AV.imm (IV.int IntKind.i64 d),
                                        AV.imm (IV.int IntKind.i64 m), AV.imm (IV.int IntKind.i64 w),
                                        AV.imm (IV.int IntKind.i64 e), AV.imm (IV.int IntKind.i64 u)],
                                    AV.imm (IV.str (dayF k d m w e u)),
                                    AV.imm (IV.str (F ++ A7.fmt t ++ A8.fmt b ++ [(44 : UInt8)] ++ dayF k d m w e u)),
                                    AV.imm
                                      (IV.str
                                        (F ++ A7.fmt t ++ A8.fmt b ++ [(44 : UInt8)] ++ dayF k d m w e u ++
                                          [(44 : UInt8)])),
                                    AV.agg
                                      [AV.imm (IV.int IntKind.i64 k'), AV.imm (IV.int IntKind.i64 d'),
                                        AV.imm (IV.int IntKind.i64 m'), AV.imm (IV.int IntKind.i64 w'),
                                        AV.imm (IV.int IntKind.i64 e'), AV.imm (IV.int IntKind.i64 u')],
                                    AV.imm (IV.str (dayF k' d' m' w' e' u')),
                                    AV.imm
                                      (IV.str
                                        (F ++ A7.fmt t ++ A8.fmt b ++ [(44 : UInt8)] ++ dayF k d m w e u ++
                                            [(44 : UInt8)] ++
                                          dayF k' d' m' w' e' u')),
                                    T (98 : Nat), T (99 : Nat), T (100 : Nat), T (101 : Nat), T (102 : Nat),
                                    T (103 : Nat), T (104 : Nat), T (105 : Nat), T (106 : Nat), T (107 : Nat),
                                    T (108 : Nat), T (109 : Nat), T (110 : Nat), T (111 : Nat), T (112 : Nat),
                                    T (113 : Nat), T (114 : Nat), T (115 : Nat), T (116 : Nat), T (117 : Nat),
                                    T (118 : Nat), T (119 : Nat)]
                                  [((0 : Nat),
                                      Ob.mk true (0 : Nat)
                                        (AObj.cells
                                          [AV.imm (IV.int IntKind.i64 k), AV.imm (IV.int IntKind.i64 d),
                                            AV.imm (IV.int IntKind.i64 m), AV.imm (IV.int IntKind.i64 w),
                                            AV.imm (IV.int IntKind.i64 e), AV.imm (IV.int IntKind.i64 u)])),
                                    ((1 : Nat),
                                      Ob.mk true (0 : Nat)
                                        (AObj.cells
                                          [AV.imm (IV.int IntKind.i64 k'), AV.imm (IV.int IntKind.i64 d'),
                                            AV.imm (IV.int IntKind.i64 m'), AV.imm (IV.int IntKind.i64 w'),
                                            AV.imm (IV.int IntKind.i64 e'), AV.imm (IV.int IntKind.i64 u')])),
                                    ((2 : Nat), Ob.mk true (0 : Nat) (AObj.cells R))]
                                  (3 : Nat) [])) ∧
  ((List.length t ≤ (9223372036854775800 : Nat) ∧
        List.length F + List.length (A7.fmt t) ≤ (9223372036854775807 : Nat) ∧
          ((-604799 : Int) ≤ b ∧
              b ≤ (604799 : Int) ∧
                List.length (F ++ A7.fmt t) + List.length (A8.fmt b) ≤ (9223372036854775807 : Nat) ∧
                  List.length (F ++ A7.fmt t ++ A8.fmt b) + List.length [(44 : UInt8)] ≤ (9223372036854775807 : Nat) ∧
                    (validDay k d m w e u = true ∧
                        List.length (F ++ A7.fmt t ++ A8.fmt b ++ [(44 : UInt8)]) + List.length (dayF k d m w e u) ≤
                            (9223372036854775807 : Nat) ∧
                          List.length (F ++ A7.fmt t ++ A8.fmt b ++ [(44 : UInt8)] ++ dayF k d m w e u) +
                                List.length [(44 : UInt8)] ≤
                              (9223372036854775807 : Nat) ∧
                            validDay k' d' m' w' e' u' = true ∧
                              List.length
                                      (F ++ A7.fmt t ++ A8.fmt b ++ [(44 : UInt8)] ++ dayF k d m w e u ++
                                        [(44 : UInt8)]) +
                                    List.length (dayF k' d' m' w' e' u') ≤
                                  (9223372036854775807 : Nat) ∧
                                K AX.normal
                                  (St.mk
                                    [AV.imm (IV.str s), AV.imm (IV.str t), AV.imm (IV.int IntKind.i64 a),
                                      AV.imm (IV.int IntKind.i64 b),
                                      AV.agg
                                        [AV.imm (IV.int IntKind.i64 k), AV.imm (IV.int IntKind.i64 d),
                                          AV.imm (IV.int IntKind.i64 m), AV.imm (IV.int IntKind.i64 w),
                                          AV.imm (IV.int IntKind.i64 e), AV.imm (IV.int IntKind.i64 u)],
                                      AV.agg
                                        [AV.imm (IV.int IntKind.i64 k'), AV.imm (IV.int IntKind.i64 d'),
                                          AV.imm (IV.int IntKind.i64 m'), AV.imm (IV.int IntKind.i64 w'),
                                          AV.imm (IV.int IntKind.i64 e'), AV.imm (IV.int IntKind.i64 u')],
                                      T (6 : Nat), T (7 : Nat), T (8 : Nat), T (9 : Nat), AV.ptr (0 : Nat) (0 : Nat),
                                      AV.ptr (1 : Nat) (0 : Nat), T (12 : Nat), AV.imm (IV.str F),
                                      AV.ptr (2 : Nat) (0 : Nat), x, T (16 : Nat),
                                      AV.imm
                                        (IV.str
                                          (F ++ A7.fmt t ++ A8.fmt b ++ [(44 : UInt8)] ++ dayF k d m w e u ++
                                              [(44 : UInt8)] ++
                                            dayF k' d' m' w' e' u')),
                                      T (18 : Nat), T (19 : Nat), T (20 : Nat), T (21 : Nat), T (22 : Nat),
                                      T (23 : Nat), T (24 : Nat), T (25 : Nat), T (26 : Nat), T (27 : Nat),
                                      T (28 : Nat), T (29 : Nat), T (30 : Nat), T (31 : Nat), T (32 : Nat),
                                      T (33 : Nat), T (34 : Nat), T (35 : Nat), T (36 : Nat), T (37 : Nat),
                                      T (38 : Nat), T (39 : Nat), T (40 : Nat), T (41 : Nat), T (42 : Nat),
                                      T (43 : Nat), T (44 : Nat), T (45 : Nat), T (46 : Nat), T (47 : Nat),
                                      T (48 : Nat), T (49 : Nat), T (50 : Nat), T (51 : Nat), T (52 : Nat),
                                      T (53 : Nat), T (54 : Nat), T (55 : Nat), T (56 : Nat), T (57 : Nat),
                                      T (58 : Nat), T (59 : Nat), T (60 : Nat), T (61 : Nat), T (62 : Nat),
                                      T (63 : Nat), T (64 : Nat), T (65 : Nat), T (66 : Nat), T (67 : Nat),
                                      T (68 : Nat), T (69 : Nat), T (70 : Nat), T (71 : Nat), T (72 : Nat),
                                      T (73 : Nat), T (74 : Nat), T (75 : Nat), T (76 : Nat), T (77 : Nat),
                                      T (78 : Nat), T (79 : Nat), T (80 : Nat), T (81 : Nat), T (82 : Nat),
                                      AV.imm (IV.str F), AV.imm (IV.str t), AV.imm (IV.str (A7.fmt t)),
                                      AV.imm (IV.str (F ++ A7.fmt t)), AV.imm (IV.int IntKind.i64 b),
                                      AV.imm (IV.str (A8.fmt b)), AV.imm (IV.str (F ++ A7.fmt t ++ A8.fmt b)),
                                      AV.imm (IV.str (F ++ A7.fmt t ++ A8.fmt b ++ [(44 : UInt8)])),
                                      AV.agg
                                        [AV.imm (IV.int IntKind.i64 k), AV.imm (IV.int IntKind.i64 d),
                                          AV.imm (IV.int IntKind.i64 m), AV.imm (IV.int IntKind.i64 w),
                                          AV.imm (IV.int IntKind.i64 e), AV.imm (IV.int IntKind.i64 u)],
                                      AV.imm (IV.str (dayF k d m w e u)),
                                      AV.imm (IV.str (F ++ A7.fmt t ++ A8.fmt b ++ [(44 : UInt8)] ++ dayF k d m w e u)),
                                      AV.imm
                                        (IV.str
                                          (F ++ A7.fmt t ++ A8.fmt b ++ [(44 : UInt8)] ++ dayF k d m w e u ++
                                            [(44 : UInt8)])),
                                      AV.agg
                                        [AV.imm (IV.int IntKind.i64 k'), AV.imm (IV.int IntKind.i64 d'),
                                          AV.imm (IV.int IntKind.i64 m'), AV.imm (IV.int IntKind.i64 w'),
                                          AV.imm (IV.int IntKind.i64 e'), AV.imm (IV.int IntKind.i64 u')],
                                      AV.imm (IV.str (dayF k' d' m' w' e' u')),
                                      AV.imm
                                        (IV.str
                                          (F ++ A7.fmt t ++ A8.fmt b ++ [(44 : UInt8)] ++ dayF k d m w e u ++
                                              [(44 : UInt8)] ++
                                            dayF k' d' m' w' e' u')),
                                      T (98 : Nat), T (99 : Nat), T (100 : Nat), T (101 : Nat), T (102 : Nat),
                                      T (103 : Nat), T (104 : Nat), T (105 : Nat), T (106 : Nat), T (107 : Nat),
                                      T (108 : Nat), T (109 : Nat), T (110 : Nat), T (111 : Nat), T (112 : Nat),
                                      T (113 : Nat), T (114 : Nat), T (115 : Nat), T (116 : Nat), T (117 : Nat),
                                      T (118 : Nat), T (119 : Nat)]
                                    [((0 : Nat),
                                        Ob.mk true (0 : Nat)
                                          (AObj.cells
                                            [AV.imm (IV.int IntKind.i64 k), AV.imm (IV.int IntKind.i64 d),
                                              AV.imm (IV.int IntKind.i64 m), AV.imm (IV.int IntKind.i64 w),
                                              AV.imm (IV.int IntKind.i64 e), AV.imm (IV.int IntKind.i64 u)])),
                                      ((1 : Nat),
                                        Ob.mk true (0 : Nat)
                                          (AObj.cells
                                            [AV.imm (IV.int IntKind.i64 k'), AV.imm (IV.int IntKind.i64 d'),
                                              AV.imm (IV.int IntKind.i64 m'), AV.imm (IV.int IntKind.i64 w'),
                                              AV.imm (IV.int IntKind.i64 e'), AV.imm (IV.int IntKind.i64 u')])),
                                      ((2 : Nat), Ob.mk true (0 : Nat) (AObj.cells R))]
                                    (3 : Nat) [])) ∧
                      validDay k d m w e u = true ∧
                        List.length (F ++ A7.fmt t ++ A8.fmt b ++ [(44 : UInt8)]) + List.length (dayF k d m w e u) ≤
                            (9223372036854775807 : Nat) ∧
                          List.length (F ++ A7.fmt t ++ A8.fmt b ++ [(44 : UInt8)] ++ dayF k d m w e u) +
                                List.length [(44 : UInt8)] ≤
                              (9223372036854775807 : Nat) ∧
                            validDay k' d' m' w' e' u' = true ∧
                              List.length
                                      (F ++ A7.fmt t ++ A8.fmt b ++ [(44 : UInt8)] ++ dayF k d m w e u ++
                                        [(44 : UInt8)]) +
                                    List.length (dayF k' d' m' w' e' u') ≤
                                  (9223372036854775807 : Nat) ∧
                                K AX.normal
                                  (St.mk
                                    [AV.imm (IV.str s), AV.imm (IV.str t), AV.imm (IV.int IntKind.i64 a),
                                      AV.imm (IV.int IntKind.i64 b),
                                      AV.agg
                                        [AV.imm (IV.int IntKind.i64 k), AV.imm (IV.int IntKind.i64 d),
                                          AV.imm (IV.int IntKind.i64 m), AV.imm (IV.int IntKind.i64 w),
                                          AV.imm (IV.int IntKind.i64 e), AV.imm (IV.int IntKind.i64 u)],
                                      AV.agg
                                        [AV.imm (IV.int IntKind.i64 k'), AV.imm (IV.int IntKind.i64 d'),
                                          AV.imm (IV.int IntKind.i64 m'), AV.imm (IV.int IntKind.i64 w'),
                                          AV.imm (IV.int IntKind.i64 e'), AV.imm (IV.int IntKind.i64 u')],
                                      T (6 : Nat), T (7 : Nat), T (8 : Nat), T (9 : Nat), AV.ptr (0 : Nat) (0 : Nat),
                                      AV.ptr (1 : Nat) (0 : Nat), T (12 : Nat), AV.imm (IV.str F),
                                      AV.ptr (2 : Nat) (0 : Nat), x, T (16 : Nat),
                                      AV.imm
                                        (IV.str
                                          (F ++ A7.fmt t ++ A8.fmt b ++ [(44 : UInt8)] ++ dayF k d m w e u ++
                                              [(44 : UInt8)] ++
                                            dayF k' d' m' w' e' u')),
                                      T (18 : Nat), T (19 : Nat), T (20 : Nat), T (21 : Nat), T (22 : Nat),
                                      T (23 : Nat), T (24 : Nat), T (25 : Nat), T (26 : Nat), T (27 : Nat),
                                      T (28 : Nat), T (29 : Nat), T (30 : Nat), T (31 : Nat), T (32 : Nat),
                                      T (33 : Nat), T (34 : Nat), T (35 : Nat), T (36 : Nat), T (37 : Nat),
                                      T (38 : Nat), T (39 : Nat), T (40 : Nat), T (41 : Nat), T (42 : Nat),
                                      T (43 : Nat), T (44 : Nat), T (45 : Nat), T (46 : Nat), T (47 : Nat),
                                      T (48 : Nat), T (49 : Nat), T (50 : Nat), T (51 : Nat), T (52 : Nat),
                                      T (53 : Nat), T (54 : Nat), T (55 : Nat), T (56 : Nat), T (57 : Nat),
                                      T (58 : Nat), T (59 : Nat), T (60 : Nat), T (61 : Nat), T (62 : Nat),
                                      T (63 : Nat), T (64 : Nat), T (65 : Nat), T (66 : Nat), T (67 : Nat),
                                      T (68 : Nat), T (69 : Nat), T (70 : Nat), T (71 : Nat), T (72 : Nat),
                                      T (73 : Nat), T (74 : Nat), T (75 : Nat), T (76 : Nat), T (77 : Nat),
                                      T (78 : Nat), T (79 : Nat), T (80 : Nat), T (81 : Nat), T (82 : Nat),
                                      AV.imm (IV.str F), AV.imm (IV.str t), AV.imm (IV.str (A7.fmt t)),
                                      AV.imm (IV.str (F ++ A7.fmt t)), AV.imm (IV.int IntKind.i64 b),
                                      AV.imm (IV.str (A8.fmt b)), AV.imm (IV.str (F ++ A7.fmt t ++ A8.fmt b)),
                                      AV.imm (IV.str (F ++ A7.fmt t ++ A8.fmt b ++ [(44 : UInt8)])),
                                      AV.agg
                                        [AV.imm (IV.int IntKind.i64 k), AV.imm (IV.int IntKind.i64 d),
                                          AV.imm (IV.int IntKind.i64 m), AV.imm (IV.int IntKind.i64 w),
                                          AV.imm (IV.int IntKind.i64 e), AV.imm (IV.int IntKind.i64 u)],
                                      AV.imm (IV.str (dayF k d m w e u)),
                                      AV.imm (IV.str (F ++ A7.fmt t ++ A8.fmt b ++ [(44 : UInt8)] ++ dayF k d m w e u)),
                                      AV.imm
                                        (IV.str
                                          (F ++ A7.fmt t ++ A8.fmt b ++ [(44 : UInt8)] ++ dayF k d m w e u ++
                                            [(44 : UInt8)])),
                                      AV.agg
                                        [AV.imm (IV.int IntKind.i64 k'), AV.imm (IV.int IntKind.i64 d'),
                                          AV.imm (IV.int IntKind.i64 m'), AV.imm (IV.int IntKind.i64 w'),
                                          AV.imm (IV.int IntKind.i64 e'), AV.imm (IV.int IntKind.i64 u')],
                                      AV.imm (IV.str (dayF k' d' m' w' e' u')),
                                      AV.imm
                                        (IV.str
                                          (F ++ A7.fmt t ++ A8.fmt b ++ [(44 : UInt8)] ++ dayF k d m w e u ++
                                              [(44 : UInt8)] ++
                                            dayF k' d' m' w' e' u')),
                                      T (98 : Nat), T (99 : Nat), T (100 : Nat), T (101 : Nat), T (102 : Nat),
                                      T (103 : Nat), T (104 : Nat), T (105 : Nat), T (106 : Nat), T (107 : Nat),
                                      T (108 : Nat), T (109 : Nat), T (110 : Nat), T (111 : Nat), T (112 : Nat),
                                      T (113 : Nat), T (114 : Nat), T (115 : Nat), T (116 : Nat), T (117 : Nat),
                                      T (118 : Nat), T (119 : Nat)]
                                    [((0 : Nat),
                                        Ob.mk true (0 : Nat)
                                          (AObj.cells
                                            [AV.imm (IV.int IntKind.i64 k), AV.imm (IV.int IntKind.i64 d),
                                              AV.imm (IV.int IntKind.i64 m), AV.imm (IV.int IntKind.i64 w),
                                              AV.imm (IV.int IntKind.i64 e), AV.imm (IV.int IntKind.i64 u)])),
                                      ((1 : Nat),
                                        Ob.mk true (0 : Nat)
                                          (AObj.cells
                                            [AV.imm (IV.int IntKind.i64 k'), AV.imm (IV.int IntKind.i64 d'),
                                              AV.imm (IV.int IntKind.i64 m'), AV.imm (IV.int IntKind.i64 w'),
                                              AV.imm (IV.int IntKind.i64 e'), AV.imm (IV.int IntKind.i64 u')])),
                                      ((2 : Nat), Ob.mk true (0 : Nat) (AObj.cells R))]
                                    (3 : Nat) [])) ∧
            (-604799 : Int) ≤ b ∧
              b ≤ (604799 : Int) ∧
                List.length (F ++ A7.fmt t) + List.length (A8.fmt b) ≤ (9223372036854775807 : Nat) ∧
                  List.length (F ++ A7.fmt t ++ A8.fmt b) + List.length [(44 : UInt8)] ≤ (9223372036854775807 : Nat) ∧
                    validDay k d m w e u = true ∧
                      List.length (F ++ A7.fmt t ++ A8.fmt b ++ [(44 : UInt8)]) + List.length (dayF k d m w e u) ≤
                          (9223372036854775807 : Nat) ∧
                        List.length (F ++ A7.fmt t ++ A8.fmt b ++ [(44 : UInt8)] ++ dayF k d m w e u) +
                              List.length [(44 : UInt8)] ≤
                            (9223372036854775807 : Nat) ∧
                          validDay k' d' m' w' e' u' = true ∧
                            List.length
                                    (F ++ A7.fmt t ++ A8.fmt b ++ [(44 : UInt8)] ++ dayF k d m w e u ++
                                      [(44 : UInt8)]) +
                                  List.length (dayF k' d' m' w' e' u') ≤
                                (9223372036854775807 : Nat) ∧
                              K AX.normal
                                (St.mk
                                  [AV.imm (IV.str s), AV.imm (IV.str t), AV.imm (IV.int IntKind.i64 a),
                                    AV.imm (IV.int IntKind.i64 b),
                                    AV.agg
                                      [AV.imm (IV.int IntKind.i64 k), AV.imm (IV.int IntKind.i64 d),
                                        AV.imm (IV.int IntKind.i64 m), AV.imm (IV.int IntKind.i64 w),
                                        AV.imm (IV.int IntKind.i64 e), AV.imm (IV.int IntKind.i64 u)],
                                    AV.agg
                                      [AV.imm (IV.int IntKind.i64 k'), AV.imm (IV.int IntKind.i64 d'),
                                        AV.imm (IV.int IntKind.i64 m'), AV.imm (IV.int IntKind.i64 w'),
                                        AV.imm (IV.int IntKind.i64 e'), AV.imm (IV.int IntKind.i64 u')],
                                    T (6 : Nat), T (7 : Nat), T (8 : Nat), T (9 : Nat), AV.ptr (0 : Nat) (0 : Nat),
                                    AV.ptr (1 : Nat) (0 : Nat), T (12 : Nat), AV.imm (IV.str F),
                                    AV.ptr (2 : Nat) (0 : Nat), x, T (16 : Nat),
                                    AV.imm
                                      (IV.str
                                        (F ++ A7.fmt t ++ A8.fmt b ++ [(44 : UInt8)] ++ dayF k d m w e u ++
                                            [(44 : UInt8)] ++
                                          dayF k' d' m' w' e' u')),
                                    T (18 : Nat), T (19 : Nat), T (20 : Nat), T (21 : Nat), T (22 : Nat), T (23 : Nat),
                                    T (24 : Nat), T (25 : Nat), T (26 : Nat), T (27 : Nat), T (28 : Nat), T (29 : Nat),
                                    T (30 : Nat), T (31 : Nat), T (32 : Nat), T (33 : Nat), T (34 : Nat), T (35 : Nat),
                                    T (36 : Nat), T (37 : Nat), T (38 : Nat), T (39 : Nat), T (40 : Nat), T (41 : Nat),
                                    T (42 : Nat), T (43 : Nat), T (44 : Nat), T (45 : Nat), T (46 : Nat), T (47 : Nat),
                                    T (48 : Nat), T (49 : Nat), T (50 : Nat), T (51 : Nat), T (52 : Nat), T (53 : Nat),
                                    T (54 : Nat), T (55 : Nat), T (56 : Nat), T (57 : Nat), T (58 : Nat), T (59 : Nat),
                                    T (60 : Nat), T (61 : Nat), T (62 : Nat), T (63 : Nat), T (64 : Nat), T (65 : Nat),
                                    T (66 : Nat), T (67 : Nat), T (68 : Nat), T (69 : Nat), T (70 : Nat), T (71 : Nat),
                                    T (72 : Nat), T (73 : Nat), T (74 : Nat), T (75 : Nat), T (76 : Nat), T (77 : Nat),
                                    T (78 : Nat), T (79 : Nat), T (80 : Nat), T (81 : Nat), T (82 : Nat),
                                    AV.imm (IV.str F), AV.imm (IV.str t), AV.imm (IV.str (A7.fmt t)),
                                    AV.imm (IV.str (F ++ A7.fmt t)), AV.imm (IV.int IntKind.i64 b),
                                    AV.imm (IV.str (A8.fmt b)), AV.imm (IV.str (F ++ A7.fmt t ++ A8.fmt b)),
                                    AV.imm (IV.str (F ++ A7.fmt t ++ A8.fmt b ++ [(44 : UInt8)])),
                                    AV.agg
                                      [AV.imm (IV.int IntKind.i64 k), AV.imm (IV.int IntKind.i64 d),
                                        AV.imm (IV.int IntKind.i64 m), AV.imm (IV.int IntKind.i64 w),
                                        AV.imm (IV.int IntKind.i64 e), AV.imm (IV.int IntKind.i64 u)],
                                    AV.imm (IV.str (dayF k d m w e u)),
                                    AV.imm (IV.str (F ++ A7.fmt t ++ A8.fmt b ++ [(44 : UInt8)] ++ dayF k d m w e u)),
                                    AV.imm
                                      (IV.str
                                        (F ++ A7.fmt t ++ A8.fmt b ++ [(44 : UInt8)] ++ dayF k d m w e u ++
                                          [(44 : UInt8)])),
                                    AV.agg
                                      [AV.imm (IV.int IntKind.i64 k'), AV.imm (IV.int IntKind.i64 d'),
                                        AV.imm (IV.int IntKind.i64 m'), AV.imm (IV.int IntKind.i64 w'),
                                        AV.imm (IV.int IntKind.i64 e'), AV.imm (IV.int IntKind.i64 u')],
                                    AV.imm (IV.str (dayF k' d' m' w' e' u')),
                                    AV.imm
                                      (IV.str
                                        (F ++ A7.fmt t ++ A8.fmt b ++ [(44 : UInt8)] ++ dayF k d m w e u ++
                                            [(44 : UInt8)] ++
                                          dayF k' d' m' w' e' u')),
                                    T (98 : Nat), T (99 : Nat), T (100 : Nat), T (101 : Nat), T (102 : Nat),
                                    T (103 : Nat), T (104 : Nat), T (105 : Nat), T (106 : Nat), T (107 : Nat),
                                    T (108 : Nat), T (109 : Nat), T (110 : Nat), T (111 : Nat), T (112 : Nat),
                                    T (113 : Nat), T (114 : Nat), T (115 : Nat), T (116 : Nat), T (117 : Nat),
                                    T (118 : Nat), T (119 : Nat)]
                                  [((0 : Nat),
                                      Ob.mk true (0 : Nat)
                                        (AObj.cells
                                          [AV.imm (IV.int IntKind.i64 k), AV.imm (IV.int IntKind.i64 d),
                                            AV.imm (IV.int IntKind.i64 m), AV.imm (IV.int IntKind.i64 w),
                                            AV.imm (IV.int IntKind.i64 e), AV.imm (IV.int IntKind.i64 u)])),
                                    ((1 : Nat),
                                      Ob.mk true (0 : Nat)
                                        (AObj.cells
                                          [AV.imm (IV.int IntKind.i64 k'), AV.imm (IV.int IntKind.i64 d'),
                                            AV.imm (IV.int IntKind.i64 m'), AV.imm (IV.int IntKind.i64 w'),
                                            AV.imm (IV.int IntKind.i64 e'), AV.imm (IV.int IntKind.i64 u')])),
                                    ((2 : Nat), Ob.mk true (0 : Nat) (AObj.cells R))]
                                  (3 : Nat) [])) ∧
      List.length t ≤ (9223372036854775800 : Nat) ∧
        List.length F + List.length (A7.fmt t) ≤ (9223372036854775807 : Nat) ∧
          (-604799 : Int) ≤ b ∧
            b ≤ (604799 : Int) ∧
              List.length (F ++ A7.fmt t) + List.length (A8.fmt b) ≤ (9223372036854775807 : Nat) ∧
                List.length (F ++ A7.fmt t ++ A8.fmt b) + List.length [(44 : UInt8)] ≤ (9223372036854775807 : Nat) ∧
                  validDay k d m w e u = true ∧
                    List.length (F ++ A7.fmt t ++ A8.fmt b ++ [(44 : UInt8)]) + List.length (dayF k d m w e u) ≤
                        (9223372036854775807 : Nat) ∧
                      List.length (F ++ A7.fmt t ++ A8.fmt b ++ [(44 : UInt8)] ++ dayF k d m w e u) +
                            List.length [(44 : UInt8)] ≤
                          (9223372036854775807 : Nat) ∧
                        validDay k' d' m' w' e' u' = true ∧
                          List.length
                                  (F ++ A7.fmt t ++ A8.fmt b ++ [(44 : UInt8)] ++ dayF k d m w e u ++ [(44 : UInt8)]) +
                                List.length (dayF k' d' m' w' e' u') ≤
                              (9223372036854775807 : Nat) ∧
                            K AX.normal
                              (St.mk
                                [AV.imm (IV.str s), AV.imm (IV.str t), AV.imm (IV.int IntKind.i64 a),
                                  AV.imm (IV.int IntKind.i64 b),
                                  AV.agg
                                    [AV.imm (IV.int IntKind.i64 k), AV.imm (IV.int IntKind.i64 d),
                                      AV.imm (IV.int IntKind.i64 m), AV.imm (IV.int IntKind.i64 w),
                                      AV.imm (IV.int IntKind.i64 e), AV.imm (IV.int IntKind.i64 u)],
                                  AV.agg
                                    [AV.imm (IV.int IntKind.i64 k'), AV.imm (IV.int IntKind.i64 d'),
                                      AV.imm (IV.int IntKind.i64 m'), AV.imm (IV.int IntKind.i64 w'),
                                      AV.imm (IV.int IntKind.i64 e'), AV.imm (IV.int IntKind.i64 u')],
                                  T (6 : Nat), T (7 : Nat), T (8 : Nat), T (9 : Nat), AV.ptr (0 : Nat) (0 : Nat),
                                  AV.ptr (1 : Nat) (0 : Nat), T (12 : Nat), AV.imm (IV.str F),
                                  AV.ptr (2 : Nat) (0 : Nat), x, T (16 : Nat),
                                  AV.imm
                                    (IV.str
                                      (F ++ A7.fmt t ++ A8.fmt b ++ [(44 : UInt8)] ++ dayF k d m w e u ++
                                          [(44 : UInt8)] ++
                                        dayF k' d' m' w' e' u')),
                                  T (18 : Nat), T (19 : Nat), T (20 : Nat), T (21 : Nat), T (22 : Nat), T (23 : Nat),
                                  T (24 : Nat), T (25 : Nat), T (26 : Nat), T (27 : Nat), T (28 : Nat), T (29 : Nat),
                                  T (30 : Nat), T (31 : Nat), T (32 : Nat), T (33 : Nat), T (34 : Nat), T (35 : Nat),
                                  T (36 : Nat), T (37 : Nat), T (38 : Nat), T (39 : Nat), T (40 : Nat), T (41 : Nat),
                                  T (42 : Nat), T (43 : Nat), T (44 : Nat), T (45 : Nat), T (46 : Nat), T (47 : Nat),
                                  T (48 : Nat), T (49 : Nat), T (50 : Nat), T (51 : Nat), T (52 : Nat), T (53 : Nat),
                                  T (54 : Nat), T (55 : Nat), T (56 : Nat), T (57 : Nat), T (58 : Nat), T (59 : Nat),
                                  T (60 : Nat), T (61 : Nat), T (62 : Nat), T (63 : Nat), T (64 : Nat), T (65 : Nat),
                                  T (66 : Nat), T (67 : Nat), T (68 : Nat), T (69 : Nat), T (70 : Nat), T (71 : Nat),
                                  T (72 : Nat), T (73 : Nat), T (74 : Nat), T (75 : Nat), T (76 : Nat), T (77 : Nat),
                                  T (78 : Nat), T (79 : Nat), T (80 : Nat), T (81 : Nat), T (82 : Nat),
                                  AV.imm (IV.str F), AV.imm (IV.str t), AV.imm (IV.str (A7.fmt t)),
                                  AV.imm (IV.str (F ++ A7.fmt t)), AV.imm (IV.int IntKind.i64 b),
                                  AV.imm (IV.str (A8.fmt b)), AV.imm (IV.str (F ++ A7.fmt t ++ A8.fmt b)),
                                  AV.imm (IV.str (F ++ A7.fmt t ++ A8.fmt b ++ [(44 : UInt8)])),
                                  AV.agg
                                    [AV.imm (IV.int IntKind.i64 k), AV.imm (IV.int IntKind.i64 d),
                                      AV.imm (IV.int IntKind.i64 m), AV.imm (IV.int IntKind.i64 w),
                                      AV.imm (IV.int IntKind.i64 e), AV.imm (IV.int IntKind.i64 u)],
                                  AV.imm (IV.str (dayF k d m w e u)),
                                  AV.imm (IV.str (F ++ A7.fmt t ++ A8.fmt b ++ [(44 : UInt8)] ++ dayF k d m w e u)),
                                  AV.imm
                                    (IV.str
                                      (F ++ A7.fmt t ++ A8.fmt b ++ [(44 : UInt8)] ++ dayF k d m w e u ++
                                        [(44 : UInt8)])),
                                  AV.agg
                                    [AV.imm (IV.int IntKind.i64 k'), AV.imm (IV.int IntKind.i64 d'),
                                      AV.imm (IV.int IntKind.i64 m'), AV.imm (IV.int IntKind.i64 w'),
                                      AV.imm (IV.int IntKind.i64 e'), AV.imm (IV.int IntKind.i64 u')],
                                  AV.imm (IV.str (dayF k' d' m' w' e' u')),
                                  AV.imm
                                    (IV.str
                                      (F ++ A7.fmt t ++ A8.fmt b ++ [(44 : UInt8)] ++ dayF k d m w e u ++
                                          [(44 : UInt8)] ++
                                        dayF k' d' m' w' e' u')),
                                  T (98 : Nat), T (99 : Nat), T (100 : Nat), T (101 : Nat), T (102 : Nat),
                                  T (103 : Nat), T (104 : Nat), T (105 : Nat), T (106 : Nat), T (107 : Nat),
                                  T (108 : Nat), T (109 : Nat), T (110 : Nat), T (111 : Nat), T (112 : Nat),
                                  T (113 : Nat), T (114 : Nat), T (115 : Nat), T (116 : Nat), T (117 : Nat),
                                  T (118 : Nat), T (119 : Nat)]
                                [((0 : Nat),
                                    Ob.mk true (0 : Nat)
                                      (AObj.cells
                                        [AV.imm (IV.int IntKind.i64 k), AV.imm (IV.int IntKind.i64 d),
                                          AV.imm (IV.int IntKind.i64 m), AV.imm (IV.int IntKind.i64 w),
                                          AV.imm (IV.int IntKind.i64 e), AV.imm (IV.int IntKind.i64 u)])),
                                  ((1 : Nat),
                                    Ob.mk true (0 : Nat)
                                      (AObj.cells
                                        [AV.imm (IV.int IntKind.i64 k'), AV.imm (IV.int IntKind.i64 d'),
                                          AV.imm (IV.int IntKind.i64 m'), AV.imm (IV.int IntKind.i64 w'),
                                          AV.imm (IV.int IntKind.i64 e'), AV.imm (IV.int IntKind.i64 u')])),
                                  ((2 : Nat), Ob.mk true (0 : Nat) (AObj.cells R))]
                                (3 : Nat) [])) ∧
    (List.length t ≤ (9223372036854775800 : Nat) ∧
        List.length F + List.length (A7.fmt t) ≤ (9223372036854775807 : Nat) ∧
          ((-604799 : Int) ≤ b ∧
              b ≤ (604799 : Int) ∧
                List.length (F ++ A7.fmt t) + List.length (A8.fmt b) ≤ (9223372036854775807 : Nat) ∧
                  List.length (F ++ A7.fmt t ++ A8.fmt b) + List.length [(44 : UInt8)] ≤ (9223372036854775807 : Nat) ∧
                    validDay k d m w e u = true ∧
                      List.length (F ++ A7.fmt t ++ A8.fmt b ++ [(44 : UInt8)]) + List.length (dayF k d m w e u) ≤
                          (9223372036854775807 : Nat) ∧
                        List.length (F ++ A7.fmt t ++ A8.fmt b ++ [(44 : UInt8)] ++ dayF k d m w e u) +
                              List.length [(44 : UInt8)] ≤
                            (9223372036854775807 : Nat) ∧
                          validDay k' d' m' w' e' u' = true ∧
                            List.length
                                    (F ++ A7.fmt t ++ A8.fmt b ++ [(44 : UInt8)] ++ dayF k d m w e u ++
                                      [(44 : UInt8)]) +
                                  List.length (dayF k' d' m' w' e' u') ≤
                                (9223372036854775807 : Nat) ∧
                              K AX.normal
                                (St.mk
                                  [AV.imm (IV.str s), AV.imm (IV.str t), AV.imm (IV.int IntKind.i64 a),
                                    AV.imm (IV.int IntKind.i64 b),
                                    AV.agg
                                      [AV.imm (IV.int IntKind.i64 k), AV.imm (IV.int IntKind.i64 d),
                                        AV.imm (IV.int IntKind.i64 m), AV.imm (IV.int IntKind.i64 w),
                                        AV.imm (IV.int IntKind.i64 e), AV.imm (IV.int IntKind.i64 u)],
                                    AV.agg
                                      [AV.imm (IV.int IntKind.i64 k'), AV.imm (IV.int IntKind.i64 d'),
                                        AV.imm (IV.int IntKind.i64 m'), AV.imm (IV.int IntKind.i64 w'),
                                        AV.imm (IV.int IntKind.i64 e'), AV.imm (IV.int IntKind.i64 u')],
                                    T (6 : Nat), T (7 : Nat), T (8 : Nat), T (9 : Nat), AV.ptr (0 : Nat) (0 : Nat),
                                    AV.ptr (1 : Nat) (0 : Nat), T (12 : Nat), AV.imm (IV.str F),
                                    AV.ptr (2 : Nat) (0 : Nat), x, T (16 : Nat),
                                    AV.imm
                                      (IV.str
                                        (F ++ A7.fmt t ++ A8.fmt b ++ [(44 : UInt8)] ++ dayF k d m w e u ++
                                            [(44 : UInt8)] ++
                                          dayF k' d' m' w' e' u')),
                                    T (18 : Nat), T (19 : Nat), T (20 : Nat), T (21 : Nat), T (22 : Nat), T (23 : Nat),
                                    T (24 : Nat), T (25 : Nat), T (26 : Nat), T (27 : Nat), T (28 : Nat), T (29 : Nat),
                                    T (30 : Nat), T (31 : Nat), T (32 : Nat), T (33 : Nat), T (34 : Nat), T (35 : Nat),
                                    T (36 : Nat), T (37 : Nat), T (38 : Nat), T (39 : Nat), T (40 : Nat), T (41 : Nat),
                                    T (42 : Nat), T (43 : Nat), T (44 : Nat), T (45 : Nat), T (46 : Nat), T (47 : Nat),
                                    T (48 : Nat), T (49 : Nat), T (50 : Nat), T (51 : Nat), T (52 : Nat), T (53 : Nat),
                                    T (54 : Nat), T (55 : Nat), T (56 : Nat), T (57 : Nat), T (58 : Nat), T (59 : Nat),
                                    T (60 : Nat), T (61 : Nat), T (62 : Nat), T (63 : Nat), T (64 : Nat), T (65 : Nat),
                                    T (66 : Nat), T (67 : Nat), T (68 : Nat), T (69 : Nat), T (70 : Nat), T (71 : Nat),
                                    T (72 : Nat), T (73 : Nat), T (74 : Nat), T (75 : Nat), T (76 : Nat), T (77 : Nat),
                                    T (78 : Nat), T (79 : Nat), T (80 : Nat), T (81 : Nat), T (82 : Nat),
                                    AV.imm (IV.str F), AV.imm (IV.str t), AV.imm (IV.str (A7.fmt t)),
                                    AV.imm (IV.str (F ++ A7.fmt t)), AV.imm (IV.int IntKind.i64 b),
                                    AV.imm (IV.str (A8.fmt b)), AV.imm (IV.str (F ++ A7.fmt t ++ A8.fmt b)),
                                    AV.imm (IV.str (F ++ A7.fmt t ++ A8.fmt b ++ [(44 : UInt8)])),
                                    AV.agg
                                      [AV.imm (IV.int IntKind.i64 k), AV.imm (IV.int IntKind.i64 d),
                                        AV.imm (IV.int IntKind.i64 m), AV.imm (IV.int IntKind.i64 w),
                                        AV.imm (IV.int IntKind.i64 e), AV.imm (IV.int IntKind.i64 u)],
                                    AV.imm (IV.str (dayF k d m w e u)),
                                    AV.imm (IV.str (F ++ A7.fmt t ++ A8.fmt b ++ [(44 : UInt8)] ++ dayF k d m w e u)),
                                    AV.imm
                                      (IV.str
                                        (F ++ A7.fmt t ++ A8.fmt b ++ [(44 : UInt8)] ++ dayF k d m w e u ++
                                          [(44 : UInt8)])),
                                    AV.agg
                                      [AV.imm (IV.int IntKind.i64 k'), AV.imm (IV.int IntKind.i64 d'),
                                        AV.imm (IV.int IntKind.i64 m'), AV.imm (IV.int IntKind.i64 w'),
                                        AV.imm (IV.int IntKind.i64 e'), AV.imm (IV.int IntKind.i64 u')],
                                    AV.imm (IV.str (dayF k' d' m' w' e' u')),
                                    AV.imm
                                      (IV.str
                                        (F ++ A7.fmt t ++ A8.fmt b ++ [(44 : UInt8)] ++ dayF k d m w e u ++
                                            [(44 : UInt8)] ++
                                          dayF k' d' m' w' e' u')),
                                    T (98 : Nat), T (99 : Nat), T (100 : Nat), T (101 : Nat), T (102 : Nat),
                                    T (103 : Nat), T (104 : Nat), T (105 : Nat), T (106 : Nat), T (107 : Nat),
                                    T (108 : Nat), T (109 : Nat), T (110 : Nat), T (111 : Nat), T (112 : Nat),
                                    T (113 : Nat), T (114 : Nat), T (115 : Nat), T (116 : Nat), T (117 : Nat),
                                    T (118 : Nat), T (119 : Nat)]
                                  [((0 : Nat),
                                      Ob.mk true (0 : Nat)
                                        (AObj.cells
                                          [AV.imm (IV.int IntKind.i64 k), AV.imm (IV.int IntKind.i64 d),
                                            AV.imm (IV.int IntKind.i64 m), AV.imm (IV.int IntKind.i64 w),
                                            AV.imm (IV.int IntKind.i64 e), AV.imm (IV.int IntKind.i64 u)])),
                                    ((1 : Nat),
                                      Ob.mk true (0 : Nat)
                                        (AObj.cells
                                          [AV.imm (IV.int IntKind.i64 k'), AV.imm (IV.int IntKind.i64 d'),
                                            AV.imm (IV.int IntKind.i64 m'), AV.imm (IV.int IntKind.i64 w'),
                                            AV.imm (IV.int IntKind.i64 e'), AV.imm (IV.int IntKind.i64 u')])),
                                    ((2 : Nat), Ob.mk true (0 : Nat) (AObj.cells R))]
                                  (3 : Nat) [])) ∧
            (-604799 : Int) ≤ b ∧
              b ≤ (604799 : Int) ∧
                List.length (F ++ A7.fmt t) + List.length (A8.fmt b) ≤ (9223372036854775807 : Nat) ∧
                  List.length (F ++ A7.fmt t ++ A8.fmt b) + List.length [(44 : UInt8)] ≤ (9223372036854775807 : Nat) ∧
                    validDay k d m w e u = true ∧
                      List.length (F ++ A7.fmt t ++ A8.fmt b ++ [(44 : UInt8)]) + List.length (dayF k d m w e u) ≤
                          (9223372036854775807 : Nat) ∧
                        List.length (F ++ A7.fmt t ++ A8.fmt b ++ [(44 : UInt8)] ++ dayF k d m w e u) +
                              List.length [(44 : UInt8)] ≤
                            (9223372036854775807 : Nat) ∧
                          validDay k' d' m' w' e' u' = true ∧
                            List.length
                                    (F ++ A7.fmt t ++ A8.fmt b ++ [(44 : UInt8)] ++ dayF k d m w e u ++
                                      [(44 : UInt8)]) +
                                  List.length (dayF k' d' m' w' e' u') ≤
                                (9223372036854775807 : Nat) ∧
                              K AX.normal
                                (St.mk
                                  [AV.imm (IV.str s), AV.imm (IV.str t), AV.imm (IV.int IntKind.i64 a),
                                    AV.imm (IV.int IntKind.i64 b),
                                    AV.agg
                                      [AV.imm (IV.int IntKind.i64 k), AV.imm (IV.int IntKind.i64 d),
                                        AV.imm (IV.int IntKind.i64 m), AV.imm (IV.int IntKind.i64 w),
                                        AV.imm (IV.int IntKind.i64 e), AV.imm (IV.int IntKind.i64 u)],
                                    AV.agg
                                      [AV.imm (IV.int IntKind.i64 k'), AV.imm (IV.int IntKind.i64 d'),
                                        AV.imm (IV.int IntKind.i64 m'), AV.imm (IV.int IntKind.i64 w'),
                                        AV.imm (IV.int IntKind.i64 e'), AV.imm (IV.int IntKind.i64 u')],
                                    T (6 : Nat), T (7 : Nat), T (8 : Nat), T (9 : Nat), AV.ptr (0 : Nat) (0 : Nat),
                                    AV.ptr (1 : Nat) (0 : Nat), T (12 : Nat), AV.imm (IV.str F),
                                    AV.ptr (2 : Nat) (0 : Nat), x, T (16 : Nat),
                                    AV.imm
                                      (IV.str
                                        (F ++ A7.fmt t ++ A8.fmt b ++ [(44 : UInt8)] ++ dayF k d m w e u ++
                                            [(44 : UInt8)] ++
                                          dayF k' d' m' w' e' u')),
                                    T (18 : Nat), T (19 : Nat), T (20 : Nat), T (21 : Nat), T (22 : Nat), T (23 : Nat),
                                    T (24 : Nat), T (25 : Nat), T (26 : Nat), T (27 : Nat), T (28 : Nat), T (29 : Nat),
                                    T (30 : Nat), T (31 : Nat), T (32 : Nat), T (33 : Nat), T (34 : Nat), T (35 : Nat),
                                    T (36 : Nat), T (37 : Nat), T (38 : Nat), T (39 : Nat), T (40 : Nat), T (41 : Nat),
                                    T (42 : Nat), T (43 : Nat), T (44 : Nat), T (45 : Nat), T (46 : Nat), T (47 : Nat),
                                    T (48 : Nat), T (49 : Nat), T (50 : Nat), T (51 : Nat), T (52 : Nat), T (53 : Nat),
                                    T (54 : Nat), T (55 : Nat), T (56 : Nat), T (57 : Nat), T (58 : Nat), T (59 : Nat),
                                    T (60 : Nat), T (61 : Nat), T (62 : Nat), T (63 : Nat), T (64 : Nat), T (65 : Nat),
                                    T (66 : Nat), T (67 : Nat), T (68 : Nat), T (69 : Nat), T (70 : Nat), T (71 : Nat),
                                    T (72 : Nat), T (73 : Nat), T (74 : Nat), T (75 : Nat), T (76 : Nat), T (77 : Nat),
                                    T (78 : Nat), T (79 : Nat), T (80 : Nat), T (81 : Nat), T (82 : Nat),
                                    AV.imm (IV.str F), AV.imm (IV.str t), AV.imm (IV.str (A7.fmt t)),
                                    AV.imm (IV.str (F ++ A7.fmt t)), AV.imm (IV.int IntKind.i64 b),
                                    AV.imm (IV.str (A8.fmt b)), AV.imm (IV.str (F ++ A7.fmt t ++ A8.fmt b)),
                                    AV.imm (IV.str (F ++ A7.fmt t ++ A8.fmt b ++ [(44 : UInt8)])),
                                    AV.agg
                                      [AV.imm (IV.int IntKind.i64 k), AV.imm (IV.int IntKind.i64 d),
                                        AV.imm (IV.int IntKind.i64 m), AV.imm (IV.int IntKind.i64 w),
                                        AV.imm (IV.int IntKind.i64 e), AV.imm (IV.int IntKind.i64 u)],
                                    AV.imm (IV.str (dayF k d m w e u)),
                                    AV.imm (IV.str (F ++ A7.fmt t ++ A8.fmt b ++ [(44 : UInt8)] ++ dayF k d m w e u)),
                                    AV.imm
                                      (IV.str
                                        (F ++ A7.fmt t ++ A8.fmt b ++ [(44 : UInt8)] ++ dayF k d m w e u ++
                                          [(44 : UInt8)])),
                                    AV.agg
                                      [AV.imm (IV.int IntKind.i64 k'), AV.imm (IV.int IntKind.i64 d'),
                                        AV.imm (IV.int IntKind.i64 m'), AV.imm (IV.int IntKind.i64 w'),
                                        AV.imm (IV.int IntKind.i64 e'), AV.imm (IV.int IntKind.i64 u')],
                                    AV.imm (IV.str (dayF k' d' m' w' e' u')),
                                    AV.imm
                                      (IV.str
                                        (F ++ A7.fmt t ++ A8.fmt b ++ [(44 : UInt8)] ++ dayF k d m w e u ++
                                            [(44 : UInt8)] ++
                                          dayF k' d' m' w' e' u')),
                                    T (98 : Nat), T (99 : Nat), T (100 : Nat), T (101 : Nat), T (102 : Nat),
                                    T (103 : Nat), T (104 : Nat), T (105 : Nat), T (106 : Nat), T (107 : Nat),
                                    T (108 : Nat), T (109 : Nat), T (110 : Nat), T (111 : Nat), T (112 : Nat),
                                    T (113 : Nat), T (114 : Nat), T (115 : Nat), T (116 : Nat), T (117 : Nat),
                                    T (118 : Nat), T (119 : Nat)]
                                  [((0 : Nat),
                                      Ob.mk true (0 : Nat)
                                        (AObj.cells
                                          [AV.imm (IV.int IntKind.i64 k), AV.imm (IV.int IntKind.i64 d),
                                            AV.imm (IV.int IntKind.i64 m), AV.imm (IV.int IntKind.i64 w),
                                            AV.imm (IV.int IntKind.i64 e), AV.imm (IV.int IntKind.i64 u)])),
                                    ((1 : Nat),
                                      Ob.mk true (0 : Nat)
                                        (AObj.cells
                                          [AV.imm (IV.int IntKind.i64 k'), AV.imm (IV.int IntKind.i64 d'),
                                            AV.imm (IV.int IntKind.i64 m'), AV.imm (IV.int IntKind.i64 w'),
                                            AV.imm (IV.int IntKind.i64 e'), AV.imm (IV.int IntKind.i64 u')])),
                                    ((2 : Nat), Ob.mk true (0 : Nat) (AObj.cells R))]
                                  (3 : Nat) [])) ∧
      List.length t ≤ (9223372036854775800 : Nat) ∧
        List.length F + List.length (A7.fmt t) ≤ (9223372036854775807 : Nat) ∧
          (-604799 : Int) ≤ b ∧
            b ≤ (604799 : Int) ∧
              List.length (F ++ A7.fmt t) + List.length (A8.fmt b) ≤ (9223372036854775807 : Nat) ∧
                List.length (F ++ A7.fmt t ++ A8.fmt b) + List.length [(44 : UInt8)] ≤ (9223372036854775807 : Nat) ∧
                  validDay k d m w e u = true ∧
                    List.length (F ++ A7.fmt t ++ A8.fmt b ++ [(44 : UInt8)]) + List.length (dayF k d m w e u) ≤
                        (9223372036854775807 : Nat) ∧
                      List.length (F ++ A7.fmt t ++ A8.fmt b ++ [(44 : UInt8)] ++ dayF k d m w e u) +
                            List.length [(44 : UInt8)] ≤
                          (9223372036854775807 : Nat) ∧
                        validDay k' d' m' w' e' u' = true ∧
                          List.length
                                  (F ++ A7.fmt t ++ A8.fmt b ++ [(44 : UInt8)] ++ dayF k d m w e u ++ [(44 : UInt8)]) +
                                List.length (dayF k' d' m' w' e' u') ≤
                              (9223372036854775807 : Nat) ∧
                            K AX.normal
                              (St.mk
                                [AV.imm (IV.str s), AV.imm (IV.str t), AV.imm (IV.int IntKind.i64 a),
                                  AV.imm (IV.int IntKind.i64 b),
                                  AV.agg
                                    [AV.imm (IV.int IntKind.i64 k), AV.imm (IV.int IntKind.i64 d),
                                      AV.imm (IV.int IntKind.i64 m), AV.imm (IV.int IntKind.i64 w),
                                      AV.imm (IV.int IntKind.i64 e), AV.imm (IV.int IntKind.i64 u)],
                                  AV.agg
                                    [AV.imm (IV.int IntKind.i64 k'), AV.imm (IV.int IntKind.i64 d'),
                                      AV.imm (IV.int IntKind.i64 m'), AV.imm (IV.int IntKind.i64 w'),
                                      AV.imm (IV.int IntKind.i64 e'), AV.imm (IV.int IntKind.i64 u')],
                                  T (6 : Nat), T (7 : Nat), T (8 : Nat), T (9 : Nat), AV.ptr (0 : Nat) (0 : Nat),
                                  AV.ptr (1 : Nat) (0 : Nat), T (12 : Nat), AV.imm (IV.str F),
                                  AV.ptr (2 : Nat) (0 : Nat), x, T (16 : Nat),
                                  AV.imm
                                    (IV.str
                                      (F ++ A7.fmt t ++ A8.fmt b ++ [(44 : UInt8)] ++ dayF k d m w e u ++
                                          [(44 : UInt8)] ++
                                        dayF k' d' m' w' e' u')),
                                  T (18 : Nat), T (19 : Nat), T (20 : Nat), T (21 : Nat), T (22 : Nat), T (23 : Nat),
                                  T (24 : Nat), T (25 : Nat), T (26 : Nat), T (27 : Nat), T (28 : Nat), T (29 : Nat),
                                  T (30 : Nat), T (31 : Nat), T (32 : Nat), T (33 : Nat), T (34 : Nat), T (35 : Nat),
                                  T (36 : Nat), T (37 : Nat), T (38 : Nat), T (39 : Nat), T (40 : Nat), T (41 : Nat),
                                  T (42 : Nat), T (43 : Nat), T (44 : Nat), T (45 : Nat), T (46 : Nat), T (47 : Nat),
                                  T (48 : Nat), T (49 : Nat), T (50 : Nat), T (51 : Nat), T (52 : Nat), T (53 : Nat),
                                  T (54 : Nat), T (55 : Nat), T (56 : Nat), T (57 : Nat), T (58 : Nat), T (59 : Nat),
                                  T (60 : Nat), T (61 : Nat), T (62 : Nat), T (63 : Nat), T (64 : Nat), T (65 : Nat),
                                  T (66 : Nat), T (67 : Nat), T (68 : Nat), T (69 : Nat), T (70 : Nat), T (71 : Nat),
                                  T (72 : Nat), T (73 : Nat), T (74 : Nat), T (75 : Nat), T (76 : Nat), T (77 : Nat),
                                  T (78 : Nat), T (79 : Nat), T (80 : Nat), T (81 : Nat), T (82 : Nat),
                                  AV.imm (IV.str F), AV.imm (IV.str t), AV.imm (IV.str (A7.fmt t)),
                                  AV.imm (IV.str (F ++ A7.fmt t)), AV.imm (IV.int IntKind.i64 b),
                                  AV.imm (IV.str (A8.fmt b)), AV.imm (IV.str (F ++ A7.fmt t ++ A8.fmt b)),
                                  AV.imm (IV.str (F ++ A7.fmt t ++ A8.fmt b ++ [(44 : UInt8)])),
                                  AV.agg
                                    [AV.imm (IV.int IntKind.i64 k), AV.imm (IV.int IntKind.i64 d),
                                      AV.imm (IV.int IntKind.i64 m), AV.imm (IV.int IntKind.i64 w),
                                      AV.imm (IV.int IntKind.i64 e), AV.imm (IV.int IntKind.i64 u)],
                                  AV.imm (IV.str (dayF k d m w e u)),
                                  AV.imm (IV.str (F ++ A7.fmt t ++ A8.fmt b ++ [(44 : UInt8)] ++ dayF k d m w e u)),
                                  AV.imm
                                    (IV.str
                                      (F ++ A7.fmt t ++ A8.fmt b ++ [(44 : UInt8)] ++ dayF k d m w e u ++
                                        [(44 : UInt8)])),
                                  AV.agg
                                    [AV.imm (IV.int IntKind.i64 k'), AV.imm (IV.int IntKind.i64 d'),
                                      AV.imm (IV.int IntKind.i64 m'), AV.imm (IV.int IntKind.i64 w'),
                                      AV.imm (IV.int IntKind.i64 e'), AV.imm (IV.int IntKind.i64 u')],
                                  AV.imm (IV.str (dayF k' d' m' w' e' u')),
                                  AV.imm
                                    (IV.str
                                      (F ++ A7.fmt t ++ A8.fmt b ++ [(44 : UInt8)] ++ dayF k d m w e u ++
                                          [(44 : UInt8)] ++
                                        dayF k' d' m' w' e' u')),
                                  T (98 : Nat), T (99 : Nat), T (100 : Nat), T (101 : Nat), T (102 : Nat),
                                  T (103 : Nat), T (104 : Nat), T (105 : Nat), T (106 : Nat), T (107 : Nat),
                                  T (108 : Nat), T (109 : Nat), T (110 : Nat), T (111 : Nat), T (112 : Nat),
                                  T (113 : Nat), T (114 : Nat), T (115 : Nat), T (116 : Nat), T (117 : Nat),
                                  T (118 : Nat), T (119 : Nat)]
                                [((0 : Nat),
                                    Ob.mk true (0 : Nat)
                                      (AObj.cells
                                        [AV.imm (IV.int IntKind.i64 k), AV.imm (IV.int IntKind.i64 d),
                                          AV.imm (IV.int IntKind.i64 m), AV.imm (IV.int IntKind.i64 w),
                                          AV.imm (IV.int IntKind.i64 e), AV.imm (IV.int IntKind.i64 u)])),
                                  ((1 : Nat),
                                    Ob.mk true (0 : Nat)
                                      (AObj.cells
                                        [AV.imm (IV.int IntKind.i64 k'), AV.imm (IV.int IntKind.i64 d'),
                                          AV.imm (IV.int IntKind.i64 m'), AV.imm (IV.int IntKind.i64 w'),
                                          AV.imm (IV.int IntKind.i64 e'), AV.imm (IV.int IntKind.i64 u')])),
                                  ((2 : Nat), Ob.mk true (0 : Nat) (AObj.cells R))]
                                (3 : Nat) [])) := by kernel_rfl
end Z09

set_option maxRecDepth 100000
namespace Z09
open Go Go.AE Go.Proofs

/-! ### composed strings -/
theorem good7 {s : List UInt8} (h : A7.valid s = true) : ∀ b ∈ s, b ≠ 62 := by
  unfold A7.valid at h
  simp only [Bool.and_eq_true, List.all_eq_true] at h
  rintro b hb rfl
  exact absurd (h.1 _ hb) (by decide)
theorem place7_append {s u : List UInt8} {c : UInt8} (h : ∀ b ∈ s, b ≠ c) : A7.place (s ++ c :: u) c = s.length := by
  unfold A7.place
  rw [List.takeWhile_append_of_pos (fun b hb => by simpa using h b hb)]
  simp [List.takeWhile_cons]
theorem letters7_append {s u : List UInt8} (h : A7.bare s = true) (hu : u = [] ∨ A7.alphaB (u.getD 0 0) = false) : A7.letters (s ++ u) = s.length := by
  unfold A7.letters
  unfold A7.bare at h
  rw [List.all_eq_true] at h
  rw [List.takeWhile_append_of_pos h]
  have : u.takeWhile A7.alphaB = [] := by
    rcases hu with rfl | hu
    · rfl
    · cases u with
      | nil => rfl
      | cons b u =>
        have hu' : A7.alphaB b = false := hu
        simp [List.takeWhile_cons, hu']
  rw [this]
  simp
theorem parse7Q {s : List UInt8} (u : List UInt8) (hv : A7.valid s = true) : A7.parse ((60 :: (s ++ [62])) ++ u) = (s, ((60 :: (s ++ [62]) : List UInt8).length : Int), true) := by
  have hp : A7.place (s ++ 62 :: u) 62 = s.length := place7_append (good7 hv)
  have e : (60 :: (s ++ [62])) ++ u = 60 :: (s ++ 62 :: u) := by simp
  rw [e]
  have e2 : A7.parse (60 :: (s ++ 62 :: u)) = A7.parseQ (s ++ 62 :: u) := by simp [A7.parse]
  rw [e2]
  unfold A7.parseQ
  rw [hp, if_pos (by simp), List.take_left' rfl, if_pos hv]
  simp only [List.length_append, List.length_cons, List.length_nil, Prod.mk.injEq, and_true, true_and]
  omega
theorem parse7_fmt {s u : List UInt8} (hv : A7.valid s = true) (hu : u = [] ∨ A7.alphaB (u.getD 0 0) = false) : A7.parse (A7.fmt s ++ u) = (s, ((A7.fmt s).length : Int), true) := by
  unfold A7.fmt
  by_cases hb : A7.bare s = true
  · rw [if_pos hb]
    have hl := letters7_append hb hu
    have hp : A7.parse (s ++ u) = A7.parseP (s ++ u) := by
      cases s with
      | nil => exact absurd hv (by decide)
      | cons b r =>
        have : A7.alphaB b = true := by
          unfold A7.bare at hb
          rw [List.all_eq_true] at hb
          exact hb b (by simp)
        have h60 : b ≠ 60 := by
          rintro rfl
          exact absurd this (by decide)
        simp [A7.parse, h60]
    rw [hp]
    unfold A7.parseP
    rw [hl, List.take_left', if_pos hv]
    rfl
  · rw [if_neg hb]
    have : [60] ++ s ++ [62] = 60 :: (s ++ [62]) := by simp
    rw [this]
    exact parse7Q u hv

/-! what may stand behind an offset -/
def Aft (u : List UInt8) : Prop := u = [] ∨ (A8.isD (u.getD 0 0) = false ∧ u.getD 0 0 ≠ 58)
theorem runD_a {u : List UInt8} (h : Aft u) (t : List UInt8) : A8.runD (t ++ u) = A8.runD t := by
  rcases h with rfl | ⟨h, _⟩
  · rw [List.append_nil]
  · cases u with
    | nil => rw [List.append_nil]
    | cons c v => exact takeWhile_c h v t
theorem field_a {u : List UInt8} (h : Aft u) (t : List UInt8) : A8.field (t ++ u) = A8.field t := by
  rcases h with rfl | ⟨hd0, h580⟩
  · rw [List.append_nil]
  · cases u with
    | nil => rw [List.append_nil]
    | cons c v =>
      have hd : A8.isD c = false := hd0
      have h58 : c ≠ 58 := h580
      clear hd0 h580
      match t with
      | [] =>
        cases v with
        | nil => rfl
        | cons x v => cases v with
          | nil => rfl
          | cons y v => simp [A8.field, h58]
      | [x] => cases v with
        | nil => rfl
        | cons y v => simp [A8.field, hd]
      | [x, y] => simp [A8.field, hd]
      | x :: y :: z :: r => rfl
theorem fl_a {u : List UInt8} (h : Aft u) (t : List UInt8) : A8.fl (t ++ u) = A8.fl t := by
  unfold A8.fl
  rw [field_a h]
  cases hf : A8.field t with
  | none => rfl
  | some m =>
    have := field_3 hf
    simp only [drop_c (show 3 ≤ t.length by omega), field_a h]
theorem parse8_a {u : List UInt8} (h : Aft u) {t : List UInt8} (ht : t ≠ []) : A8.parse (t ++ u) = A8.parse t := by
  have ho : A8.off (t ++ u) = A8.off t ∧ A8.sgn (t ++ u) = A8.sgn t := by
    cases t with
    | nil => exact absurd rfl ht
    | cons b t => exact ⟨rfl, rfl⟩
  have hle := A8.off_le_len t
  have hh : A8.hoursP (t ++ u) (A8.off t) = A8.hoursP t (A8.off t) := by
    unfold A8.hoursP
    rw [drop_c hle, runD_a h]
  unfold A8.parse
  rw [ho.1, ho.2, hh]
  split
  · rename_i hok
    obtain ⟨n, e, hn, _⟩ := A8.hours_le t (A8.off t) hle hok
    rw [e, Int.toNat_natCast]
    have : A8.fieldsP (t ++ u) n = A8.fieldsP t n := by
      rw [A8.fieldsP_fl, A8.fieldsP_fl, drop_c hn, fl_a h]
    rw [this]
  · rfl
theorem fmt8_ne (t : Int) : A8.fmt t ≠ [] := by
  unfold A8.fmt
  split
  · simp
  · rw [A8.fmtN_eq]
    intro e
    have := dd_len (t.natAbs / 3600)
    rw [show dd (t.natAbs / 3600) = [] from (List.append_eq_nil_iff.1 e).1] at this
    exact absurd this.1 (by decide)
theorem parse8_fa {t : Int} (h0 : -604799 ≤ t) (h1 : t ≤ 604799) {u : List UInt8} (hu : Aft u) : A8.parse (A8.fmt t ++ u) = (t, ((A8.fmt t).length : Int), true) := by
  rw [parse8_a hu (fmt8_ne t), A8.parse_fmt h0 h1]
theorem notA_fmt8 {t : Int} (h0 : -604799 ≤ t) (h1 : t ≤ 604799) (u : List UInt8) : A8.fmt t ++ u = [] ∨ A7.alphaB ((A8.fmt t ++ u).getD 0 0) = false := by
  right
  have dig : ∀ n < 1000, ∀ v, A7.alphaB ((A8.dd n ++ v).getD 0 0) = false := by
    intro n hn v
    have hd := (A8.dd_ok hn).1
    have hl := dd_len n
    match hx : A8.dd n with
    | [] => have : dd n = [] := hx; rw [this] at hl; exact absurd hl.1 (by decide)
    | b :: r =>
      have := hd b (by rw [hx]; exact List.mem_cons_self ..)
      show A7.alphaB b = false
      unfold A8.isD at this
      simp only [Bool.and_eq_true, decide_eq_true_eq] at this
      unfold A7.alphaB A7.isAlpha
      simp
      omega
  unfold A8.fmt
  split
  · rfl
  · rw [A8.fmtN_eq, List.append_assoc]
    exact dig _ (by omega) _
theorem aft_fmt7 {s : List UInt8} (hv : A7.valid s = true) (u : List UInt8) : Aft (A7.fmt s ++ u) := by
  right
  unfold A7.fmt
  by_cases hb : A7.bare s = true
  · rw [if_pos hb]
    cases s with
    | nil => exact absurd hv (by decide)
    | cons b r =>
      have : A7.alphaB b = true := by
        unfold A7.bare at hb
        rw [List.all_eq_true] at hb
        exact hb b (by simp)
      show A8.isD b = false ∧ b ≠ 58
      constructor
      · cases h : A8.isD b with
        | false => rfl
        | true =>
          exfalso
          unfold A8.isD at h
          unfold A7.alphaB A7.isAlpha at this
          simp at h this
          omega
      · rintro rfl; exact absurd this (by decide)
  · rw [if_neg hb]
    show A8.isD 60 = false ∧ (60 : UInt8) ≠ 58
    exact ⟨by decide, by decide⟩

/-! the steps at a place -/
theorem nameQ_at {s y u a : List UInt8} {i : Nat} {F : List UInt8 → Nat → Out} (hd : s.drop i = y ++ u) (hp : A7.parse (y ++ u) = (a, (y.length : Int), true)) : nameQ s i F = F a (i + y.length) := by
  unfold nameQ
  rw [hd, hp]
  rfl
theorem offQ_at {s y u : List UInt8} {t : Int} {i : Nat} {F : Int → Nat → Out} (hd : s.drop i = y ++ u) (hp : A8.parse (y ++ u) = (t, (y.length : Int), true)) (hs : side t = true) : offQ s i F = F (0 - t) (i + y.length) := by
  unfold offQ
  rw [hd, hp]
  simp [hs]
theorem commaQ_at {s u : List UInt8} {i : Nat} {F : Nat → Out} (hd : s.drop i = [44] ++ u) : commaQ s i F = F (i + [(44 : UInt8)].length) := by
  unfold commaQ comma
  rw [hd]
  rfl
theorem dayQ_at {s y u : List UInt8} {i : Nat} {k d m w e t : Int} {F : Dv → Nat → Out} (hd : s.drop i = y ++ u) (hp : day (y ++ u) = ⟨k, d, m, w, e, t, (y.length : Int), true⟩) : dayQ s i F = F ⟨k, d, m, w, e, t⟩ (i + y.length) := by
  unfold dayQ
  rw [hd, hp]
  rfl
theorem drop_at {s y u : List UInt8} {i : Nat} (hd : s.drop i = y ++ u) : s.drop (i + y.length) = u := by
  rw [← List.drop_drop, hd]
  exact List.drop_left
/-- Both days, behind the offsets. -/
theorem days_at {s Y Z : List UInt8} {i : Nat} {a b : List UInt8} {o p : Int} {k d m w e t k' d' m' w' e' t' : Int} (hl : i ≤ s.length) (hd : s.drop i = [44] ++ (Y ++ ([44] ++ Z)))
    (h1 : day (Y ++ ([44] ++ Z)) = ⟨k, d, m, w, e, t, (Y.length : Int), true⟩) (h2 : day Z = ⟨k', d', m', w', e', t', (Z.length : Int), true⟩) (hv : validRu ⟨a, o, true, b, p, ⟨k, d, m, w, e, t⟩, ⟨k', d', m', w', e', t'⟩⟩ = true) :
    (commaQ s i fun i => dayQ s i fun S i => commaQ s i fun i => dayQ s i fun E i => endP s ⟨a, o, true, b, p, S, E⟩ i) = .rule ⟨a, o, true, b, p, ⟨k, d, m, w, e, t⟩, ⟨k', d', m', w', e', t'⟩⟩ := by
  have d1 := drop_at hd
  have d2 := drop_at d1
  have d3 := drop_at d2
  have d3' : s.drop (i + [(44 : UInt8)].length + Y.length + [(44 : UInt8)].length) = Z ++ [] := by rw [d3, List.append_nil]
  rw [commaQ_at hd, dayQ_at d1 h1, commaQ_at d2, dayQ_at d3' (by rw [List.append_nil]; exact h2)]
  have hlen : s.length = i + (1 + (Y.length + (1 + Z.length))) := by
    have := congrArg List.length hd
    simp only [List.length_drop, List.length_append, List.length_cons, List.length_nil] at this
    omega
  unfold endP
  rw [if_pos (by rw [hlen]; simp only [List.length_cons, List.length_nil]; omega), if_pos hv]
theorem side_of {n : Int} (h0 : -89999 ≤ n) (h1 : n ≤ 89999) : side n = true := by
  unfold side
  simp [h0, h1]
/-- A rule without daylight saving time. -/
theorem parse9_std {s : List UInt8} {a : Int} (hv : A7.valid s = true) (h0 : -89999 ≤ a) (h1 : a ≤ 89999) : parse9 (60 :: (s ++ [62]) ++ A8.fmt a) = .rule (stdR s (0 - a)) := by
  have d0 : (60 :: (s ++ [62]) ++ A8.fmt a).drop 0 = (60 :: (s ++ [62])) ++ A8.fmt a := rfl
  have d1 := drop_at d0
  have d1' : (60 :: (s ++ [62]) ++ A8.fmt a).drop (0 + (60 :: (s ++ [62])).length) = A8.fmt a ++ [] := by rw [d1, List.append_nil]
  unfold parse9
  rw [nameQ_at d0 (parse7Q _ hv), offQ_at d1' (parse8_fa (by omega) (by omega) (Or.inl rfl)) (side_of h0 h1)]
  have hlen : (60 :: (s ++ [62]) ++ A8.fmt a).length = 0 + (60 :: (s ++ [62])).length + (A8.fmt a).length := by rw [List.length_append]; omega
  rw [hlen, if_neg (by omega)]
  unfold endP
  rw [if_pos hlen.symm, if_pos]
  unfold validRu validRule stdR
  simp [hv, side_of (n := 0 - a) (by omega) (by omega), zD]
  exact side_of (n := -a) (by omega) (by omega)
theorem validRu_of {a b : List UInt8} {o p : Int} {k d m w e t k' d' m' w' e' t' : Int} (ha : A7.valid a = true) (hb : A7.valid b = true) (ho : side o = true) (hp : side p = true) (hs : validDay k d m w e t = true) (he : validDay k' d' m' w' e' t' = true) :
    validRu ⟨a, o, true, b, p, ⟨k, d, m, w, e, t⟩, ⟨k', d', m', w', e', t'⟩⟩ = true := by
  unfold validRu validRule
  simp [ha, hb, ho, hp, hs, he]
theorem end44 (Z : List UInt8) : End ([44] ++ Z) := Or.inr ⟨44, Z, rfl, Or.inr rfl⟩
theorem aft44 (Z : List UInt8) : Aft ([44] ++ Z) := Or.inr (show A8.isD 44 = false ∧ (44 : UInt8) ≠ 58 from ⟨by decide, by decide⟩)
/-- A rule with both offsets; Y spells the first day. -/
theorem parse9_full {s t N Y : List UInt8} {a b : Int} {k d m w e u k' d' m' w' e' u' : Int} (hs : A7.valid s = true) (ht : A7.valid t = true) (a0 : -89999 ≤ a) (a1 : a ≤ 89999) (b0 : -89999 ≤ b) (b1 : b ≤ 89999)
    (hN : ∀ v, (v = [] ∨ A7.alphaB (v.getD 0 0) = false) → A7.parse (N ++ v) = (t, (N.length : Int), true)) (hA : ∀ v, Aft (N ++ v))
    (hv : validDay k d m w e u = true) (hv' : validDay k' d' m' w' e' u' = true) (hY : ∀ Z, day (Y ++ ([44] ++ Z)) = ⟨k, d, m, w, e, u, (Y.length : Int), true⟩) :
    parse9 ((60 :: (s ++ [62])) ++ (A8.fmt a ++ (N ++ (A8.fmt b ++ ([44] ++ (Y ++ ([44] ++ dayF k' d' m' w' e' u'))))))) = .rule ⟨s, 0 - a, true, t, 0 - b, ⟨k, d, m, w, e, u⟩, ⟨k', d', m', w', e', u'⟩⟩ := by
  generalize hD : dayF k' d' m' w' e' u' = D
  have hday : day D = ⟨k', d', m', w', e', u', (D.length : Int), true⟩ := by
    have := day_form hv' (u := []) (Or.inl rfl)
    rw [List.append_nil, hD] at this
    exact this
  generalize hS : (60 :: (s ++ [62])) ++ (A8.fmt a ++ (N ++ (A8.fmt b ++ ([44] ++ (Y ++ ([44] ++ D)))))) = S
  have d0 : S.drop 0 = (60 :: (s ++ [62])) ++ (A8.fmt a ++ (N ++ (A8.fmt b ++ ([44] ++ (Y ++ ([44] ++ D)))))) := by rw [← hS]; rfl
  have d1 := drop_at d0
  have d2 := drop_at d1
  have d3 := drop_at d2
  have d4 := drop_at d3
  have hlen : S.length = 0 + (60 :: (s ++ [62])).length + (A8.fmt a).length + N.length + (A8.fmt b).length + (1 + (Y.length + (1 + D.length))) := by
    rw [← hS]; simp only [List.length_append, List.length_cons, List.length_nil]; omega
  unfold parse9
  rw [nameQ_at d0 (parse7Q _ hs), offQ_at d1 (parse8_fa (by omega) (by omega) (hA _)) (side_of a0 a1), if_pos (by rw [hlen]; omega)]
  unfold dstQ dstOffQ
  rw [nameQ_at d2 (hN _ (notA_fmt8 (by omega) (by omega) _))]
  have hp := parse8_fa (t := b) (by omega) (by omega) (aft44 (Y ++ ([44] ++ D)))
  rw [d3, hp, if_pos rfl, offQ_at d3 hp (side_of b0 b1)]
  exact days_at (by rw [hlen]; omega) d4 (hY _) hday (validRu_of hs ht (side_of (by omega) (by omega)) (side_of (by omega) (by omega)) hv hv')
/-- A rule whose daylight saving time has no offset. -/
theorem parse9_short {s t N Y : List UInt8} {a : Int} {k d m w e u k' d' m' w' e' u' : Int} (hs : A7.valid s = true) (ht : A7.valid t = true) (a0 : -86399 ≤ a) (a1 : a ≤ 89999)
    (hN : ∀ v, (v = [] ∨ A7.alphaB (v.getD 0 0) = false) → A7.parse (N ++ v) = (t, (N.length : Int), true)) (hA : ∀ v, Aft (N ++ v))
    (hv : validDay k d m w e u = true) (hv' : validDay k' d' m' w' e' u' = true) (hY : ∀ Z, day (Y ++ ([44] ++ Z)) = ⟨k, d, m, w, e, u, (Y.length : Int), true⟩) :
    parse9 ((60 :: (s ++ [62])) ++ (A8.fmt a ++ (N ++ ([44] ++ (Y ++ ([44] ++ dayF k' d' m' w' e' u')))))) = .rule ⟨s, 0 - a, true, t, 0 - a + 3600, ⟨k, d, m, w, e, u⟩, ⟨k', d', m', w', e', u'⟩⟩ := by
  generalize hD : dayF k' d' m' w' e' u' = D
  have hday : day D = ⟨k', d', m', w', e', u', (D.length : Int), true⟩ := by
    have := day_form hv' (u := []) (Or.inl rfl)
    rw [List.append_nil, hD] at this
    exact this
  generalize hS : (60 :: (s ++ [62])) ++ (A8.fmt a ++ (N ++ ([44] ++ (Y ++ ([44] ++ D))))) = S
  have d0 : S.drop 0 = (60 :: (s ++ [62])) ++ (A8.fmt a ++ (N ++ ([44] ++ (Y ++ ([44] ++ D))))) := by rw [← hS]; rfl
  have d1 := drop_at d0
  have d2 := drop_at d1
  have d3 := drop_at d2
  have hlen : S.length = 0 + (60 :: (s ++ [62])).length + (A8.fmt a).length + N.length + (1 + (Y.length + (1 + D.length))) := by
    rw [← hS]; simp only [List.length_append, List.length_cons, List.length_nil]; omega
  unfold parse9
  rw [nameQ_at d0 (parse7Q _ hs), offQ_at d1 (parse8_fa (by omega) (by omega) (hA _)) (side_of (by omega) a1), if_pos (by rw [hlen]; omega)]
  unfold dstQ dstOffQ
  rw [nameQ_at d2 (hN _ (Or.inr (show A7.alphaB 44 = false by decide)))]
  have hp : (A8.parse ([44] ++ (Y ++ ([44] ++ D)))).2.2 = false := by
    have : A8.parse ([44] ++ (Y ++ ([44] ++ D))) = A8.parse [] := parse8_c (c := 44) (Or.inr rfl) _ []
    rw [this]; decide
  rw [d3, hp, if_neg (by decide)]
  exact days_at (by rw [hlen]; omega) d3 (hY _) hday (validRu_of hs ht (side_of (by omega) (by omega)) (side_of (by omega) (by omega)) hv hv')
end Z09

set_option maxRecDepth 100000
namespace Z09
open Go Go.AE Go.Proofs
attribute [local irreducible] loopK evCode evSpec loopB norm

theorem f4_ev (s t : List UInt8) (a b k d m w e u k' d' m' w' e' u' : Int) (hs : s.length ≤ 9223372036854775807) (ht : t.length ≤ 9223372036854775807) (K : List AV → Prop) (hK : K [bo true]) :
    evSpec C7 Try.f4 [st s, st t, i64 a, i64 b, dayAV k d m w e u, dayAV k' d' m' w' e' u'] K := by
  have cut : evSpec C7 Try.f4 [st s, st t, i64 a, i64 b, dayAV k d m w e u, dayAV k' d' m' w' e' u'] K = evCode C7 a4 (e4 s t a b k d m w e u k' d' m' w' e' u') (fun x st => match x with
    | .normal => evCode C7 (.seq (q4 [.r, .r, .r, .l]) (q4 [.r, .r, .r, .r, .l])) st (fun x st => match x with
      | .normal => evCode C7 (q4 [.r, .r, .r, .r, .r, .l]) st (fun x st => match x with
        | .normal => evCode C7 (q4 [.r, .r, .r, .r, .r, .r]) st (finK C7 Try.f4 K)
        | x => finK C7 Try.f4 K x st)
      | x => finK C7 Try.f4 K x st)
    | x => finK C7 Try.f4 K x st) := by kernel_rfl
  rw [cut, f4_a]
  refine ⟨fun _ => hs, fun _ => ht, brn_intro (fun _ => Eq.mp (by kernel_rfl) hK) (fun h => ?_)⟩
  simp only [Bool.not_true, Bool.false_or, Bool.or_eq_false_iff, Bool.not_eq_false', decide_eq_false_iff_not] at h
  obtain ⟨⟨⟨⟨⟨⟨⟨hvs, hvt⟩, a0⟩, a1⟩, b0⟩, b1⟩, hv⟩, hv'⟩ := h
  have la := fmt_len (n := a) (by omega) (by omega)
  have lb := fmt_len (n := b) (by omega) (by omega)
  have ls := valid7_le hvs
  have lt := valid7_le hvt
  have ld := dayF_len hv
  have ld' := dayF_len hv'
  have lft : (A7.fmt t).length ≤ t.length + 2 := by
    unfold A7.fmt
    split
    · omega
    · simp
  have eF : [(60 : UInt8)] ++ s ++ [(62 : UInt8)] ++ A8.fmt a = 60 :: (s ++ [62]) ++ A8.fmt a := by simp
  have pF := parse9_std hvs (a := a) (by omega) (by omega)
  rw [← eF] at pF
  have lF : ([(60 : UInt8)] ++ s ++ [(62 : UInt8)] ++ A8.fmt a).length ≤ 300 := by simp; omega
  refine ⟨by simp; omega, by simp; omega, by omega, by omega, by simp; omega, ?_⟩
  generalize hF : [(60 : UInt8)] ++ s ++ [(62 : UInt8)] ++ A8.fmt a = F at pF lF ⊢
  have step1 : ∀ st', st' = S4 s t a b k d m w e u k' d' m' w' e' u' F (fun j => nth .dead st'.tmps j) → evCode C7 (.seq (q4 [.r, .r, .r, .l]) (q4 [.r, .r, .r, .r, .l])) st' (fun x st => match x with
      | .normal => evCode C7 (q4 [.r, .r, .r, .r, .r, .l]) st (fun x st => match x with
        | .normal => evCode C7 (q4 [.r, .r, .r, .r, .r, .r]) st (finK C7 Try.f4 K)
        | x => finK C7 Try.f4 K x st)
      | x => finK C7 Try.f4 K x st) := by
    intro st' hst
    rw [hst]
    generalize (fun j => nth .dead st'.tmps j) = T
    rw [f4_b1]
    have e1 : ruP F = stdR s (0 - a) := by unfold ruP; rw [pF]; rfl
    have e2 : whyP F = 0 := by unfold whyP; rw [pF]; rfl
    refine ⟨by omega, brn_intro (fun h => ?_) (fun _ => ?_)⟩
    · exfalso
      rw [e1, e2, wrap64 (by omega) (by omega)] at h
      simp [stdR, zD] at h
    have step2 : ∀ st' R x, st' = S4d s t a b k d m w e u k' d' m' w' e' u' F R x (fun j => nth .dead st'.tmps j) → evCode C7 (q4 [.r, .r, .r, .r, .r, .l]) st' (fun x st => match x with
        | .normal => evCode C7 (q4 [.r, .r, .r, .r, .r, .r]) st (finK C7 Try.f4 K)
        | x => finK C7 Try.f4 K x st) := by
      intro st' R x hst
      rw [hst]
      generalize (fun j => nth .dead st'.tmps j) = T
      rw [f4_b2]
      have eS : F ++ A7.fmt t ++ A8.fmt b ++ [44] ++ dayF k d m w e u ++ [44] ++ dayF k' d' m' w' e' u' = (60 :: (s ++ [62])) ++ (A8.fmt a ++ (A7.fmt t ++ (A8.fmt b ++ ([44] ++ (dayF k d m w e u ++ ([44] ++ dayF k' d' m' w' e' u')))))) := by
        rw [← hF]; simp
      have pS := parse9_full (a := a) (b := b) hvs hvt (by omega) (by omega) (by omega) (by omega) (fun v hv => parse7_fmt hvt hv) (aft_fmt7 hvt) hv hv' (fun Z => day_form hv (end44 Z))
      rw [← eS] at pS
      have lS : (F ++ A7.fmt t ++ A8.fmt b ++ [44] ++ dayF k d m w e u ++ [44] ++ dayF k' d' m' w' e' u').length ≤ 1000 := by simp only [List.length_append, List.length_cons, List.length_nil]; omega
      generalize hS : F ++ A7.fmt t ++ A8.fmt b ++ [44] ++ dayF k d m w e u ++ [44] ++ dayF k' d' m' w' e' u' = S at pS lS
      have step3 : ∀ st' R x, st' = S4b s t a b k d m w e u k' d' m' w' e' u' F S R x (fun j => nth .dead st'.tmps j) → evCode C7 (q4 [.r, .r, .r, .r, .r, .r]) st' (finK C7 Try.f4 K) := by
        intro st' R x hst
        rw [hst]
        generalize (fun j => nth .dead st'.tmps j) = T
        rw [f4_c]
        have e1 : ruP S = ⟨s, 0 - a, true, t, 0 - b, ⟨k, d, m, w, e, u⟩, ⟨k', d', m', w', e', u'⟩⟩ := by unfold ruP; rw [pS]; rfl
        have e2 : whyP S = 0 := by unfold whyP; rw [pS]; rfl
        refine ⟨by omega, ?_⟩
        rw [e1, e2, wrap64 (by omega) (by omega), wrap64 (by omega) (by omega)]
        have hb : ∀ b : Bool, b = true → K [AV.imm (IV.bool b)] := fun b h => by rw [h]; exact hK
        exact hb _ (by simp)
      rw [← hS] at step3
      repeat' refine And.intro ?_ ?_
      all_goals first
        | exact hv
        | exact hv'
        | (simp only [List.length_append, List.length_cons, List.length_nil]; omega)
        | omega
        | exact step3 _ R x (by kernel_rfl)
    exact step2 _ (ruP F).cells (i64 (whyP F)) (by kernel_rfl)
  exact step1 _ (by kernel_rfl)
end Z09

namespace Go.Proofs.Ytoliinccocdmgaa
open Go Go.AE Go.Proofs Z09
open Go.ChangeShapes Go.WideShapes Go.ChangeAt Go.RowKit Go.ChangeMaps
attribute [local irreducible] loopK evCode evSpec loopB norm k6 evFunc
theorem Try.own : ownKnob Try.prog.godebug = none := by kernel_rfl
set_option maxRecDepth 100000 in
theorem f4_lifted (os : Os) (started : os.Started) (H : Type) (enc : TypeId × Value → H) :
    ReturnsInHanded {} Try.checked os 4 .any (Rows.posixtzPartsSpec.pre6 enc Try.prog Try.f4 Rows.posixtzPartsRow.domain false) (Rows.posixtzPartsSpec.post enc Try.prog Try.f4 false true false false) := by
  refine returnsInHanded_of_change (C := Try.checked) Try.own started (by kernel_rfl) Try.func4
    (ChangeSpec.witness6 (enc := enc) (C := Try.checked) false ⟨#[], #[.string ⟨#[]⟩, .string ⟨#[]⟩, .int .i64 0, .int .i64 0, .agg #[.int .i64 0, .int .i64 0, .int .i64 0, .int .i64 0, .int .i64 0, .int .i64 0], .agg #[.int .i64 0, .int .i64 0, .int .i64 0, .int .i64 0, .int .i64 0, .int .i64 0]], []⟩ 8 (by kernel_rfl) (by kernel_rfl) (by kernel_rfl) (by kernel_rfl)) ?_
  intro W base args ds gs before hval0 hW hcnd _
  obtain ⟨l⟩ := args
  have hval : ∀ (j : Nat) t v, Try.f4.params[j]? = some t → l[j]? = some v → Value.okWide Try.prog W .any base t v := fun j t v h1 h2 => hval0 j t v h1 (by simpa using h2)
  have hW' := hW
  obtain ⟨p, q, hB, hV, rfl, hfz, hnd⟩ := hW
  obtain ⟨rfl, rfl⟩ := trodVars_none hV
  have hA0 : DataW.TrodAll enc Try.prog W 0 (fun _ => true) true [9, 9, 3, 3, 24, 24] l ds p := by have h := hB; rw [Try.params4] at h; exact h
  rw [Try.params4] at hval
  clear hB hval0
  obtain ⟨v0, l, d0, ds, p0, p, rfl, rfl, h0, hA1, rfl⟩ := all_cons hA0
  obtain ⟨v1, l, d1, ds, p1, p, rfl, rfl, h1, hA2, rfl⟩ := all_cons hA1
  obtain ⟨v2, l, d2, ds, p2, p, rfl, rfl, h2, hA3, rfl⟩ := all_cons hA2
  obtain ⟨v3, l, d3, ds, p3, p, rfl, rfl, h3, hA4, rfl⟩ := all_cons hA3
  obtain ⟨v4, l, d4, ds, p4, p, rfl, rfl, h4, hA5, rfl⟩ := all_cons hA4
  obtain ⟨v5, l, d5, ds, p5, p, rfl, rfl, h5, hA6, rfl⟩ := all_cons hA5
  obtain ⟨rfl, rfl, rfl⟩ := all_nil hA6
  obtain ⟨a0, rfl, rfl, rfl, w0⟩ := open_string Try.underlying9 (hval 0 9 v0 rfl rfl) h0
  have m0 : (bytesOf a0).length ≤ 9223372036854775807 := by rw [← size_bytes]; exact w0
  obtain ⟨a1, rfl, rfl, rfl, w1⟩ := open_string Try.underlying9 (hval 1 9 v1 rfl rfl) h1
  have m1 : (bytesOf a1).length ≤ 9223372036854775807 := by rw [← size_bytes]; exact w1
  obtain ⟨a2, rfl, rfl, rfl, w2⟩ := open_int Try.underlying3 (hval 2 3 v2 rfl rfl) h2
  have m2 := inR_wf w2
  obtain ⟨a3, rfl, rfl, rfl, w3⟩ := open_int Try.underlying3 (hval 3 3 v3 rfl rfl) h3
  have m3 := inR_wf w3
  obtain ⟨i4, l4, rfl, k4⟩ := open_flat Try.underlying24 (by kernel_rfl : flatK Try.prog 40 24 = some [(.int .i64), (.int .i64), (.int .i64), (.int .i64), (.int .i64), (.int .i64)]) (hval 4 24 v4 rfl rfl) h4
  have K4 := k4
  obtain ⟨n4a, i4, l4, rfl, rfl, m4a, k4⟩ := k4.cons_int
  obtain ⟨n4b, i4, l4, rfl, rfl, m4b, k4⟩ := k4.cons_int
  obtain ⟨n4c, i4, l4, rfl, rfl, m4c, k4⟩ := k4.cons_int
  obtain ⟨n4d, i4, l4, rfl, rfl, m4d, k4⟩ := k4.cons_int
  obtain ⟨n4e, i4, l4, rfl, rfl, m4e, k4⟩ := k4.cons_int
  obtain ⟨n4f, i4, l4, rfl, rfl, m4f, k4⟩ := k4.cons_int
  obtain ⟨rfl, rfl⟩ := k4.end
  obtain ⟨i5, l5, rfl, k5⟩ := open_flat Try.underlying24 (by kernel_rfl : flatK Try.prog 40 24 = some [(.int .i64), (.int .i64), (.int .i64), (.int .i64), (.int .i64), (.int .i64)]) (hval 5 24 v5 rfl rfl) h5
  have K5 := k5
  obtain ⟨n5a, i5, l5, rfl, rfl, m5a, k5⟩ := k5.cons_int
  obtain ⟨n5b, i5, l5, rfl, rfl, m5b, k5⟩ := k5.cons_int
  obtain ⟨n5c, i5, l5, rfl, rfl, m5c, k5⟩ := k5.cons_int
  obtain ⟨n5d, i5, l5, rfl, rfl, m5d, k5⟩ := k5.cons_int
  obtain ⟨n5e, i5, l5, rfl, rfl, m5e, k5⟩ := k5.cons_int
  obtain ⟨n5f, i5, l5, rfl, rfl, m5f, k5⟩ := k5.cons_int
  obtain ⟨rfl, rfl⟩ := k5.end
  have hspec := mk (pres := []) (args := [.imm (.str (bytesOf a0)), .imm (.str (bytesOf a1)), .imm (.int .i64 a2), .imm (.int .i64 a3), .agg [.imm (.int .i64 n4a), .imm (.int .i64 n4b), .imm (.int .i64 n4c), .imm (.int .i64 n4d), .imm (.int .i64 n4e), .imm (.int .i64 n4f)], .agg [.imm (.int .i64 n5a), .imm (.int .i64 n5b), .imm (.int .i64 n5c), .imm (.int .i64 n5d), .imm (.int .i64 n5e), .imm (.int .i64 n5f)]]) (res := [.imm (.bool true)]) okF7 at4 (by decide) rfl (fun _ K hK => f4_ev (bytesOf a0) (bytesOf a1) a2 a3 n4a n4b n4c n4d n4e n4f n5a n5b n5c n5d n5e n5f m0 m1 K hK)
  refine (bool_calls hspec (fun p h => by cases h) W _ rfl (fun j c hc => ?_) (fun n l h => by cases h)).mono fun e W' ⟨he, hw⟩ => ?_
  · match j with
    | 0 => simp only [List.getElem?_cons_zero, Option.some.injEq] at hc; subst hc; exact .imm (.str rfl m0)
    | 1 => simp only [List.getElem?_cons_succ, List.getElem?_cons_zero, Option.some.injEq] at hc; subst hc; exact .imm (.str rfl m1)
    | 2 => simp only [List.getElem?_cons_succ, List.getElem?_cons_zero, Option.some.injEq] at hc; subst hc; exact .imm (.int m2)
    | 3 => simp only [List.getElem?_cons_succ, List.getElem?_cons_zero, Option.some.injEq] at hc; subst hc; exact .imm (.int m3)
    | 4 => simp only [List.getElem?_cons_succ, List.getElem?_cons_zero, Option.some.injEq] at hc; subst hc; exact K4.arep
    | 5 => simp only [List.getElem?_cons_succ, List.getElem?_cons_zero, Option.some.injEq] at hc; subst hc; exact K5.arep
    | j + 6 => simp at hc
  subst he
  exact ⟨_, rfl, row_post hW' rfl (by kernel_rfl) (by kernel_rfl) rfl rfl Try.underlying4 hw⟩
theorem f4_holds : Rows.PosixtzPartsSaid :=
  OpenClaim.holds_of_wide 4 Try.f4 rfl rfl rfl rfl rfl rfl rfl ⟨rfl, rfl, rfl, rfl, rfl⟩ rfl rfl rfl rfl rfl (by kernel_rfl) Try.func4 (by kernel_rfl)
    (of_decide_eq_true (by kernel_rfl)) (by unfold Func.isWrapper; first | (rw [if_pos (by decide +kernel)]; kernel_rfl) | (rw [if_neg (by decide +kernel)]; exact ⟨rfl, rfl⟩))
    (fun os started H enc _ => f4_lifted os started H enc)
end Go.Proofs.Ytoliinccocdmgaa

