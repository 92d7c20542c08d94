/- For every string the law PosixtzAcceptsExactly returns true and its argument reads as before. No further condition. -/
import Derived.Test.YtoliinccocdmgaaAe4
import Derived.KernelRfl
import Derived.Test.YtoliinccocdmgaaRows
set_option linter.all false
set_option maxRecDepth 100000
namespace Z09
open Go Go.AE Go.Proofs
attribute [local irreducible] loopK evCode evSpec loopB norm
theorem f7_w (K : List AV → Prop) : evSpec CW Try.f7 [] K =
  ((((0 : Int) == (0 : Int) && decide (Ru.a w1r = [(69 : UInt8), (83 : UInt8), (84 : UInt8)]) &&
                  Ru.o w1r == (-18000 : Int) &&
                Ru.h w1r &&
              decide (Ru.b w1r = [(69 : UInt8), (68 : UInt8), (84 : UInt8)]) &&
            Ru.p w1r == (-14400 : Int) &&
          (Dv.k (Ru.S w1r) == (3 : Int) &&
            (Dv.d (Ru.S w1r) == (0 : Int) &&
              (Dv.m (Ru.S w1r) == (3 : Int) &&
                (Dv.w (Ru.S w1r) == (2 : Int) &&
                  (Dv.e (Ru.S w1r) == (0 : Int) && (Dv.t (Ru.S w1r) == (7200 : Int) && true)))))) &&
        Dv.m (Ru.E w1r) == (11 : Int)) =
      true →
    List.length (Ru.a w1r) ≤ (9223372036854775807 : Nat)) ∧
  (((0 : Int) == (0 : Int) && decide (Ru.a w1r = [(69 : UInt8), (83 : UInt8), (84 : UInt8)]) &&
                    Ru.o w1r == (-18000 : Int) &&
                  Ru.h w1r &&
                decide (Ru.b w1r = [(69 : UInt8), (68 : UInt8), (84 : UInt8)]) &&
              Ru.p w1r == (-14400 : Int) &&
            (Dv.k (Ru.S w1r) == (3 : Int) &&
              (Dv.d (Ru.S w1r) == (0 : Int) &&
                (Dv.m (Ru.S w1r) == (3 : Int) &&
                  (Dv.w (Ru.S w1r) == (2 : Int) &&
                    (Dv.e (Ru.S w1r) == (0 : Int) && (Dv.t (Ru.S w1r) == (7200 : Int) && true)))))) &&
          Dv.m (Ru.E w1r) == (11 : Int)) =
        true →
      List.length (Ru.b w1r) ≤ (9223372036854775807 : Nat)) ∧
    (((0 : Int) == (0 : Int) && decide (Ru.a w1r = [(69 : UInt8), (83 : UInt8), (84 : UInt8)]) &&
                                              Ru.o w1r == (-18000 : Int) &&
                                            Ru.h w1r &&
                                          decide (Ru.b w1r = [(69 : UInt8), (68 : UInt8), (84 : UInt8)]) &&
                                        Ru.p w1r == (-14400 : Int) &&
                                      (Dv.k (Ru.S w1r) == (3 : Int) &&
                                        (Dv.d (Ru.S w1r) == (0 : Int) &&
                                          (Dv.m (Ru.S w1r) == (3 : Int) &&
                                            (Dv.w (Ru.S w1r) == (2 : Int) &&
                                              (Dv.e (Ru.S w1r) == (0 : Int) &&
                                                (Dv.t (Ru.S w1r) == (7200 : Int) && true)))))) &&
                                    Dv.m (Ru.E w1r) == (11 : Int) &&
                                  validRule (Ru.a w1r) (Ru.o w1r) (Ru.h w1r) (Ru.b w1r) (Ru.p w1r) (Dv.k (Ru.S w1r))
                                    (Dv.d (Ru.S w1r)) (Dv.m (Ru.S w1r)) (Dv.w (Ru.S w1r)) (Dv.e (Ru.S w1r))
                                    (Dv.t (Ru.S w1r)) (Dv.k (Ru.E w1r)) (Dv.d (Ru.E w1r)) (Dv.m (Ru.E w1r))
                                    (Dv.w (Ru.E w1r)) (Dv.e (Ru.E w1r)) (Dv.t (Ru.E w1r)) &&
                                (0 : Int) == (0 : Int) &&
                              (decide
                                  (Ru.a w2r = [(43 : UInt8), (48 : UInt8), (51 : UInt8), (51 : UInt8), (48 : UInt8)]) &&
                                (Ru.o w2r == (12600 : Int) &&
                                  (Ru.h w2r == false &&
                                    (decide (Ru.b w2r = []) &&
                                      (Ru.p w2r == (0 : Int) &&
                                        (Dv.k (Ru.S w2r) == (0 : Int) &&
                                            (Dv.d (Ru.S w2r) == (0 : Int) &&
                                              (Dv.m (Ru.S w2r) == (0 : Int) &&
                                                (Dv.w (Ru.S w2r) == (0 : Int) &&
                                                  (Dv.e (Ru.S w2r) == (0 : Int) &&
                                                    (Dv.t (Ru.S w2r) == (0 : Int) && true))))) &&
                                          (Dv.k (Ru.E w2r) == (0 : Int) &&
                                              (Dv.d (Ru.E w2r) == (0 : Int) &&
                                                (Dv.m (Ru.E w2r) == (0 : Int) &&
                                                  (Dv.w (Ru.E w2r) == (0 : Int) &&
                                                    (Dv.e (Ru.E w2r) == (0 : Int) &&
                                                      (Dv.t (Ru.E w2r) == (0 : Int) && true))))) &&
                                            true))))))) &&
                            (14 : Int) == (14 : Int) &&
                          (7 : Int) == (7 : Int) &&
                        (14 : Int) == (14 : Int) &&
                      (15 : Int) == (15 : Int) &&
                    (14 : Int) == (14 : Int) &&
                  (3 : Int) == (3 : Int) &&
                ((1 : Int) == (1 : Int) &&
                  ((365 : Int) == (365 : Int) &&
                    ((0 : Int) == (0 : Int) &&
                      ((0 : Int) == (0 : Int) &&
                        ((0 : Int) == (0 : Int) && ((90000 : Int) == (90000 : Int) && true)))))) &&
              (7 : Int) == (7 : Int) &&
            true) =
          true →
        List.length ([] : List UInt8) ≤ (9223372036854775807 : Nat)) ∧
      (((0 : Int) == (0 : Int) && decide (Ru.a w1r = [(69 : UInt8), (83 : UInt8), (84 : UInt8)]) &&
                                                Ru.o w1r == (-18000 : Int) &&
                                              Ru.h w1r &&
                                            decide (Ru.b w1r = [(69 : UInt8), (68 : UInt8), (84 : UInt8)]) &&
                                          Ru.p w1r == (-14400 : Int) &&
                                        (Dv.k (Ru.S w1r) == (3 : Int) &&
                                          (Dv.d (Ru.S w1r) == (0 : Int) &&
                                            (Dv.m (Ru.S w1r) == (3 : Int) &&
                                              (Dv.w (Ru.S w1r) == (2 : Int) &&
                                                (Dv.e (Ru.S w1r) == (0 : Int) &&
                                                  (Dv.t (Ru.S w1r) == (7200 : Int) && true)))))) &&
                                      Dv.m (Ru.E w1r) == (11 : Int) &&
                                    validRule (Ru.a w1r) (Ru.o w1r) (Ru.h w1r) (Ru.b w1r) (Ru.p w1r) (Dv.k (Ru.S w1r))
                                      (Dv.d (Ru.S w1r)) (Dv.m (Ru.S w1r)) (Dv.w (Ru.S w1r)) (Dv.e (Ru.S w1r))
                                      (Dv.t (Ru.S w1r)) (Dv.k (Ru.E w1r)) (Dv.d (Ru.E w1r)) (Dv.m (Ru.E w1r))
                                      (Dv.w (Ru.E w1r)) (Dv.e (Ru.E w1r)) (Dv.t (Ru.E w1r)) &&
                                  (0 : Int) == (0 : Int) &&
                                (decide
                                    (Ru.a w2r =
                                      [(43 : UInt8), (48 : UInt8), (51 : UInt8), (51 : UInt8), (48 : UInt8)]) &&
                                  (Ru.o w2r == (12600 : Int) &&
                                    (Ru.h w2r == false &&
                                      (decide (Ru.b w2r = []) &&
                                        (Ru.p w2r == (0 : Int) &&
                                          (Dv.k (Ru.S w2r) == (0 : Int) &&
                                              (Dv.d (Ru.S w2r) == (0 : Int) &&
                                                (Dv.m (Ru.S w2r) == (0 : Int) &&
                                                  (Dv.w (Ru.S w2r) == (0 : Int) &&
                                                    (Dv.e (Ru.S w2r) == (0 : Int) &&
                                                      (Dv.t (Ru.S w2r) == (0 : Int) && true))))) &&
                                            (Dv.k (Ru.E w2r) == (0 : Int) &&
                                                (Dv.d (Ru.E w2r) == (0 : Int) &&
                                                  (Dv.m (Ru.E w2r) == (0 : Int) &&
                                                    (Dv.w (Ru.E w2r) == (0 : Int) &&
                                                      (Dv.e (Ru.E w2r) == (0 : Int) &&
                                                        (Dv.t (Ru.E w2r) == (0 : Int) && true))))) &&
                                              true))))))) &&
                              (14 : Int) == (14 : Int) &&
                            (7 : Int) == (7 : Int) &&
                          (14 : Int) == (14 : Int) &&
                        (15 : Int) == (15 : Int) &&
                      (14 : Int) == (14 : Int) &&
                    (3 : Int) == (3 : Int) &&
                  ((1 : Int) == (1 : Int) &&
                    ((365 : Int) == (365 : Int) &&
                      ((0 : Int) == (0 : Int) &&
                        ((0 : Int) == (0 : Int) &&
                          ((0 : Int) == (0 : Int) && ((90000 : Int) == (90000 : Int) && true)))))) &&
                (7 : Int) == (7 : Int) &&
              true) =
            true →
          List.length ([] : List UInt8) ≤ (9223372036854775807 : Nat)) ∧
        K [AV.imm (IV.bool true)]) := by kernel_rfl
theorem f3_in (s : List UInt8) (K : List AV → Prop) : evSpec C7 Try.f3 [st s] K =
  (brn (!true || decide ((↑(List.length s) : Int) > (1000 : Int))) (K [AV.imm (IV.bool true)])
  ((↑(List.length s) : Int) ≤ (1000000000000000000 : Int) ∧
    brn (whyP s != (0 : Int))
      (K
        [AV.imm
            (IV.bool
              (whyP s == (14 : Int) &&
                    (decide (Ru.a (ruP s) = []) &&
                      (Ru.o (ruP s) == (0 : Int) &&
                        (Ru.h (ruP s) == false &&
                          (decide (Ru.b (ruP s) = []) &&
                            (Ru.p (ruP s) == (0 : Int) &&
                              (Dv.k (Ru.S (ruP s)) == (0 : Int) &&
                                  (Dv.d (Ru.S (ruP s)) == (0 : Int) &&
                                    (Dv.m (Ru.S (ruP s)) == (0 : Int) &&
                                      (Dv.w (Ru.S (ruP s)) == (0 : Int) &&
                                        (Dv.e (Ru.S (ruP s)) == (0 : Int) &&
                                          (Dv.t (Ru.S (ruP s)) == (0 : Int) && true))))) &&
                                (Dv.k (Ru.E (ruP s)) == (0 : Int) &&
                                    (Dv.d (Ru.E (ruP s)) == (0 : Int) &&
                                      (Dv.m (Ru.E (ruP s)) == (0 : Int) &&
                                        (Dv.w (Ru.E (ruP s)) == (0 : Int) &&
                                          (Dv.e (Ru.E (ruP s)) == (0 : Int) &&
                                            (Dv.t (Ru.E (ruP s)) == (0 : Int) && true))))) &&
                                  true))))))) &&
                  decide (atP s ≥ (0 : Int)) &&
                decide (atP s ≤ (↑(List.length s) : Int))))])
      (List.length s + List.length [(32 : UInt8)] ≤ (9223372036854775807 : Nat) ∧
        (↑(List.length (s ++ [(32 : UInt8)])) : Int) ≤ (1000000000000000000 : Int) ∧
          ((atP s == (0 : Int)) = true → List.length (Ru.a (ruP s)) ≤ (9223372036854775807 : Nat)) ∧
            ((atP s == (0 : Int)) = true → List.length (Ru.b (ruP s)) ≤ (9223372036854775807 : Nat)) ∧
              K
                [AV.imm
                    (IV.bool
                      (atP s == (0 : Int) &&
                            validRule (Ru.a (ruP s)) (Ru.o (ruP s)) (Ru.h (ruP s)) (Ru.b (ruP s)) (Ru.p (ruP s))
                              (Dv.k (Ru.S (ruP s))) (Dv.d (Ru.S (ruP s))) (Dv.m (Ru.S (ruP s))) (Dv.w (Ru.S (ruP s)))
                              (Dv.e (Ru.S (ruP s))) (Dv.t (Ru.S (ruP s))) (Dv.k (Ru.E (ruP s))) (Dv.d (Ru.E (ruP s)))
                              (Dv.m (Ru.E (ruP s))) (Dv.w (Ru.E (ruP s))) (Dv.e (Ru.E (ruP s))) (Dv.t (Ru.E (ruP s))) &&
                          whyP (s ++ [(32 : UInt8)]) == (14 : Int) &&
                        atP (s ++ [(32 : UInt8)]) == (↑(List.length s) : Int)))]))) := by kernel_rfl
theorem f6_in (k : Int) (d : Int) (m : Int) (w : Int) (e : Int) (u : Int) (K : List AV →
  Prop) : evSpec C7 Try.f6 [dayAV k d m w e u] K =
  (brn (!true || !validDay k d m w e u) (K [AV.imm (IV.bool true)])
  (validDay k d m w e u = true ∧
    List.length (dayF k d m w e u) + List.length [(44 : UInt8), (74 : UInt8), (49 : UInt8)] ≤
        (9223372036854775807 : Nat) ∧
      (↑(List.length (dayF k d m w e u ++ [(44 : UInt8), (74 : UInt8), (49 : UInt8)])) : Int) ≤ big - (20 : Int) ∧
        validDay k d m w e (7200 : Int) = true ∧
          (0 : Int) ≤ IntKind.wrap IntKind.i64 ((↑(List.length (dayF k d m w e (7200 : Int))) : Int) - (2 : Int)) ∧
            IntKind.wrap IntKind.i64 ((↑(List.length (dayF k d m w e (7200 : Int))) : Int) - (2 : Int)) ≤
                (↑(List.length (dayF k d m w e (7200 : Int))) : Int) ∧
              List.length
                      (List.take
                        (Int.toNat
                            (IntKind.wrap IntKind.i64
                              ((↑(List.length (dayF k d m w e (7200 : Int))) : Int) - (2 : Int))) -
                          (0 : Nat))
                        (List.drop (0 : Nat) (dayF k d m w e (7200 : Int)))) +
                    List.length [(44 : UInt8), (74 : UInt8), (49 : UInt8)] ≤
                  (9223372036854775807 : Nat) ∧
                (↑(List.length
                          (List.take
                              (Int.toNat
                                  (IntKind.wrap IntKind.i64
                                    ((↑(List.length (dayF k d m w e (7200 : Int))) : Int) - (2 : Int))) -
                                (0 : Nat))
                              (List.drop (0 : Nat) (dayF k d m w e (7200 : Int))) ++
                            [(44 : UInt8), (74 : UInt8), (49 : UInt8)])) :
                      Int) ≤
                    big - (20 : Int) ∧
                  K
                    [AV.imm
                        (IV.bool
                          (Dy.ok (day (dayF k d m w e u ++ [(44 : UInt8), (74 : UInt8), (49 : UInt8)])) &&
                                    (Dy.k (day (dayF k d m w e u ++ [(44 : UInt8), (74 : UInt8), (49 : UInt8)])) == k &&
                                      (Dy.d (day (dayF k d m w e u ++ [(44 : UInt8), (74 : UInt8), (49 : UInt8)])) ==
                                          d &&
                                        (Dy.m (day (dayF k d m w e u ++ [(44 : UInt8), (74 : UInt8), (49 : UInt8)])) ==
                                            m &&
                                          (Dy.w
                                                (day
                                                  (dayF k d m w e u ++ [(44 : UInt8), (74 : UInt8), (49 : UInt8)])) ==
                                              w &&
                                            (Dy.e
                                                  (day
                                                    (dayF k d m w e u ++ [(44 : UInt8), (74 : UInt8), (49 : UInt8)])) ==
                                                e &&
                                              (Dy.t
                                                    (day
                                                      (dayF k d m w e u ++
                                                        [(44 : UInt8), (74 : UInt8), (49 : UInt8)])) ==
                                                  u &&
                                                true)))))) &&
                                  Dy.n (day (dayF k d m w e u ++ [(44 : UInt8), (74 : UInt8), (49 : UInt8)])) ==
                                    (↑(List.length (dayF k d m w e u)) : Int) &&
                                Dy.ok
                                  (day
                                    (List.take
                                        (Int.toNat
                                            (IntKind.wrap IntKind.i64
                                              ((↑(List.length (dayF k d m w e (7200 : Int))) : Int) - (2 : Int))) -
                                          (0 : Nat))
                                        (List.drop (0 : Nat) (dayF k d m w e (7200 : Int))) ++
                                      [(44 : UInt8), (74 : UInt8), (49 : UInt8)])) &&
                              (Dy.k
                                    (day
                                      (List.take
                                          (Int.toNat
                                              (IntKind.wrap IntKind.i64
                                                ((↑(List.length (dayF k d m w e (7200 : Int))) : Int) - (2 : Int))) -
                                            (0 : Nat))
                                          (List.drop (0 : Nat) (dayF k d m w e (7200 : Int))) ++
                                        [(44 : UInt8), (74 : UInt8), (49 : UInt8)])) ==
                                  k &&
                                (Dy.d
                                      (day
                                        (List.take
                                            (Int.toNat
                                                (IntKind.wrap IntKind.i64
                                                  ((↑(List.length (dayF k d m w e (7200 : Int))) : Int) - (2 : Int))) -
                                              (0 : Nat))
                                            (List.drop (0 : Nat) (dayF k d m w e (7200 : Int))) ++
                                          [(44 : UInt8), (74 : UInt8), (49 : UInt8)])) ==
                                    d &&
                                  (Dy.m
                                        (day
                                          (List.take
                                              (Int.toNat
                                                  (IntKind.wrap IntKind.i64
                                                    ((↑(List.length (dayF k d m w e (7200 : Int))) : Int) -
                                                      (2 : Int))) -
                                                (0 : Nat))
                                              (List.drop (0 : Nat) (dayF k d m w e (7200 : Int))) ++
                                            [(44 : UInt8), (74 : UInt8), (49 : UInt8)])) ==
                                      m &&
                                    (Dy.w
                                          (day
                                            (List.take
                                                (Int.toNat
                                                    (IntKind.wrap IntKind.i64
                                                      ((↑(List.length (dayF k d m w e (7200 : Int))) : Int) -
                                                        (2 : Int))) -
                                                  (0 : Nat))
                                                (List.drop (0 : Nat) (dayF k d m w e (7200 : Int))) ++
                                              [(44 : UInt8), (74 : UInt8), (49 : UInt8)])) ==
                                        w &&
                                      (Dy.e
                                            (day
                                              (List.take
                                                  (Int.toNat
                                                      (IntKind.wrap IntKind.i64
                                                        ((↑(List.length (dayF k d m w e (7200 : Int))) : Int) -
                                                          (2 : Int))) -
                                                    (0 : Nat))
                                                  (List.drop (0 : Nat) (dayF k d m w e (7200 : Int))) ++
                                                [(44 : UInt8), (74 : UInt8), (49 : UInt8)])) ==
                                          e &&
                                        (Dy.t
                                              (day
                                                (List.take
                                                    (Int.toNat
                                                        (IntKind.wrap IntKind.i64
                                                          ((↑(List.length (dayF k d m w e (7200 : Int))) : Int) -
                                                            (2 : Int))) -
                                                      (0 : Nat))
                                                    (List.drop (0 : Nat) (dayF k d m w e (7200 : Int))) ++
                                                  [(44 : UInt8), (74 : UInt8), (49 : UInt8)])) ==
                                            (7200 : Int) &&
                                          true)))))) &&
                            Dy.n
                                (day
                                  (List.take
                                      (Int.toNat
                                          (IntKind.wrap IntKind.i64
                                            ((↑(List.length (dayF k d m w e (7200 : Int))) : Int) - (2 : Int))) -
                                        (0 : Nat))
                                      (List.drop (0 : Nat) (dayF k d m w e (7200 : Int))) ++
                                    [(44 : UInt8), (74 : UInt8), (49 : UInt8)])) ==
                              (↑(List.length
                                    (List.take
                                      (Int.toNat
                                          (IntKind.wrap IntKind.i64
                                            ((↑(List.length (dayF k d m w e (7200 : Int))) : Int) - (2 : Int))) -
                                        (0 : Nat))
                                      (List.drop (0 : Nat) (dayF k d m w e (7200 : Int))))) :
                                Int)))])) := by kernel_rfl
theorem f4_a (s : List
  UInt8) (t : List
  UInt8) (a : Int) (b : Int) (k : Int) (d : Int) (m : Int) (w : Int) (e : Int) (u : Int) (k' : Int) (d' : Int) (m' : Int) (w' : Int) (e' : Int) (u' : Int) (K : AX →
  St → Prop) : evCode C7 a4 (e4 s t a b k d m w e u k' d' m' w' e' u') K =
  (((!true) = false → List.length s ≤ (9223372036854775807 : Nat)) ∧
  ((!true || !A7.valid s) = false → List.length t ≤ (9223372036854775807 : Nat)) ∧
    brn
      (!true || !A7.valid s || !A7.valid t || decide (a < (-89999 : Int)) || decide (a > (89999 : Int)) ||
              decide (b < (-89999 : Int)) ||
            decide (b > (89999 : Int)) ||
          !validDay k d m w e u ||
        !validDay k' d' m' w' e' u')
      (K AX.ret
        (St.mk
          [AV.imm (IV.str s), AV.imm (IV.str t), AV.imm (IV.int IntKind.i64 a), AV.imm (IV.int IntKind.i64 b),
            AV.agg
              [AV.imm (IV.int IntKind.i64 k), AV.imm (IV.int IntKind.i64 d), AV.imm (IV.int IntKind.i64 m),
                AV.imm (IV.int IntKind.i64 w), AV.imm (IV.int IntKind.i64 e), AV.imm (IV.int IntKind.i64 u)],
            AV.agg
              [AV.imm (IV.int IntKind.i64 k'), AV.imm (IV.int IntKind.i64 d'), AV.imm (IV.int IntKind.i64 m'),
                AV.imm (IV.int IntKind.i64 w'), AV.imm (IV.int IntKind.i64 e'), AV.imm (IV.int IntKind.i64 u')],
            AV.dead, AV.dead, AV.dead, AV.dead, AV.ptr (0 : Nat) (0 : Nat), AV.ptr (1 : Nat) (0 : Nat),
            AV.imm (IV.bool true), AV.dead, AV.dead, AV.dead, AV.dead, AV.dead, AV.dead, AV.dead, AV.dead, AV.dead,
            AV.imm (IV.bool true), AV.imm (IV.bool false), AV.imm (IV.bool false),
            AV.opt [((24 : Nat), false)] (AV.imm (IV.str s)),
            AV.opt [((24 : Nat), false)] (AV.imm (IV.bool (A7.valid s))),
            AV.opt [((24 : Nat), false)] (AV.imm (IV.bool !A7.valid s)), AV.imm (IV.bool (!true || !A7.valid s)),
            AV.imm (IV.bool (!true || !A7.valid s)), AV.opt [((29 : Nat), false)] (AV.imm (IV.str t)),
            AV.opt [((29 : Nat), false)] (AV.imm (IV.bool (A7.valid t))),
            AV.opt [((29 : Nat), false)] (AV.imm (IV.bool !A7.valid t)),
            AV.imm (IV.bool (!true || !A7.valid s || !A7.valid t)),
            AV.imm (IV.bool (!true || !A7.valid s || !A7.valid t)),
            AV.opt [((34 : Nat), false)] (AV.imm (IV.int IntKind.i64 a)),
            AV.opt [((34 : Nat), false)] (AV.imm (IV.bool (decide (a < (-89999 : Int))))),
            AV.imm (IV.bool (!true || !A7.valid s || !A7.valid t || decide (a < (-89999 : Int)))),
            AV.imm (IV.bool (!true || !A7.valid s || !A7.valid t || decide (a < (-89999 : Int)))),
            AV.opt [((38 : Nat), false)] (AV.imm (IV.int IntKind.i64 a)),
            AV.opt [((38 : Nat), false)] (AV.imm (IV.bool (decide (a > (89999 : Int))))),
            AV.imm
              (IV.bool
                (!true || !A7.valid s || !A7.valid t || decide (a < (-89999 : Int)) || decide (a > (89999 : Int)))),
            AV.imm
              (IV.bool
                (!true || !A7.valid s || !A7.valid t || decide (a < (-89999 : Int)) || decide (a > (89999 : Int)))),
            AV.opt [((42 : Nat), false)] (AV.imm (IV.int IntKind.i64 b)),
            AV.opt [((42 : Nat), false)] (AV.imm (IV.bool (decide (b < (-89999 : Int))))),
            AV.imm
              (IV.bool
                (!true || !A7.valid s || !A7.valid t || decide (a < (-89999 : Int)) || decide (a > (89999 : Int)) ||
                  decide (b < (-89999 : Int)))),
            AV.imm
              (IV.bool
                (!true || !A7.valid s || !A7.valid t || decide (a < (-89999 : Int)) || decide (a > (89999 : Int)) ||
                  decide (b < (-89999 : Int)))),
            AV.opt [((46 : Nat), false)] (AV.imm (IV.int IntKind.i64 b)),
            AV.opt [((46 : Nat), false)] (AV.imm (IV.bool (decide (b > (89999 : Int))))),
            AV.imm
              (IV.bool
                (!true || !A7.valid s || !A7.valid t || decide (a < (-89999 : Int)) || decide (a > (89999 : Int)) ||
                    decide (b < (-89999 : Int)) ||
                  decide (b > (89999 : Int)))),
            AV.imm
              (IV.bool
                (!true || !A7.valid s || !A7.valid t || decide (a < (-89999 : Int)) || decide (a > (89999 : Int)) ||
                    decide (b < (-89999 : Int)) ||
                  decide (b > (89999 : Int)))),
            AV.opt [((50 : Nat), false)]
              (AV.agg
                [AV.imm (IV.int IntKind.i64 k), AV.imm (IV.int IntKind.i64 d), AV.imm (IV.int IntKind.i64 m),
                  AV.imm (IV.int IntKind.i64 w), AV.imm (IV.int IntKind.i64 e), AV.imm (IV.int IntKind.i64 u)]),
            AV.opt [((50 : Nat), false)] (AV.imm (IV.bool (validDay k d m w e u))),
            AV.opt [((50 : Nat), false)] (AV.imm (IV.bool !validDay k d m w e u)),
            AV.imm
              (IV.bool
                (!true || !A7.valid s || !A7.valid t || decide (a < (-89999 : Int)) || decide (a > (89999 : Int)) ||
                      decide (b < (-89999 : Int)) ||
                    decide (b > (89999 : Int)) ||
                  !validDay k d m w e u)),
            AV.imm
              (IV.bool
                (!true || !A7.valid s || !A7.valid t || decide (a < (-89999 : Int)) || decide (a > (89999 : Int)) ||
                      decide (b < (-89999 : Int)) ||
                    decide (b > (89999 : Int)) ||
                  !validDay k d m w e u)),
            AV.opt [((55 : Nat), false)]
              (AV.agg
                [AV.imm (IV.int IntKind.i64 k'), AV.imm (IV.int IntKind.i64 d'), AV.imm (IV.int IntKind.i64 m'),
                  AV.imm (IV.int IntKind.i64 w'), AV.imm (IV.int IntKind.i64 e'), AV.imm (IV.int IntKind.i64 u')]),
            AV.opt [((55 : Nat), false)] (AV.imm (IV.bool (validDay k' d' m' w' e' u'))),
            AV.opt [((55 : Nat), false)] (AV.imm (IV.bool !validDay k' d' m' w' e' u')),
            AV.imm
              (IV.bool
                (!true || !A7.valid s || !A7.valid t || decide (a < (-89999 : Int)) || decide (a > (89999 : Int)) ||
                        decide (b < (-89999 : Int)) ||
                      decide (b > (89999 : Int)) ||
                    !validDay k d m w e u ||
                  !validDay k' d' m' w' e' u')),
            AV.imm (IV.bool true), AV.dead, AV.dead, AV.dead, AV.dead, AV.dead, AV.dead, AV.dead, AV.dead, AV.dead,
            AV.dead, AV.dead, AV.dead, AV.dead, AV.dead, AV.dead, AV.dead, AV.dead, AV.dead, AV.dead, AV.dead, AV.dead,
            AV.dead, AV.dead, AV.dead, AV.dead, AV.dead, AV.dead, AV.dead, AV.dead, AV.dead, AV.dead, AV.dead, AV.dead,
            AV.dead, AV.dead, AV.dead, AV.dead, AV.dead, AV.dead, AV.dead, AV.dead, AV.dead, AV.dead, AV.dead, AV.dead,
            AV.dead, AV.dead, AV.dead, AV.dead, AV.dead, AV.dead, AV.dead, AV.dead, AV.dead, AV.dead, AV.dead, AV.dead,
            AV.dead, AV.dead]
          [((0 : Nat),
              Ob.mk true (0 : Nat)
                (AObj.cells
                  [AV.imm (IV.int IntKind.i64 k), AV.imm (IV.int IntKind.i64 d), AV.imm (IV.int IntKind.i64 m),
                    AV.imm (IV.int IntKind.i64 w), AV.imm (IV.int IntKind.i64 e), AV.imm (IV.int IntKind.i64 u)])),
            ((1 : Nat),
              Ob.mk true (0 : Nat)
                (AObj.cells
                  [AV.imm (IV.int IntKind.i64 k'), AV.imm (IV.int IntKind.i64 d'), AV.imm (IV.int IntKind.i64 m'),
                    AV.imm (IV.int IntKind.i64 w'), AV.imm (IV.int IntKind.i64 e'), AV.imm (IV.int IntKind.i64 u')]))]
          (2 : Nat) []))
      (List.length [(60 : UInt8)] + List.length s ≤ (9223372036854775807 : Nat) ∧
        List.length ([(60 : UInt8)] ++ s) + List.length [(62 : UInt8)] ≤ (9223372036854775807 : Nat) ∧
          (-604799 : Int) ≤ a ∧
            a ≤ (604799 : Int) ∧
              List.length ([(60 : UInt8)] ++ s ++ [(62 : UInt8)]) + List.length (A8.fmt a) ≤
                  (9223372036854775807 : Nat) ∧
                K AX.normal
                  (St.mk
                    [AV.imm (IV.str s), AV.imm (IV.str t), AV.imm (IV.int IntKind.i64 a), AV.imm (IV.int IntKind.i64 b),
                      AV.agg
                        [AV.imm (IV.int IntKind.i64 k), AV.imm (IV.int IntKind.i64 d), AV.imm (IV.int IntKind.i64 m),
                          AV.imm (IV.int IntKind.i64 w), AV.imm (IV.int IntKind.i64 e), AV.imm (IV.int IntKind.i64 u)],
                      AV.agg
                        [AV.imm (IV.int IntKind.i64 k'), AV.imm (IV.int IntKind.i64 d'), AV.imm (IV.int IntKind.i64 m'),
                          AV.imm (IV.int IntKind.i64 w'), AV.imm (IV.int IntKind.i64 e'),
                          AV.imm (IV.int IntKind.i64 u')],
                      AV.dead, AV.dead, AV.dead, AV.dead, AV.ptr (0 : Nat) (0 : Nat), AV.ptr (1 : Nat) (0 : Nat),
                      AV.imm (IV.bool false), AV.imm (IV.str ([(60 : UInt8)] ++ s ++ [(62 : UInt8)] ++ A8.fmt a)),
                      AV.dead, AV.dead, AV.dead, AV.dead, AV.dead, AV.dead, AV.dead, AV.dead, AV.imm (IV.bool true),
                      AV.imm (IV.bool false), AV.imm (IV.bool false), AV.opt [((24 : Nat), false)] (AV.imm (IV.str s)),
                      AV.opt [((24 : Nat), false)] (AV.imm (IV.bool (A7.valid s))),
                      AV.opt [((24 : Nat), false)] (AV.imm (IV.bool !A7.valid s)),
                      AV.imm (IV.bool (!true || !A7.valid s)), AV.imm (IV.bool (!true || !A7.valid s)),
                      AV.opt [((29 : Nat), false)] (AV.imm (IV.str t)),
                      AV.opt [((29 : Nat), false)] (AV.imm (IV.bool (A7.valid t))),
                      AV.opt [((29 : Nat), false)] (AV.imm (IV.bool !A7.valid t)),
                      AV.imm (IV.bool (!true || !A7.valid s || !A7.valid t)),
                      AV.imm (IV.bool (!true || !A7.valid s || !A7.valid t)),
                      AV.opt [((34 : Nat), false)] (AV.imm (IV.int IntKind.i64 a)),
                      AV.opt [((34 : Nat), false)] (AV.imm (IV.bool (decide (a < (-89999 : Int))))),
                      AV.imm (IV.bool (!true || !A7.valid s || !A7.valid t || decide (a < (-89999 : Int)))),
                      AV.imm (IV.bool (!true || !A7.valid s || !A7.valid t || decide (a < (-89999 : Int)))),
                      AV.opt [((38 : Nat), false)] (AV.imm (IV.int IntKind.i64 a)),
                      AV.opt [((38 : Nat), false)] (AV.imm (IV.bool (decide (a > (89999 : Int))))),
                      AV.imm
                        (IV.bool
                          (!true || !A7.valid s || !A7.valid t || decide (a < (-89999 : Int)) ||
                            decide (a > (89999 : Int)))),
                      AV.imm
                        (IV.bool
                          (!true || !A7.valid s || !A7.valid t || decide (a < (-89999 : Int)) ||
                            decide (a > (89999 : Int)))),
                      AV.opt [((42 : Nat), false)] (AV.imm (IV.int IntKind.i64 b)),
                      AV.opt [((42 : Nat), false)] (AV.imm (IV.bool (decide (b < (-89999 : Int))))),
                      AV.imm
                        (IV.bool
                          (!true || !A7.valid s || !A7.valid t || decide (a < (-89999 : Int)) ||
                              decide (a > (89999 : Int)) ||
                            decide (b < (-89999 : Int)))),
                      AV.imm
                        (IV.bool
                          (!true || !A7.valid s || !A7.valid t || decide (a < (-89999 : Int)) ||
                              decide (a > (89999 : Int)) ||
                            decide (b < (-89999 : Int)))),
                      AV.opt [((46 : Nat), false)] (AV.imm (IV.int IntKind.i64 b)),
                      AV.opt [((46 : Nat), false)] (AV.imm (IV.bool (decide (b > (89999 : Int))))),
                      AV.imm
                        (IV.bool
                          (!true || !A7.valid s || !A7.valid t || decide (a < (-89999 : Int)) ||
                                decide (a > (89999 : Int)) ||
                              decide (b < (-89999 : Int)) ||
                            decide (b > (89999 : Int)))),
                      AV.imm
                        (IV.bool
                          (!true || !A7.valid s || !A7.valid t || decide (a < (-89999 : Int)) ||
                                decide (a > (89999 : Int)) ||
                              decide (b < (-89999 : Int)) ||
                            decide (b > (89999 : Int)))),
                      AV.opt [((50 : Nat), false)]
                        (AV.agg
                          [AV.imm (IV.int IntKind.i64 k), AV.imm (IV.int IntKind.i64 d), AV.imm (IV.int IntKind.i64 m),
                            AV.imm (IV.int IntKind.i64 w), AV.imm (IV.int IntKind.i64 e),
                            AV.imm (IV.int IntKind.i64 u)]),
                      AV.opt [((50 : Nat), false)] (AV.imm (IV.bool (validDay k d m w e u))),
                      AV.opt [((50 : Nat), false)] (AV.imm (IV.bool !validDay k d m w e u)),
                      AV.imm
                        (IV.bool
                          (!true || !A7.valid s || !A7.valid t || decide (a < (-89999 : Int)) ||
                                  decide (a > (89999 : Int)) ||
                                decide (b < (-89999 : Int)) ||
                              decide (b > (89999 : Int)) ||
                            !validDay k d m w e u)),
                      AV.imm
                        (IV.bool
                          (!true || !A7.valid s || !A7.valid t || decide (a < (-89999 : Int)) ||
                                  decide (a > (89999 : Int)) ||
                                decide (b < (-89999 : Int)) ||
                              decide (b > (89999 : Int)) ||
                            !validDay k d m w e u)),
                      AV.opt [((55 : Nat), false)]
                        (AV.agg
                          [AV.imm (IV.int IntKind.i64 k'), AV.imm (IV.int IntKind.i64 d'),
                            AV.imm (IV.int IntKind.i64 m'), AV.imm (IV.int IntKind.i64 w'),
                            AV.imm (IV.int IntKind.i64 e'), AV.imm (IV.int IntKind.i64 u')]),
                      AV.opt [((55 : Nat), false)] (AV.imm (IV.bool (validDay k' d' m' w' e' u'))),
                      AV.opt [((55 : Nat), false)] (AV.imm (IV.bool !validDay k' d' m' w' e' u')),
                      AV.imm
                        (IV.bool
                          (!true || !A7.valid s || !A7.valid t || decide (a < (-89999 : Int)) ||
                                    decide (a > (89999 : Int)) ||
                                  decide (b < (-89999 : Int)) ||
                                decide (b > (89999 : Int)) ||
                              !validDay k d m w e u ||
                            !validDay k' d' m' w' e' u')),
                      AV.dead, AV.imm (IV.str s), AV.imm (IV.str ([(60 : UInt8)] ++ s)),
                      AV.imm (IV.str ([(60 : UInt8)] ++ s ++ [(62 : UInt8)])), AV.imm (IV.int IntKind.i64 a),
                      AV.imm (IV.str (A8.fmt a)), AV.imm (IV.str ([(60 : UInt8)] ++ s ++ [(62 : UInt8)] ++ A8.fmt a)),
                      AV.dead, AV.dead, AV.dead, AV.dead, AV.dead, AV.dead, AV.dead, AV.dead, AV.dead, AV.dead, AV.dead,
                      AV.dead, AV.dead, AV.dead, AV.dead, AV.dead, AV.dead, AV.dead, AV.dead, AV.dead, AV.dead, AV.dead,
                      AV.dead, AV.dead, AV.dead, AV.dead, AV.dead, AV.dead, AV.dead, AV.dead, AV.dead, AV.dead, AV.dead,
                      AV.dead, AV.dead, AV.dead, AV.dead, AV.dead, AV.dead, AV.dead, AV.dead, AV.dead, AV.dead, AV.dead,
                      AV.dead, AV.dead, AV.dead, AV.dead, AV.dead, AV.dead, AV.dead, AV.dead, AV.dead]
                    [((0 : Nat),
                        Ob.mk true (0 : Nat)
                          (AObj.cells
                            [AV.imm (IV.int IntKind.i64 k), AV.imm (IV.int IntKind.i64 d),
                              AV.imm (IV.int IntKind.i64 m), AV.imm (IV.int IntKind.i64 w),
                              AV.imm (IV.int IntKind.i64 e), AV.imm (IV.int IntKind.i64 u)])),
                      ((1 : Nat),
                        Ob.mk true (0 : Nat)
                          (AObj.cells
                            [AV.imm (IV.int IntKind.i64 k'), AV.imm (IV.int IntKind.i64 d'),
                              AV.imm (IV.int IntKind.i64 m'), AV.imm (IV.int IntKind.i64 w'),
                              AV.imm (IV.int IntKind.i64 e'), AV.imm (IV.int IntKind.i64 u')]))]
                    (2 : Nat) []))) := by kernel_rfl
theorem f4_b1 (s : List
  UInt8) (t : List
  UInt8) (a : Int) (b : Int) (k : Int) (d : Int) (m : Int) (w : Int) (e : Int) (u : Int) (k' : Int) (d' : Int) (m' : Int) (w' : Int) (e' : Int) (u' : Int) (F : List
  UInt8) (T : Nat →
  AV) (K : AX →
  St →
    Prop) : evCode C7 (Code.seq (q4 [Dir.r, Dir.r, Dir.r, Dir.l]) (q4 [Dir.r, Dir.r, Dir.r, Dir.r, Dir.l]))
  (S4 s t a b k d m w e u k' d' m' w' e' u' F T) K =
  ((↑(List.length F) : Int) ≤ (1000000000000000000 : Int) ∧
  brn
    (whyP F != (0 : Int) ||
      !(decide (Ru.a (ruP F) = s) &&
          (Ru.o (ruP F) == IntKind.wrap IntKind.i64 ((0 : Int) - a) &&
            (Ru.h (ruP F) == false &&
              (decide (Ru.b (ruP F) = []) &&
                (Ru.p (ruP F) == (0 : Int) &&
                  (Dv.k (Ru.S (ruP F)) == (0 : Int) &&
                      (Dv.d (Ru.S (ruP F)) == (0 : Int) &&
                        (Dv.m (Ru.S (ruP F)) == (0 : Int) &&
                          (Dv.w (Ru.S (ruP F)) == (0 : Int) &&
                            (Dv.e (Ru.S (ruP F)) == (0 : Int) && (Dv.t (Ru.S (ruP F)) == (0 : Int) && true))))) &&
                    (Dv.k (Ru.E (ruP F)) == (0 : Int) &&
                        (Dv.d (Ru.E (ruP F)) == (0 : Int) &&
                          (Dv.m (Ru.E (ruP F)) == (0 : Int) &&
                            (Dv.w (Ru.E (ruP F)) == (0 : Int) &&
                              (Dv.e (Ru.E (ruP F)) == (0 : Int) && (Dv.t (Ru.E (ruP F)) == (0 : Int) && true))))) &&
                      true))))))))
    (K AX.ret
      (St.mk
        [AV.imm (IV.str s), AV.imm (IV.str t), AV.imm (IV.int IntKind.i64 a), AV.imm (IV.int IntKind.i64 b),
          AV.agg
            [AV.imm (IV.int IntKind.i64 k), AV.imm (IV.int IntKind.i64 d), AV.imm (IV.int IntKind.i64 m),
              AV.imm (IV.int IntKind.i64 w), AV.imm (IV.int IntKind.i64 e), AV.imm (IV.int IntKind.i64 u)],
          AV.agg
            [AV.imm (IV.int IntKind.i64 k'), AV.imm (IV.int IntKind.i64 d'), AV.imm (IV.int IntKind.i64 m'),
              AV.imm (IV.int IntKind.i64 w'), AV.imm (IV.int IntKind.i64 e'), AV.imm (IV.int IntKind.i64 u')],
          (clean1 (T (6 : Nat))),
          (clean1 (T (7 : Nat))),
          (clean1 (T (8 : Nat))),
          (clean1 (T (9 : Nat))),
          AV.ptr (0 : Nat) (0 : Nat), AV.ptr (1 : Nat) (0 : Nat), AV.imm (IV.bool false), AV.imm (IV.str F),
          AV.ptr (2 : Nat) (0 : Nat), AV.imm (IV.int IntKind.i64 (whyP F)), AV.imm (IV.int IntKind.i64 (atP F)),
          (clean1 (T (17 : Nat))),
          (clean1 (T (18 : Nat))),
          (clean1 (T (19 : Nat))),
          (clean1 (T (20 : Nat))),
          (clean1 (T (21 : Nat))),
          (clean1 (T (22 : Nat))),
          (clean1 (T (23 : Nat))),
          (clean1 (T (24 : Nat))),
          (clean1 (T (25 : Nat))),
          (clean1 (T (26 : Nat))),
          (clean1 (T (27 : Nat))),
          (clean1 (T (28 : Nat))),
          (clean1 (T (29 : Nat))),
          (clean1 (T (30 : Nat))),
          (clean1 (T (31 : Nat))),
          (clean1 (T (32 : Nat))),
          (clean1 (T (33 : Nat))),
          (clean1 (T (34 : Nat))),
          (clean1 (T (35 : Nat))),
          (clean1 (T (36 : Nat))),
          (clean1 (T (37 : Nat))),
          (clean1 (T (38 : Nat))),
          (clean1 (T (39 : Nat))),
          (clean1 (T (40 : Nat))),
          (clean1 (T (41 : Nat))),
          (clean1 (T (42 : Nat))),
          (clean1 (T (43 : Nat))),
          (clean1 (T (44 : Nat))),
          (clean1 (T (45 : Nat))),
          (clean1 (T (46 : Nat))),
          (clean1 (T (47 : Nat))),
          (clean1 (T (48 : Nat))),
          (clean1 (T (49 : Nat))),
          (clean1 (T (50 : Nat))),
          (clean1 (T (51 : Nat))),
          (clean1 (T (52 : Nat))),
          (clean1 (T (53 : Nat))),
          (clean1 (T (54 : Nat))),
          (clean1 (T (55 : Nat))),
          (clean1 (T (56 : Nat))),
          (clean1 (T (57 : Nat))),
          (clean1 (T (58 : Nat))),
          (clean1 (T (59 : Nat))),
          (clean1 (T (60 : Nat))),
          (clean1 (T (61 : Nat))),
          (clean1 (T (62 : Nat))),
          (clean1 (T (63 : Nat))),
          (clean1 (T (64 : Nat))),
          (clean1 (T (65 : Nat))),
          (clean1 (T (66 : Nat))),
          AV.tup
            [AV.agg
                [AV.imm (IV.str (Ru.a (ruP F))), AV.imm (IV.int IntKind.i64 (Ru.o (ruP F))),
                  AV.imm (IV.bool (Ru.h (ruP F))), AV.imm (IV.str (Ru.b (ruP F))),
                  AV.imm (IV.int IntKind.i64 (Ru.p (ruP F))), AV.imm (IV.int IntKind.i64 (Dv.k (Ru.S (ruP F)))),
                  AV.imm (IV.int IntKind.i64 (Dv.d (Ru.S (ruP F)))), AV.imm (IV.int IntKind.i64 (Dv.m (Ru.S (ruP F)))),
                  AV.imm (IV.int IntKind.i64 (Dv.w (Ru.S (ruP F)))), AV.imm (IV.int IntKind.i64 (Dv.e (Ru.S (ruP F)))),
                  AV.imm (IV.int IntKind.i64 (Dv.t (Ru.S (ruP F)))), AV.imm (IV.int IntKind.i64 (Dv.k (Ru.E (ruP F)))),
                  AV.imm (IV.int IntKind.i64 (Dv.d (Ru.E (ruP F)))), AV.imm (IV.int IntKind.i64 (Dv.m (Ru.E (ruP F)))),
                  AV.imm (IV.int IntKind.i64 (Dv.w (Ru.E (ruP F)))), AV.imm (IV.int IntKind.i64 (Dv.e (Ru.E (ruP F)))),
                  AV.imm (IV.int IntKind.i64 (Dv.t (Ru.E (ruP F))))],
              AV.imm (IV.int IntKind.i64 (whyP F)), AV.imm (IV.int IntKind.i64 (atP F))],
          AV.imm (IV.str F),
          AV.tup
            [AV.agg
                [AV.imm (IV.str (Ru.a (ruP F))), AV.imm (IV.int IntKind.i64 (Ru.o (ruP F))),
                  AV.imm (IV.bool (Ru.h (ruP F))), AV.imm (IV.str (Ru.b (ruP F))),
                  AV.imm (IV.int IntKind.i64 (Ru.p (ruP F))), AV.imm (IV.int IntKind.i64 (Dv.k (Ru.S (ruP F)))),
                  AV.imm (IV.int IntKind.i64 (Dv.d (Ru.S (ruP F)))), AV.imm (IV.int IntKind.i64 (Dv.m (Ru.S (ruP F)))),
                  AV.imm (IV.int IntKind.i64 (Dv.w (Ru.S (ruP F)))), AV.imm (IV.int IntKind.i64 (Dv.e (Ru.S (ruP F)))),
                  AV.imm (IV.int IntKind.i64 (Dv.t (Ru.S (ruP F)))), AV.imm (IV.int IntKind.i64 (Dv.k (Ru.E (ruP F)))),
                  AV.imm (IV.int IntKind.i64 (Dv.d (Ru.E (ruP F)))), AV.imm (IV.int IntKind.i64 (Dv.m (Ru.E (ruP F)))),
                  AV.imm (IV.int IntKind.i64 (Dv.w (Ru.E (ruP F)))), AV.imm (IV.int IntKind.i64 (Dv.e (Ru.E (ruP F)))),
                  AV.imm (IV.int IntKind.i64 (Dv.t (Ru.E (ruP F))))],
              AV.imm (IV.int IntKind.i64 (whyP F)), AV.imm (IV.int IntKind.i64 (atP F))],
          AV.agg
            [AV.imm (IV.str (Ru.a (ruP F))), AV.imm (IV.int IntKind.i64 (Ru.o (ruP F))),
              AV.imm (IV.bool (Ru.h (ruP F))), AV.imm (IV.str (Ru.b (ruP F))),
              AV.imm (IV.int IntKind.i64 (Ru.p (ruP F))), AV.imm (IV.int IntKind.i64 (Dv.k (Ru.S (ruP F)))),
              AV.imm (IV.int IntKind.i64 (Dv.d (Ru.S (ruP F)))), AV.imm (IV.int IntKind.i64 (Dv.m (Ru.S (ruP F)))),
              AV.imm (IV.int IntKind.i64 (Dv.w (Ru.S (ruP F)))), AV.imm (IV.int IntKind.i64 (Dv.e (Ru.S (ruP F)))),
              AV.imm (IV.int IntKind.i64 (Dv.t (Ru.S (ruP F)))), AV.imm (IV.int IntKind.i64 (Dv.k (Ru.E (ruP F)))),
              AV.imm (IV.int IntKind.i64 (Dv.d (Ru.E (ruP F)))), AV.imm (IV.int IntKind.i64 (Dv.m (Ru.E (ruP F)))),
              AV.imm (IV.int IntKind.i64 (Dv.w (Ru.E (ruP F)))), AV.imm (IV.int IntKind.i64 (Dv.e (Ru.E (ruP F)))),
              AV.imm (IV.int IntKind.i64 (Dv.t (Ru.E (ruP F))))],
          AV.imm (IV.int IntKind.i64 (whyP F)), AV.imm (IV.int IntKind.i64 (atP F)),
          AV.imm (IV.int IntKind.i64 (whyP F)), AV.imm (IV.bool (whyP F != (0 : Int))),
          AV.imm (IV.bool (whyP F != (0 : Int))),
          AV.opt [((75 : Nat), false)]
            (AV.agg
              [AV.imm (IV.str (Ru.a (ruP F))), AV.imm (IV.int IntKind.i64 (Ru.o (ruP F))),
                AV.imm (IV.bool (Ru.h (ruP F))), AV.imm (IV.str (Ru.b (ruP F))),
                AV.imm (IV.int IntKind.i64 (Ru.p (ruP F))), AV.imm (IV.int IntKind.i64 (Dv.k (Ru.S (ruP F)))),
                AV.imm (IV.int IntKind.i64 (Dv.d (Ru.S (ruP F)))), AV.imm (IV.int IntKind.i64 (Dv.m (Ru.S (ruP F)))),
                AV.imm (IV.int IntKind.i64 (Dv.w (Ru.S (ruP F)))), AV.imm (IV.int IntKind.i64 (Dv.e (Ru.S (ruP F)))),
                AV.imm (IV.int IntKind.i64 (Dv.t (Ru.S (ruP F)))), AV.imm (IV.int IntKind.i64 (Dv.k (Ru.E (ruP F)))),
                AV.imm (IV.int IntKind.i64 (Dv.d (Ru.E (ruP F)))), AV.imm (IV.int IntKind.i64 (Dv.m (Ru.E (ruP F)))),
                AV.imm (IV.int IntKind.i64 (Dv.w (Ru.E (ruP F)))), AV.imm (IV.int IntKind.i64 (Dv.e (Ru.E (ruP F)))),
                AV.imm (IV.int IntKind.i64 (Dv.t (Ru.E (ruP F))))]),
          AV.opt [((75 : Nat), false)] (AV.imm (IV.str s)),
          AV.opt [((75 : Nat), false)] (AV.imm (IV.int IntKind.i64 a)),
          AV.opt [((75 : Nat), false)] (AV.imm (IV.int IntKind.i64 (IntKind.wrap IntKind.i64 ((0 : Int) - a)))),
          AV.opt [((75 : Nat), false)]
            (AV.agg
              [AV.imm (IV.str s), AV.imm (IV.int IntKind.i64 (IntKind.wrap IntKind.i64 ((0 : Int) - a))),
                AV.imm (IV.bool false), AV.imm (IV.str []), AV.imm (IV.int IntKind.i64 (0 : Int)),
                AV.imm (IV.int IntKind.i64 (0 : Int)), AV.imm (IV.int IntKind.i64 (0 : Int)),
                AV.imm (IV.int IntKind.i64 (0 : Int)), AV.imm (IV.int IntKind.i64 (0 : Int)),
                AV.imm (IV.int IntKind.i64 (0 : Int)), AV.imm (IV.int IntKind.i64 (0 : Int)),
                AV.imm (IV.int IntKind.i64 (0 : Int)), AV.imm (IV.int IntKind.i64 (0 : Int)),
                AV.imm (IV.int IntKind.i64 (0 : Int)), AV.imm (IV.int IntKind.i64 (0 : Int)),
                AV.imm (IV.int IntKind.i64 (0 : Int)), AV.imm (IV.int IntKind.i64 (0 : Int))]),
          AV.opt [((75 : Nat), false)]
            (AV.imm
              (IV.bool
                !(decide (Ru.a (ruP F) = s) &&
                    (Ru.o (ruP F) == IntKind.wrap IntKind.i64 ((0 : Int) - a) &&
                      (Ru.h (ruP F) == false &&
                        (decide (Ru.b (ruP F) = []) &&
                          (Ru.p (ruP F) == (0 : Int) &&
                            (Dv.k (Ru.S (ruP F)) == (0 : Int) &&
                                (Dv.d (Ru.S (ruP F)) == (0 : Int) &&
                                  (Dv.m (Ru.S (ruP F)) == (0 : Int) &&
                                    (Dv.w (Ru.S (ruP F)) == (0 : Int) &&
                                      (Dv.e (Ru.S (ruP F)) == (0 : Int) &&
                                        (Dv.t (Ru.S (ruP F)) == (0 : Int) && true))))) &&
                              (Dv.k (Ru.E (ruP F)) == (0 : Int) &&
                                  (Dv.d (Ru.E (ruP F)) == (0 : Int) &&
                                    (Dv.m (Ru.E (ruP F)) == (0 : Int) &&
                                      (Dv.w (Ru.E (ruP F)) == (0 : Int) &&
                                        (Dv.e (Ru.E (ruP F)) == (0 : Int) &&
                                          (Dv.t (Ru.E (ruP F)) == (0 : Int) && true))))) &&
                                true))))))))),
          AV.imm
            (IV.bool
              (whyP F != (0 : Int) ||
                !(decide (Ru.a (ruP F) = s) &&
                    (Ru.o (ruP F) == IntKind.wrap IntKind.i64 ((0 : Int) - a) &&
                      (Ru.h (ruP F) == false &&
                        (decide (Ru.b (ruP F) = []) &&
                          (Ru.p (ruP F) == (0 : Int) &&
                            (Dv.k (Ru.S (ruP F)) == (0 : Int) &&
                                (Dv.d (Ru.S (ruP F)) == (0 : Int) &&
                                  (Dv.m (Ru.S (ruP F)) == (0 : Int) &&
                                    (Dv.w (Ru.S (ruP F)) == (0 : Int) &&
                                      (Dv.e (Ru.S (ruP F)) == (0 : Int) &&
                                        (Dv.t (Ru.S (ruP F)) == (0 : Int) && true))))) &&
                              (Dv.k (Ru.E (ruP F)) == (0 : Int) &&
                                  (Dv.d (Ru.E (ruP F)) == (0 : Int) &&
                                    (Dv.m (Ru.E (ruP F)) == (0 : Int) &&
                                      (Dv.w (Ru.E (ruP F)) == (0 : Int) &&
                                        (Dv.e (Ru.E (ruP F)) == (0 : Int) &&
                                          (Dv.t (Ru.E (ruP F)) == (0 : Int) && true))))) &&
                                true))))))))),
          (clean1 (T (83 : Nat))),
          (clean1 (T (84 : Nat))),
          (clean1 (T (85 : Nat))),
          (clean1 (T (86 : Nat))),
          (clean1 (T (87 : Nat))),
          (clean1 (T (88 : Nat))),
          (clean1 (T (89 : Nat))),
          (clean1 (T (90 : Nat))),
          (clean1 (T (91 : Nat))),
          (clean1 (T (92 : Nat))),
          (clean1 (T (93 : Nat))),
          (clean1 (T (94 : Nat))),
          (clean1 (T (95 : Nat))),
          (clean1 (T (96 : Nat))),
          (clean1 (T (97 : Nat))),
          (clean1 (T (98 : Nat))),
          (clean1 (T (99 : Nat))),
          (clean1 (T (100 : Nat))),
          (clean1 (T (101 : Nat))),
          (clean1 (T (102 : Nat))),
          (clean1 (T (103 : Nat))),
          (clean1 (T (104 : Nat))),
          (clean1 (T (105 : Nat))),
          (clean1 (T (106 : Nat))),
          (clean1 (T (107 : Nat))),
          (clean1 (T (108 : Nat))),
          (clean1 (T (109 : Nat))),
          (clean1 (T (110 : Nat))),
          (clean1 (T (111 : Nat))),
          (clean1 (T (112 : Nat))),
          (clean1 (T (113 : Nat))),
          (clean1 (T (114 : Nat))),
          (clean1 (T (115 : Nat))),
          (clean1 (T (116 : Nat))),
          (clean1 (T (117 : Nat))),
          (clean1 (T (118 : Nat))),
          (clean1 (T (119 : Nat)))]
        [((0 : Nat),
            Ob.mk true (0 : Nat)
              (AObj.cells
                [AV.imm (IV.int IntKind.i64 k), AV.imm (IV.int IntKind.i64 d), AV.imm (IV.int IntKind.i64 m),
                  AV.imm (IV.int IntKind.i64 w), AV.imm (IV.int IntKind.i64 e), AV.imm (IV.int IntKind.i64 u)])),
          ((1 : Nat),
            Ob.mk true (0 : Nat)
              (AObj.cells
                [AV.imm (IV.int IntKind.i64 k'), AV.imm (IV.int IntKind.i64 d'), AV.imm (IV.int IntKind.i64 m'),
                  AV.imm (IV.int IntKind.i64 w'), AV.imm (IV.int IntKind.i64 e'), AV.imm (IV.int IntKind.i64 u')])),
          ((2 : Nat),
            Ob.mk true (0 : Nat)
              (AObj.cells
                [AV.imm (IV.str (Ru.a (ruP F))), AV.imm (IV.int IntKind.i64 (Ru.o (ruP F))),
                  AV.imm (IV.bool (Ru.h (ruP F))), AV.imm (IV.str (Ru.b (ruP F))),
                  AV.imm (IV.int IntKind.i64 (Ru.p (ruP F))), AV.imm (IV.int IntKind.i64 (Dv.k (Ru.S (ruP F)))),
                  AV.imm (IV.int IntKind.i64 (Dv.d (Ru.S (ruP F)))), AV.imm (IV.int IntKind.i64 (Dv.m (Ru.S (ruP F)))),
                  AV.imm (IV.int IntKind.i64 (Dv.w (Ru.S (ruP F)))), AV.imm (IV.int IntKind.i64 (Dv.e (Ru.S (ruP F)))),
                  AV.imm (IV.int IntKind.i64 (Dv.t (Ru.S (ruP F)))), AV.imm (IV.int IntKind.i64 (Dv.k (Ru.E (ruP F)))),
                  AV.imm (IV.int IntKind.i64 (Dv.d (Ru.E (ruP F)))), AV.imm (IV.int IntKind.i64 (Dv.m (Ru.E (ruP F)))),
                  AV.imm (IV.int IntKind.i64 (Dv.w (Ru.E (ruP F)))), AV.imm (IV.int IntKind.i64 (Dv.e (Ru.E (ruP F)))),
                  AV.imm (IV.int IntKind.i64 (Dv.t (Ru.E (ruP F))))]))]
        (3 : Nat) []))
    (K AX.normal
      (St.mk
        [AV.imm (IV.str s), AV.imm (IV.str t), AV.imm (IV.int IntKind.i64 a), AV.imm (IV.int IntKind.i64 b),
          AV.agg
            [AV.imm (IV.int IntKind.i64 k), AV.imm (IV.int IntKind.i64 d), AV.imm (IV.int IntKind.i64 m),
              AV.imm (IV.int IntKind.i64 w), AV.imm (IV.int IntKind.i64 e), AV.imm (IV.int IntKind.i64 u)],
          AV.agg
            [AV.imm (IV.int IntKind.i64 k'), AV.imm (IV.int IntKind.i64 d'), AV.imm (IV.int IntKind.i64 m'),
              AV.imm (IV.int IntKind.i64 w'), AV.imm (IV.int IntKind.i64 e'), AV.imm (IV.int IntKind.i64 u')],
          (clean1 (T (6 : Nat))),
          (clean1 (T (7 : Nat))),
          (clean1 (T (8 : Nat))),
          (clean1 (T (9 : Nat))),
          AV.ptr (0 : Nat) (0 : Nat), AV.ptr (1 : Nat) (0 : Nat),
          (clean1 (T (12 : Nat))),
          AV.imm (IV.str F), AV.ptr (2 : Nat) (0 : Nat), AV.imm (IV.int IntKind.i64 (whyP F)),
          AV.imm (IV.int IntKind.i64 (atP F)),
          (clean1 (T (17 : Nat))),
          (clean1 (T (18 : Nat))),
          (clean1 (T (19 : Nat))),
          (clean1 (T (20 : Nat))),
          (clean1 (T (21 : Nat))),
          (clean1 (T (22 : Nat))),
          (clean1 (T (23 : Nat))),
          (clean1 (T (24 : Nat))),
          (clean1 (T (25 : Nat))),
          (clean1 (T (26 : Nat))),
          (clean1 (T (27 : Nat))),
          (clean1 (T (28 : Nat))),
          (clean1 (T (29 : Nat))),
          (clean1 (T (30 : Nat))),
          (clean1 (T (31 : Nat))),
          (clean1 (T (32 : Nat))),
          (clean1 (T (33 : Nat))),
          (clean1 (T (34 : Nat))),
          (clean1 (T (35 : Nat))),
          (clean1 (T (36 : Nat))),
          (clean1 (T (37 : Nat))),
          (clean1 (T (38 : Nat))),
          (clean1 (T (39 : Nat))),
          (clean1 (T (40 : Nat))),
          (clean1 (T (41 : Nat))),
          (clean1 (T (42 : Nat))),
          (clean1 (T (43 : Nat))),
          (clean1 (T (44 : Nat))),
          (clean1 (T (45 : Nat))),
          (clean1 (T (46 : Nat))),
          (clean1 (T (47 : Nat))),
          (clean1 (T (48 : Nat))),
          (clean1 (T (49 : Nat))),
          (clean1 (T (50 : Nat))),
          (clean1 (T (51 : Nat))),
          (clean1 (T (52 : Nat))),
          (clean1 (T (53 : Nat))),
          (clean1 (T (54 : Nat))),
          (clean1 (T (55 : Nat))),
          (clean1 (T (56 : Nat))),
          (clean1 (T (57 : Nat))),
          (clean1 (T (58 : Nat))),
          (clean1 (T (59 : Nat))),
          (clean1 (T (60 : Nat))),
          (clean1 (T (61 : Nat))),
          (clean1 (T (62 : Nat))),
          (clean1 (T (63 : Nat))),
          (clean1 (T (64 : Nat))),
          (clean1 (T (65 : Nat))),
          (clean1 (T (66 : Nat))),
          AV.tup
            [AV.agg
                [AV.imm (IV.str (Ru.a (ruP F))), AV.imm (IV.int IntKind.i64 (Ru.o (ruP F))),
                  AV.imm (IV.bool (Ru.h (ruP F))), AV.imm (IV.str (Ru.b (ruP F))),
                  AV.imm (IV.int IntKind.i64 (Ru.p (ruP F))), AV.imm (IV.int IntKind.i64 (Dv.k (Ru.S (ruP F)))),
                  AV.imm (IV.int IntKind.i64 (Dv.d (Ru.S (ruP F)))), AV.imm (IV.int IntKind.i64 (Dv.m (Ru.S (ruP F)))),
                  AV.imm (IV.int IntKind.i64 (Dv.w (Ru.S (ruP F)))), AV.imm (IV.int IntKind.i64 (Dv.e (Ru.S (ruP F)))),
                  AV.imm (IV.int IntKind.i64 (Dv.t (Ru.S (ruP F)))), AV.imm (IV.int IntKind.i64 (Dv.k (Ru.E (ruP F)))),
                  AV.imm (IV.int IntKind.i64 (Dv.d (Ru.E (ruP F)))), AV.imm (IV.int IntKind.i64 (Dv.m (Ru.E (ruP F)))),
                  AV.imm (IV.int IntKind.i64 (Dv.w (Ru.E (ruP F)))), AV.imm (IV.int IntKind.i64 (Dv.e (Ru.E (ruP F)))),
                  AV.imm (IV.int IntKind.i64 (Dv.t (Ru.E (ruP F))))],
              AV.imm (IV.int IntKind.i64 (whyP F)), AV.imm (IV.int IntKind.i64 (atP F))],
          AV.imm (IV.str F),
          AV.tup
            [AV.agg
                [AV.imm (IV.str (Ru.a (ruP F))), AV.imm (IV.int IntKind.i64 (Ru.o (ruP F))),
                  AV.imm (IV.bool (Ru.h (ruP F))), AV.imm (IV.str (Ru.b (ruP F))),
                  AV.imm (IV.int IntKind.i64 (Ru.p (ruP F))), AV.imm (IV.int IntKind.i64 (Dv.k (Ru.S (ruP F)))),
                  AV.imm (IV.int IntKind.i64 (Dv.d (Ru.S (ruP F)))), AV.imm (IV.int IntKind.i64 (Dv.m (Ru.S (ruP F)))),
                  AV.imm (IV.int IntKind.i64 (Dv.w (Ru.S (ruP F)))), AV.imm (IV.int IntKind.i64 (Dv.e (Ru.S (ruP F)))),
                  AV.imm (IV.int IntKind.i64 (Dv.t (Ru.S (ruP F)))), AV.imm (IV.int IntKind.i64 (Dv.k (Ru.E (ruP F)))),
                  AV.imm (IV.int IntKind.i64 (Dv.d (Ru.E (ruP F)))), AV.imm (IV.int IntKind.i64 (Dv.m (Ru.E (ruP F)))),
                  AV.imm (IV.int IntKind.i64 (Dv.w (Ru.E (ruP F)))), AV.imm (IV.int IntKind.i64 (Dv.e (Ru.E (ruP F)))),
                  AV.imm (IV.int IntKind.i64 (Dv.t (Ru.E (ruP F))))],
              AV.imm (IV.int IntKind.i64 (whyP F)), AV.imm (IV.int IntKind.i64 (atP F))],
          AV.agg
            [AV.imm (IV.str (Ru.a (ruP F))), AV.imm (IV.int IntKind.i64 (Ru.o (ruP F))),
              AV.imm (IV.bool (Ru.h (ruP F))), AV.imm (IV.str (Ru.b (ruP F))),
              AV.imm (IV.int IntKind.i64 (Ru.p (ruP F))), AV.imm (IV.int IntKind.i64 (Dv.k (Ru.S (ruP F)))),
              AV.imm (IV.int IntKind.i64 (Dv.d (Ru.S (ruP F)))), AV.imm (IV.int IntKind.i64 (Dv.m (Ru.S (ruP F)))),
              AV.imm (IV.int IntKind.i64 (Dv.w (Ru.S (ruP F)))), AV.imm (IV.int IntKind.i64 (Dv.e (Ru.S (ruP F)))),
              AV.imm (IV.int IntKind.i64 (Dv.t (Ru.S (ruP F)))), AV.imm (IV.int IntKind.i64 (Dv.k (Ru.E (ruP F)))),
              AV.imm (IV.int IntKind.i64 (Dv.d (Ru.E (ruP F)))), AV.imm (IV.int IntKind.i64 (Dv.m (Ru.E (ruP F)))),
              AV.imm (IV.int IntKind.i64 (Dv.w (Ru.E (ruP F)))), AV.imm (IV.int IntKind.i64 (Dv.e (Ru.E (ruP F)))),
              AV.imm (IV.int IntKind.i64 (Dv.t (Ru.E (ruP F))))],
          AV.imm (IV.int IntKind.i64 (whyP F)), AV.imm (IV.int IntKind.i64 (atP F)),
          AV.imm (IV.int IntKind.i64 (whyP F)), AV.imm (IV.bool (whyP F != (0 : Int))),
          AV.imm (IV.bool (whyP F != (0 : Int))),
          AV.opt [((75 : Nat), false)]
            (AV.agg
              [AV.imm (IV.str (Ru.a (ruP F))), AV.imm (IV.int IntKind.i64 (Ru.o (ruP F))),
                AV.imm (IV.bool (Ru.h (ruP F))), AV.imm (IV.str (Ru.b (ruP F))),
                AV.imm (IV.int IntKind.i64 (Ru.p (ruP F))), AV.imm (IV.int IntKind.i64 (Dv.k (Ru.S (ruP F)))),
                AV.imm (IV.int IntKind.i64 (Dv.d (Ru.S (ruP F)))), AV.imm (IV.int IntKind.i64 (Dv.m (Ru.S (ruP F)))),
                AV.imm (IV.int IntKind.i64 (Dv.w (Ru.S (ruP F)))), AV.imm (IV.int IntKind.i64 (Dv.e (Ru.S (ruP F)))),
                AV.imm (IV.int IntKind.i64 (Dv.t (Ru.S (ruP F)))), AV.imm (IV.int IntKind.i64 (Dv.k (Ru.E (ruP F)))),
                AV.imm (IV.int IntKind.i64 (Dv.d (Ru.E (ruP F)))), AV.imm (IV.int IntKind.i64 (Dv.m (Ru.E (ruP F)))),
                AV.imm (IV.int IntKind.i64 (Dv.w (Ru.E (ruP F)))), AV.imm (IV.int IntKind.i64 (Dv.e (Ru.E (ruP F)))),
                AV.imm (IV.int IntKind.i64 (Dv.t (Ru.E (ruP F))))]),
          AV.opt [((75 : Nat), false)] (AV.imm (IV.str s)),
          AV.opt [((75 : Nat), false)] (AV.imm (IV.int IntKind.i64 a)),
          AV.opt [((75 : Nat), false)] (AV.imm (IV.int IntKind.i64 (IntKind.wrap IntKind.i64 ((0 : Int) - a)))),
          AV.opt [((75 : Nat), false)]
            (AV.agg
              [AV.imm (IV.str s), AV.imm (IV.int IntKind.i64 (IntKind.wrap IntKind.i64 ((0 : Int) - a))),
                AV.imm (IV.bool false), AV.imm (IV.str []), AV.imm (IV.int IntKind.i64 (0 : Int)),
                AV.imm (IV.int IntKind.i64 (0 : Int)), AV.imm (IV.int IntKind.i64 (0 : Int)),
                AV.imm (IV.int IntKind.i64 (0 : Int)), AV.imm (IV.int IntKind.i64 (0 : Int)),
                AV.imm (IV.int IntKind.i64 (0 : Int)), AV.imm (IV.int IntKind.i64 (0 : Int)),
                AV.imm (IV.int IntKind.i64 (0 : Int)), AV.imm (IV.int IntKind.i64 (0 : Int)),
                AV.imm (IV.int IntKind.i64 (0 : Int)), AV.imm (IV.int IntKind.i64 (0 : Int)),
                AV.imm (IV.int IntKind.i64 (0 : Int)), AV.imm (IV.int IntKind.i64 (0 : Int))]),
          AV.opt [((75 : Nat), false)]
            (AV.imm
              (IV.bool
                !(decide (Ru.a (ruP F) = s) &&
                    (Ru.o (ruP F) == IntKind.wrap IntKind.i64 ((0 : Int) - a) &&
                      (Ru.h (ruP F) == false &&
                        (decide (Ru.b (ruP F) = []) &&
                          (Ru.p (ruP F) == (0 : Int) &&
                            (Dv.k (Ru.S (ruP F)) == (0 : Int) &&
                                (Dv.d (Ru.S (ruP F)) == (0 : Int) &&
                                  (Dv.m (Ru.S (ruP F)) == (0 : Int) &&
                                    (Dv.w (Ru.S (ruP F)) == (0 : Int) &&
                                      (Dv.e (Ru.S (ruP F)) == (0 : Int) &&
                                        (Dv.t (Ru.S (ruP F)) == (0 : Int) && true))))) &&
                              (Dv.k (Ru.E (ruP F)) == (0 : Int) &&
                                  (Dv.d (Ru.E (ruP F)) == (0 : Int) &&
                                    (Dv.m (Ru.E (ruP F)) == (0 : Int) &&
                                      (Dv.w (Ru.E (ruP F)) == (0 : Int) &&
                                        (Dv.e (Ru.E (ruP F)) == (0 : Int) &&
                                          (Dv.t (Ru.E (ruP F)) == (0 : Int) && true))))) &&
                                true))))))))),
          AV.imm
            (IV.bool
              (whyP F != (0 : Int) ||
                !(decide (Ru.a (ruP F) = s) &&
                    (Ru.o (ruP F) == IntKind.wrap IntKind.i64 ((0 : Int) - a) &&
                      (Ru.h (ruP F) == false &&
                        (decide (Ru.b (ruP F) = []) &&
                          (Ru.p (ruP F) == (0 : Int) &&
                            (Dv.k (Ru.S (ruP F)) == (0 : Int) &&
                                (Dv.d (Ru.S (ruP F)) == (0 : Int) &&
                                  (Dv.m (Ru.S (ruP F)) == (0 : Int) &&
                                    (Dv.w (Ru.S (ruP F)) == (0 : Int) &&
                                      (Dv.e (Ru.S (ruP F)) == (0 : Int) &&
                                        (Dv.t (Ru.S (ruP F)) == (0 : Int) && true))))) &&
                              (Dv.k (Ru.E (ruP F)) == (0 : Int) &&
                                  (Dv.d (Ru.E (ruP F)) == (0 : Int) &&
                                    (Dv.m (Ru.E (ruP F)) == (0 : Int) &&
                                      (Dv.w (Ru.E (ruP F)) == (0 : Int) &&
                                        (Dv.e (Ru.E (ruP F)) == (0 : Int) &&
                                          (Dv.t (Ru.E (ruP F)) == (0 : Int) && true))))) &&
                                true))))))))),
          (clean1 (T (83 : Nat))),
          (clean1 (T (84 : Nat))),
          (clean1 (T (85 : Nat))),
          (clean1 (T (86 : Nat))),
          (clean1 (T (87 : Nat))),
          (clean1 (T (88 : Nat))),
          (clean1 (T (89 : Nat))),
          (clean1 (T (90 : Nat))),
          (clean1 (T (91 : Nat))),
          (clean1 (T (92 : Nat))),
          (clean1 (T (93 : Nat))),
          (clean1 (T (94 : Nat))),
          (clean1 (T (95 : Nat))),
          (clean1 (T (96 : Nat))),
          (clean1 (T (97 : Nat))),
          (clean1 (T (98 : Nat))),
          (clean1 (T (99 : Nat))),
          (clean1 (T (100 : Nat))),
          (clean1 (T (101 : Nat))),
          (clean1 (T (102 : Nat))),
          (clean1 (T (103 : Nat))),
          (clean1 (T (104 : Nat))),
          (clean1 (T (105 : Nat))),
          (clean1 (T (106 : Nat))),
          (clean1 (T (107 : Nat))),
          (clean1 (T (108 : Nat))),
          (clean1 (T (109 : Nat))),
          (clean1 (T (110 : Nat))),
          (clean1 (T (111 : Nat))),
          (clean1 (T (112 : Nat))),
          (clean1 (T (113 : Nat))),
          (clean1 (T (114 : Nat))),
          (clean1 (T (115 : Nat))),
          (clean1 (T (116 : Nat))),
          (clean1 (T (117 : Nat))),
          (clean1 (T (118 : Nat))),
          (clean1 (T (119 : Nat)))]
        [((0 : Nat),
            Ob.mk true (0 : Nat)
              (AObj.cells
                [AV.imm (IV.int IntKind.i64 k), AV.imm (IV.int IntKind.i64 d), AV.imm (IV.int IntKind.i64 m),
                  AV.imm (IV.int IntKind.i64 w), AV.imm (IV.int IntKind.i64 e), AV.imm (IV.int IntKind.i64 u)])),
          ((1 : Nat),
            Ob.mk true (0 : Nat)
              (AObj.cells
                [AV.imm (IV.int IntKind.i64 k'), AV.imm (IV.int IntKind.i64 d'), AV.imm (IV.int IntKind.i64 m'),
                  AV.imm (IV.int IntKind.i64 w'), AV.imm (IV.int IntKind.i64 e'), AV.imm (IV.int IntKind.i64 u')])),
          ((2 : Nat),
            Ob.mk true (0 : Nat)
              (AObj.cells
                [AV.imm (IV.str (Ru.a (ruP F))), AV.imm (IV.int IntKind.i64 (Ru.o (ruP F))),
                  AV.imm (IV.bool (Ru.h (ruP F))), AV.imm (IV.str (Ru.b (ruP F))),
                  AV.imm (IV.int IntKind.i64 (Ru.p (ruP F))), AV.imm (IV.int IntKind.i64 (Dv.k (Ru.S (ruP F)))),
                  AV.imm (IV.int IntKind.i64 (Dv.d (Ru.S (ruP F)))), AV.imm (IV.int IntKind.i64 (Dv.m (Ru.S (ruP F)))),
                  AV.imm (IV.int IntKind.i64 (Dv.w (Ru.S (ruP F)))), AV.imm (IV.int IntKind.i64 (Dv.e (Ru.S (ruP F)))),
                  AV.imm (IV.int IntKind.i64 (Dv.t (Ru.S (ruP F)))), AV.imm (IV.int IntKind.i64 (Dv.k (Ru.E (ruP F)))),
                  AV.imm (IV.int IntKind.i64 (Dv.d (Ru.E (ruP F)))), AV.imm (IV.int IntKind.i64 (Dv.m (Ru.E (ruP F)))),
                  AV.imm (IV.int IntKind.i64 (Dv.w (Ru.E (ruP F)))), AV.imm (IV.int IntKind.i64 (Dv.e (Ru.E (ruP F)))),
                  AV.imm (IV.int IntKind.i64 (Dv.t (Ru.E (ruP F))))]))]
        (3 : Nat) []))) := by kernel_rfl
theorem f4_c (s : List
  UInt8) (t : List
  UInt8) (a : Int) (b : Int) (k : Int) (d : Int) (m : Int) (w : Int) (e : Int) (u : Int) (k' : Int) (d' : Int) (m' : Int) (w' : Int) (e' : Int) (u' : Int) (F : List
  UInt8) (S : List
  UInt8) (R : List
  AV) (x : AV) (T : Nat →
  AV) (K : List AV →
  Prop) : evCode C7 (q4 [Dir.r, Dir.r, Dir.r, Dir.r, Dir.r, Dir.r])
  (S4b s t a b k d m w e u k' d' m' w' e' u' F S R x T) (finK C7 Try.f4 K) =
  ((↑(List.length S) : Int) ≤ (1000000000000000000 : Int) ∧
  K
    [AV.imm
        (IV.bool
          (whyP S == (0 : Int) &&
            (decide (Ru.a (ruP S) = s) &&
              (Ru.o (ruP S) == IntKind.wrap IntKind.i64 ((0 : Int) - a) &&
                (Ru.h (ruP S) == true &&
                  (decide (Ru.b (ruP S) = t) &&
                    (Ru.p (ruP S) == IntKind.wrap IntKind.i64 ((0 : Int) - b) &&
                      (Dv.k (Ru.S (ruP S)) == k &&
                          (Dv.d (Ru.S (ruP S)) == d &&
                            (Dv.m (Ru.S (ruP S)) == m &&
                              (Dv.w (Ru.S (ruP S)) == w &&
                                (Dv.e (Ru.S (ruP S)) == e && (Dv.t (Ru.S (ruP S)) == u && true))))) &&
                        (Dv.k (Ru.E (ruP S)) == k' &&
                            (Dv.d (Ru.E (ruP S)) == d' &&
                              (Dv.m (Ru.E (ruP S)) == m' &&
                                (Dv.w (Ru.E (ruP S)) == w' &&
                                  (Dv.e (Ru.E (ruP S)) == e' && (Dv.t (Ru.E (ruP S)) == u' && true))))) &&
                          true)))))))))]) := by kernel_rfl
end Z09

set_option maxRecDepth 100000
namespace Z09
open Go Go.AE Go.Proofs
attribute [local irreducible] loopK evCode evSpec loopB norm

theorem at3 : Try.prog.funcs[3]? = some Try.f3 := by kernel_rfl
theorem at4 : Try.prog.funcs[4]? = some Try.f4 := by kernel_rfl
theorem at5 : Try.prog.funcs[5]? = some Try.f5 := by kernel_rfl
theorem at6 : Try.prog.funcs[6]? = some Try.f6 := by kernel_rfl
theorem at7 : Try.prog.funcs[7]? = some Try.f7 := by kernel_rfl
theorem okPW1 {s : List UInt8} {o : Out} (h : parse9 s = o) (hl : s.length ≤ 100) : SpecOK Try.prog G0 8 [.imm (.str s)] [] [.agg (ruOf o).cells, i64 (whyOf o), i64 (atOf o)] := by
  refine SpecOK.pre (pres := [(s.length : Int) ≤ 1000000000000000000]) (fun _ => ?_) (fun _ p hp => ?_) ⟨_, at8, by decide, by rw [body8]; rfl⟩
  · have := okP [.imm (.str s)] [(s.length : Int) ≤ 1000000000000000000] _ rfl
    unfold ruP whyP atP at this
    rw [h] at this
    exact this
  · rw [List.mem_singleton.1 hp]; omega
theorem okPW : ∀ args pres res, sParseW args = some (pres, res) → SpecOK Try.prog G0 8 args pres res := by
  intro args pres res h
  unfold sParseW at h
  split at h
  case h_2 => cases h
  rename_i s
  cases h1 : eqB s w1s with
  | true => rw [h1, cond_true] at h; cases h; rw [eqB_eq h1]; exact okPW1 w1p (by decide)
  | false =>
  rw [h1, cond_false] at h
  cases h1 : eqB s w2s with
  | true => rw [h1, cond_true] at h; cases h; rw [eqB_eq h1]; exact okPW1 w2p (by decide)
  | false =>
  rw [h1, cond_false] at h
  cases h1 : eqB s w3s with
  | true => rw [h1, cond_true] at h; cases h; rw [eqB_eq h1]; exact okPW1 w3p (by decide)
  | false =>
  rw [h1, cond_false] at h
  cases h1 : eqB s w4s with
  | true => rw [h1, cond_true] at h; cases h; rw [eqB_eq h1]; exact okPW1 w4p (by decide)
  | false =>
  rw [h1, cond_false] at h
  cases h1 : eqB s w5s with
  | true => rw [h1, cond_true] at h; cases h; rw [eqB_eq h1]; exact okPW1 w5p (by decide)
  | false => rw [h1, cond_false] at h; cases h
theorem okDW : ∀ args pres res, sDayW args = some (pres, res) → SpecOK Try.prog G0 15 args pres res := by
  intro args pres res h
  unfold sDayW at h
  split at h
  case h_2 => cases h
  rename_i s
  cases h1 : eqB s w6s with
  | true =>
    rw [h1, cond_true] at h; cases h; rw [eqB_eq h1]
    refine SpecOK.pre (pres := [(w6s.length : Int) ≤ big - 20]) (fun _ => ?_) (fun _ p hp => ?_) ⟨_, at15, by decide, rfl⟩
    · have := ok15 [.imm (.str w6s)] [(w6s.length : Int) ≤ big - 20] _ rfl
      rw [w6p] at this
      exact this
    · rw [List.mem_singleton.1 hp]; decide
  | false => rw [h1, cond_false] at h; cases h
theorem okW : EOK Try.prog FW G0 := addE_ok (addE_ok okF5 okPW) okDW
theorem ok7 : ∀ args pres res, sAwake args = some (pres, res) → SpecOK Try.prog G0 7 args pres res := by
  intro args pres res h
  unfold sAwake at h
  split at h
  case h_2 => cases h
  cases h
  refine mk okW at7 (by decide) rfl (fun _ K hK => ?_)
  rw [show cx FW = CW from rfl, f7_w]
  repeat' refine And.intro ?_ ?_
  all_goals first | exact fun _ => by decide | exact Eq.mp (by kernel_rfl) hK
theorem okF7 : EOK Try.prog F7 G0 := addE_ok okF6 ok7
theorem okF8 {S0 : List UInt8} {r0 : Ru} {w0 n0 : Int} (e1 : ruP S0 = r0) (e2 : whyP S0 = w0) (e3 : atP S0 = n0) : EOK Try.prog (F8 S0 r0 w0 n0) G0 := addE_ok (addE_ok okF5 (okAt e1 e2 e3)) ok7
end Z09

set_option maxRecDepth 100000
namespace Z09
open Go Go.AE Go.Proofs

/-! ### what stands behind a rule's part -/
def Sep (c : UInt8) : Prop := c = 32 ∨ c = 44
theorem takeWhile_c {p : UInt8 → Bool} {c : UInt8} (h : p c = false) (v : List UInt8) : ∀ t : List UInt8, (t ++ c :: v).takeWhile p = t.takeWhile p
  | [] => by simp [List.takeWhile_cons, h]
  | b :: t => by
    rw [List.cons_append, List.takeWhile_cons, List.takeWhile_cons, takeWhile_c h v t]
theorem sepD {c : UInt8} (h : Sep c) : A8.isD c = false := by rcases h with rfl | rfl <;> decide
theorem runD_c {c : UInt8} (h : Sep c) (v t : List UInt8) : A8.runD (t ++ c :: v) = A8.runD t := takeWhile_c (sepD h) v t
theorem drop_c {t : List UInt8} {i : Nat} (h : i ≤ t.length) (u : List UInt8) : (t ++ u).drop i = t.drop i ++ u := List.drop_append_of_le_length h
theorem field_c {c : UInt8} (h : Sep c) (v t : List UInt8) : A8.field (t ++ c :: v) = A8.field t := by
  have hd := sepD h
  match t with
  | [] =>
    have : c ≠ 58 := by rcases h with rfl | rfl <;> decide
    cases v with
    | nil => rfl
    | cons x v => cases v with
      | nil => rfl
      | cons y v => simp [A8.field, this]
  | [x] => cases v with
    | nil => rfl
    | cons y v => simp [A8.field, hd]
  | [x, y] => simp [A8.field, hd]
  | x :: y :: z :: r => rfl
theorem field_3 {t : List UInt8} {m : Nat} (h : A8.field t = some m) : 3 ≤ t.length := by
  match t with
  | [] => simp [A8.field] at h
  | [x] => simp [A8.field] at h
  | [x, y] => simp [A8.field] at h
  | x :: y :: z :: r => simp
theorem fl_c {c : UInt8} (h : Sep c) (v t : List UInt8) : A8.fl (t ++ c :: v) = A8.fl t := by
  unfold A8.fl
  rw [field_c h]
  cases hf : A8.field t with
  | none => rfl
  | some m =>
    have := field_3 hf
    simp only [drop_c (show 3 ≤ t.length by omega), field_c h]
theorem parse8_c {c : UInt8} (h : Sep c) (v t : List UInt8) : A8.parse (t ++ c :: v) = A8.parse t := by
  have ho : A8.off (t ++ c :: v) = A8.off t ∧ A8.sgn (t ++ c :: v) = A8.sgn t := by
    cases t with
    | nil => rcases h with rfl | rfl <;> exact ⟨rfl, rfl⟩
    | cons b t => exact ⟨rfl, rfl⟩
  have hle := A8.off_le_len t
  have hh : A8.hoursP (t ++ c :: v) (A8.off t) = A8.hoursP t (A8.off t) := by
    unfold A8.hoursP
    rw [drop_c hle, runD_c h]
  unfold A8.parse
  rw [ho.1, ho.2, hh]
  split
  · rename_i hok
    obtain ⟨n, e, hn, _⟩ := A8.hours_le t (A8.off t) hle hok
    rw [e, Int.toNat_natCast]
    have : A8.fieldsP (t ++ c :: v) n = A8.fieldsP t n := by
      rw [A8.fieldsP_fl, A8.fieldsP_fl, drop_c hn, fl_c h]
    rw [this]
  · rfl
theorem number_c {c : UInt8} (h : Sep c) (v t : List UInt8) : number (t ++ c :: v) = number t := by
  unfold number
  rw [runD_c h]
theorem after_c {c : UInt8} (h : Sep c) (v t : List UInt8) (i : Nat) (hi : i ≤ t.length) (b : UInt8) (hb : b ≠ c) : after (t ++ c :: v) i b = after t i b := by
  unfold after
  rw [drop_c hi]
  cases t.drop i with
  | nil =>
    show (if c = b then _ else _) = _
    rw [if_neg (fun e => hb e.symm)]
  | cons x r =>
    show (if x = b then _ else _) = (if x = b then _ else _)
    rw [show r.append (c :: v) = r ++ c :: v from rfl, number_c h]
theorem date_c {c : UInt8} (h : Sep c) (v : List UInt8) (x : UInt8) (r : List UInt8) : date (x :: r ++ c :: v) = date (x :: r) := by
  have h46 : (46 : UInt8) ≠ c := by rcases h with rfl | rfl <;> decide
  have hr := number_c h v r
  have hx := number_c h v (x :: r)
  show (if x = 74 then _ else if x = 77 then _ else _) = (if x = 74 then _ else if x = 77 then _ else _)
  rw [show r.append (c :: v) = r ++ c :: v from rfl, hr, hx]
  have hm : dateM (x :: r ++ c :: v) = dateM (x :: r) := by
    unfold dateM
    rw [show List.drop 1 (x :: r ++ c :: v) = r ++ c :: v from rfl, show List.drop 1 (x :: r) = r from rfl, hr]
    obtain ⟨_, n, _, e, hn, _⟩ := number_n r
    rw [e, Int.toNat_natCast]
    have a1 : after (x :: r ++ c :: v) (n + 1) 46 = after (x :: r) (n + 1) 46 := after_c h v (x :: r) (n + 1) (by simp; omega) 46 h46
    rw [a1]
    obtain ⟨_, m, _, e2, hm, _⟩ := after_n (x :: r) (n + 1) 46
    rw [e2, Int.toNat_natCast]
    have a2 : after (x :: r ++ c :: v) m 46 = after (x :: r) m 46 := after_c h v (x :: r) m hm 46 h46
    rw [a2]
  rw [hm]
theorem date_sep {c : UInt8} (h : Sep c) (v : List UInt8) : (date (c :: v)).ok = false := by
  have h1 : c ≠ 74 := by rcases h with rfl | rfl <;> decide
  have h2 : c ≠ 77 := by rcases h with rfl | rfl <;> decide
  show (if c = 74 then (⟨1, _, 0, 0, 0, _, _⟩ : D) else if c = 77 then _ else _).ok = false
  rw [if_neg h1, if_neg h2]
  show (number (c :: v)).2.2 = false
  have : number (c :: v) = number [] := number_c h v []
  rw [this]
  rfl
theorem getD_c (t : List UInt8) (c : UInt8) (v : List UInt8) (n : Nat) : (t ++ c :: v).getD n 0 = if n < t.length then t.getD n 0 else (c :: v).getD (n - t.length) 0 := by
  simp only [List.getD_eq_getElem?_getD]
  split
  · rename_i h; rw [List.getElem?_append_left h]
  · rename_i h; rw [List.getElem?_append_right (by omega)]
theorem day_c {c : UInt8} (h : Sep c) (v t : List UInt8) : day (t ++ c :: v) = day t := by
  have bad : ∀ s, (date s).ok = false → day s = noDy := fun s hs => by
    unfold day slash dayT
    rw [hs]
    simp
  cases t with
  | nil => rw [bad [] rfl, show [] ++ c :: v = c :: v from rfl, bad _ (date_sep h v)]
  | cons x r =>
  generalize ht : x :: r = t
  obtain ⟨n, hn, hl⟩ := date_n t
  have hd := date_c h v x r
  rw [ht] at hd
  have hs : slash (t ++ c :: v) (date t) = slash t (date t) := by
    unfold slash
    rw [hn, Int.toNat_natCast, getD_c]
    by_cases hlt : n < t.length
    · rw [if_pos hlt]
      have h1 : decide ((n : Int) < ((t ++ c :: v).length : Int)) = true := by simp; omega
      have h2 : decide ((n : Int) < (t.length : Int)) = true := by simp; omega
      rw [h1, h2]
    · rw [if_neg hlt]
      have h2 : decide ((n : Int) < (t.length : Int)) = false := by simp; omega
      have : n - t.length = 0 := by omega
      rw [h2, this]
      have h47 : ((c :: v).getD 0 0 == (47 : UInt8)) = false := by rcases h with rfl | rfl <;> rfl
      rw [h47, Bool.and_false, Bool.and_false, Bool.false_and]
  unfold day
  rw [hd, hs]
  split
  · rename_i hsl
    have hlt : n < t.length := by
      unfold slash at hsl
      simp only [Bool.and_eq_true, decide_eq_true_eq] at hsl
      omega
    rw [hn, Int.toNat_natCast, drop_c (by omega), parse8_c h]
  · rfl
theorem comma_c (t : List UInt8) (i : Nat) (hi : i ≤ t.length) : comma (t ++ [32]) i = comma t i := by
  unfold comma
  rw [drop_c hi]
  cases t.drop i <;> rfl
theorem parse7_c (t : List UInt8) : A7.parse (t ++ [32]) = A7.parse t := by
  have hP : ∀ t, A7.parseP (t ++ [32]) = A7.parseP t := by
    intro t
    have hl : A7.letters (t ++ [32]) = A7.letters t := by
      unfold A7.letters
      rw [takeWhile_c (by decide : A7.alphaB 32 = false)]
    unfold A7.parseP
    rw [hl, List.take_append_of_le_length (A7.letters_le t)]
  cases t with
  | nil => exact hP []
  | cons b r =>
    show (if b = 60 then A7.parseQ (r ++ [32]) else A7.parseP (b :: (r ++ [32]))) = (if b = 60 then A7.parseQ r else A7.parseP (b :: r))
    split
    · unfold A7.parseQ
      by_cases hp : A7.place r 62 < r.length
      · have : A7.place (r ++ [32]) 62 = A7.place r 62 := by
          have hne : (List.takeWhile (fun x => x != 62) r).length ≠ r.length := by
            intro e; unfold A7.place at hp; omega
          unfold A7.place
          rw [List.takeWhile_append, if_neg hne]
        rw [this, if_pos hp, if_pos (by simp; omega), List.take_append_of_le_length (by omega)]
      · have hle := A7.place_le r 62
        have heq : (List.takeWhile (fun x => x != 62) r).length = r.length := by unfold A7.place at hp hle; omega
        have : A7.place (r ++ [32]) 62 = r.length + 1 := by
          unfold A7.place
          rw [List.takeWhile_append, if_pos heq]
          simp
        rw [if_neg hp, this, if_neg (by simp)]
    · exact hP (b :: r)
end Z09

set_option maxRecDepth 100000
namespace Z09
open Go Go.AE Go.Proofs

section
variable {s : List UInt8} {i : Nat} {P : Out → Prop}
theorem nameQ_P {F : List UInt8 → Nat → Out} (hi : i ≤ s.length) (h : P (.stop i)) (hF : ∀ a j, j ≤ s.length → P (F a j)) : P (nameQ s i F) := by
  unfold nameQ
  obtain ⟨n, hn, hl, _⟩ := parse7_n (s.drop i)
  rw [List.length_drop] at hl
  split
  · rw [hn, Int.toNat_natCast]; exact hF _ _ (by omega)
  · exact h
theorem offQ_P {F : Int → Nat → Out} (hi : i ≤ s.length) (h : P (.stop i)) (hF : ∀ a j, j ≤ s.length → P (F a j)) : P (offQ s i F) := by
  unfold offQ
  obtain ⟨n, hn, hl⟩ := parse_n (s.drop i)
  rw [List.length_drop] at hl
  split
  · rw [hn, Int.toNat_natCast]; exact hF _ _ (by omega)
  · exact h
theorem dayQ_P {F : Dv → Nat → Out} (hi : i ≤ s.length) (h : P (.stop i)) (hF : ∀ a j, j ≤ s.length → P (F a j)) : P (dayQ s i F) := by
  unfold dayQ
  obtain ⟨n, hn, hl⟩ := day_n (s.drop i)
  rw [List.length_drop] at hl
  split
  · rw [hn, Int.toNat_natCast]; exact hF _ _ (by omega)
  · exact h
theorem comma_lt (h : comma s i = true) : i < s.length := by
  rw [comma_eq] at h
  simp at h
  exact h.1
theorem commaQ_P {F : Nat → Out} (h : P (.stop i)) (hF : ∀ j, j ≤ s.length → P (F j)) : P (commaQ s i F) := by
  unfold commaQ
  split
  · rename_i hc
    exact hF _ (comma_lt hc)
  · exact h
theorem dstOffQ_P {o : Int} {F : Int → Nat → Out} (hi : i ≤ s.length) (h : P (.stop i)) (hF : ∀ a j, j ≤ s.length → P (F a j)) : P (dstOffQ s i o F) := by
  unfold dstOffQ
  split
  · exact offQ_P hi h hF
  · exact hF _ _ hi
theorem dstQ_P {a : List UInt8} {o : Int} {F : Ru → Nat → Out} (hi : i ≤ s.length) (h : ∀ j, j ≤ s.length → P (.stop j)) (hF : ∀ r j, j ≤ s.length → P (F r j)) : P (dstQ s i a o F) := by
  unfold dstQ
  exact nameQ_P hi (h _ hi) fun _ _ h1 => dstOffQ_P h1 (h _ h1) fun _ _ h2 => commaQ_P (h _ h2) fun _ h3 => dayQ_P h3 (h _ h3) fun _ _ h4 => commaQ_P (h _ h4) fun _ h5 => dayQ_P h5 (h _ h5) fun _ _ h6 => hF _ _ h6
theorem parse9_P (h : ∀ j, j ≤ s.length → P (.stop j)) (hr : ∀ r, validRu r = true → P (.rule r)) : P (parse9 s) := by
  have he : ∀ r j, j ≤ s.length → P (endP s r j) := by
    intro r j hj
    unfold endP
    split
    · split
      · rename_i hv; exact hr r hv
      · exact h j hj
    · exact h j hj
  unfold parse9
  refine nameQ_P (Nat.zero_le _) (h 0 (Nat.zero_le _)) fun _ _ h1 => offQ_P h1 (h _ h1) fun _ _ h2 => ?_
  split
  · exact dstQ_P h2 h he
  · exact he _ _ h2
end
theorem parse9_stop {s : List UInt8} {j : Nat} (h : parse9 s = .stop j) : j ≤ s.length :=
  parse9_P (P := fun o => ∀ j, o = .stop j → j ≤ s.length) (fun k hk j e => by cases e; exact hk) (fun r _ j e => by cases e) j h
theorem parse9_valid {s : List UInt8} {r : Ru} (h : parse9 s = .rule r) : validRu r = true :=
  parse9_P (P := fun o => ∀ r, o = .rule r → validRu r = true) (fun k hk r e => by cases e) (fun r hv r' e => by cases e; exact hv) r h

section
variable {s : List UInt8} {i : Nat}
/-- What a string answers, and what it answers with a space behind it. -/
def Twin (s : List UInt8) (o o' : Out) : Prop := ∀ r, o = .rule r → o' = .stop s.length
theorem Twin.stop {j : Nat} {o' : Out} : Twin s (.stop j) o' := fun r e => by cases e
theorem nameQ_c {F F' : List UInt8 → Nat → Out} (hi : i ≤ s.length) (hF : ∀ a j, j ≤ s.length → Twin s (F a j) (F' a j)) : Twin s (nameQ s i F) (nameQ (s ++ [32]) i F') := by
  unfold nameQ
  rw [drop_c hi, parse7_c]
  obtain ⟨n, hn, hl, _⟩ := parse7_n (s.drop i)
  rw [List.length_drop] at hl
  split
  · rw [hn, Int.toNat_natCast]; exact hF _ _ (by omega)
  · exact .stop
theorem offQ_c {F F' : Int → Nat → Out} (hi : i ≤ s.length) (hF : ∀ a j, j ≤ s.length → Twin s (F a j) (F' a j)) : Twin s (offQ s i F) (offQ (s ++ [32]) i F') := by
  unfold offQ
  rw [drop_c hi, parse8_c (Or.inl rfl)]
  obtain ⟨n, hn, hl⟩ := parse_n (s.drop i)
  rw [List.length_drop] at hl
  split
  · rw [hn, Int.toNat_natCast]; exact hF _ _ (by omega)
  · exact .stop
theorem dayQ_c {F F' : Dv → Nat → Out} (hi : i ≤ s.length) (hF : ∀ a j, j ≤ s.length → Twin s (F a j) (F' a j)) : Twin s (dayQ s i F) (dayQ (s ++ [32]) i F') := by
  unfold dayQ
  rw [drop_c hi, day_c (Or.inl rfl)]
  obtain ⟨n, hn, hl⟩ := day_n (s.drop i)
  rw [List.length_drop] at hl
  split
  · rw [hn, Int.toNat_natCast]; exact hF _ _ (by omega)
  · exact .stop
theorem commaQ_c {F F' : Nat → Out} (hi : i ≤ s.length) (hF : ∀ j, j ≤ s.length → Twin s (F j) (F' j)) : Twin s (commaQ s i F) (commaQ (s ++ [32]) i F') := by
  unfold commaQ
  rw [comma_c s i hi]
  split
  · rename_i hc
    exact hF _ (comma_lt hc)
  · exact .stop
theorem dstOffQ_c {o : Int} {F F' : Int → Nat → Out} (hi : i ≤ s.length) (hF : ∀ a j, j ≤ s.length → Twin s (F a j) (F' a j)) : Twin s (dstOffQ s i o F) (dstOffQ (s ++ [32]) i o F') := by
  unfold dstOffQ
  rw [drop_c hi, parse8_c (Or.inl rfl)]
  split
  · exact offQ_c hi hF
  · exact hF _ _ hi
theorem dstQ_c {a : List UInt8} {o : Int} {F F' : Ru → Nat → Out} (hi : i ≤ s.length) (hF : ∀ r j, j ≤ s.length → Twin s (F r j) (F' r j)) : Twin s (dstQ s i a o F) (dstQ (s ++ [32]) i a o F') := by
  unfold dstQ
  exact nameQ_c hi fun _ _ h1 => dstOffQ_c h1 fun _ _ h2 => commaQ_c h2 fun _ h3 => dayQ_c h3 fun _ _ h4 => commaQ_c h4 fun _ h5 => dayQ_c h5 fun _ _ h6 => hF _ _ h6
theorem endP_c {r : Ru} (hi : i ≤ s.length) : Twin s (endP s r i) (endP (s ++ [32]) r i) := by
  intro r' e
  unfold endP at e
  split at e
  · rename_i h
    unfold endP
    rw [if_neg (by simp; omega), h]
  · cases e
end
theorem parse9_c (s : List UInt8) : Twin s (parse9 s) (parse9 (s ++ [32])) := by
  unfold parse9
  refine nameQ_c (Nat.zero_le _) fun a i h1 => offQ_c h1 fun o i h2 => ?_
  have hlt' : i < (s ++ [32]).length := by simp; omega
  rw [if_pos hlt']
  split
  · exact dstQ_c h2 fun r j hj => endP_c hj
  · rename_i hlt
    have hi : i = s.length := by omega
    subst hi
    intro r _
    unfold dstQ nameQ
    rw [drop_c (Nat.le_refl _), List.drop_length, parse7_c]
    rfl
/-- What is accepted is rejected at its end when a space follows. -/
theorem parse9_space {s : List UInt8} {r : Ru} (h : parse9 s = .rule r) : parse9 (s ++ [32]) = .stop s.length := parse9_c s r h
end Z09

set_option maxRecDepth 100000
namespace Z09
open Go Go.AE Go.Proofs

/-! ### spellings -/
def NotD (u : List UInt8) : Prop := u = [] ∨ A8.isD (u.getD 0 0) = false
def End (u : List UInt8) : Prop := u = [] ∨ ∃ c v, u = c :: v ∧ Sep c
theorem End.notD {u : List UInt8} (h : End u) : NotD u := by
  rcases h with rfl | ⟨c, v, rfl, hc⟩
  · exact Or.inl rfl
  · exact Or.inr (sepD hc)
theorem number_dd {n : Nat} (hn : n < 1000) {u : List UInt8} (hu : NotD u) : number (dd n ++ u) = ((n : Int), ((dd n).length : Int), true) := by
  obtain ⟨hd, hv⟩ := A8.dd_ok hn
  have hl := dd_len n
  have hr : A8.runD (dd n ++ u) = dd n := A8.runD_app hd hu
  unfold number
  rw [hr, if_pos hl.2]
  have : A8.num (dd n) = n := hv
  rw [this]
  simp
  omega
theorem after_dd {s : List UInt8} {i n : Nat} {c : UInt8} {u : List UInt8} (hn : n < 1000) (hu : NotD u) (h : s.drop i = c :: (dd n ++ u)) : after s i c = ((n : Int), ((i + 1 + (dd n).length : Nat) : Int), true) := by
  unfold after
  rw [h]
  show (if c = c then _ else _) = _
  rw [if_pos rfl, number_dd hn hu]
  simp
def dspell (k d m w e : Int) : List UInt8 := if k = 1 then 74 :: dd d.toNat else if k = 3 then 77 :: (dd m.toNat ++ (46 :: (dd w.toNat ++ (46 :: dd e.toNat)))) else dd d.toNat
theorem dayF_eq (k d m w e t : Int) : dayF k d m w e t = dspell k d m w e ++ 47 :: A8.fmt t := rfl
theorem valid_time {k d m w e t t' : Int} (h : validDay k d m w e t = true) (h0 : -604799 ≤ t') (h1 : t' ≤ 604799) : validDay k d m w e t' = true := by
  unfold validDay at h ⊢
  simp only [Bool.and_eq_true] at h ⊢
  exact ⟨⟨by simpa using h0, by simpa using h1⟩, h.2⟩
theorem valid_cases {k d m w e t : Int} (h : validDay k d m w e t = true) : (k = 1 ∧ m = 0 ∧ w = 0 ∧ e = 0 ∧ 1 ≤ d ∧ d ≤ 365) ∨ (k = 2 ∧ m = 0 ∧ w = 0 ∧ e = 0 ∧ 0 ≤ d ∧ d ≤ 365) ∨ (k = 3 ∧ d = 0 ∧ 1 ≤ m ∧ m ≤ 12 ∧ 1 ≤ w ∧ w ≤ 5 ∧ 0 ≤ e ∧ e < 7) := by
  unfold validDay at h
  simp only [Bool.or_eq_true, Bool.and_eq_true, decide_eq_true_eq, beq_iff_eq] at h
  omega
theorem dd_cons (n : Nat) (hn : n < 1000) : ∃ b r, dd n = b :: r ∧ A8.isD b = true := by
  have hl := dd_len n
  obtain ⟨hd, _⟩ := A8.dd_ok hn
  cases h : dd n with
  | nil => rw [h] at hl; simp at hl
  | cons b r => exact ⟨b, r, rfl, hd b (by rw [show A8.dd n = dd n from rfl, h]; exact List.mem_cons_self ..)⟩
theorem date_cons (b : UInt8) (r : List UInt8) : date (b :: r) = if b = 74 then ⟨1, (number r).1, 0, 0, 0, (number r).2.1 + 1, (number r).2.2⟩ else if b = 77 then dateM (b :: r) else ⟨2, (number (b :: r)).1, 0, 0, 0, (number (b :: r)).2.1, (number (b :: r)).2.2⟩ := rfl
theorem date_spell {k d m w e t : Int} (hv : validDay k d m w e t = true) {u : List UInt8} (hu : NotD u) : date (dspell k d m w e ++ u) = ⟨k, d, m, w, e, ((dspell k d m w e).length : Int), true⟩ := by
  rcases valid_cases hv with ⟨rfl, rfl, rfl, rfl, h0, h1⟩ | ⟨rfl, rfl, rfl, rfl, h0, h1⟩ | ⟨rfl, rfl, h0, h1, h2, h3, h4, h5⟩
  · obtain ⟨n, rfl⟩ := nat_of (show 0 ≤ d by omega)
    have : dspell 1 n 0 0 0 = 74 :: dd n := by unfold dspell; rw [if_pos rfl, Int.toNat_natCast]
    rw [this]
    rw [List.cons_append, date_cons, if_pos rfl, number_dd (by omega) hu]
    simp
  · obtain ⟨n, rfl⟩ := nat_of h0
    have : dspell 2 n 0 0 0 = dd n := by unfold dspell; rw [if_neg (by decide), if_neg (by decide), Int.toNat_natCast]
    rw [this]
    have hnum := number_dd (show n < 1000 by omega) hu
    obtain ⟨b, r, hb, hd⟩ := dd_cons n (by omega)
    have h1 : b ≠ 74 := by rintro rfl; exact absurd hd (by decide)
    have h2 : b ≠ 77 := by rintro rfl; exact absurd hd (by decide)
    rw [hb] at hnum ⊢
    rw [List.cons_append] at hnum ⊢
    rw [date_cons, if_neg h1, if_neg h2, hnum]
  · obtain ⟨M, rfl⟩ := nat_of (show 0 ≤ m by omega)
    obtain ⟨W, rfl⟩ := nat_of (show 0 ≤ w by omega)
    obtain ⟨E, rfl⟩ := nat_of h4
    have : dspell 3 0 M W E = 77 :: (dd M ++ (46 :: (dd W ++ (46 :: dd E)))) := by unfold dspell; rw [if_neg (by decide), if_pos rfl, Int.toNat_natCast, Int.toNat_natCast, Int.toNat_natCast]
    rw [this]
    have e0 : (77 :: (dd M ++ (46 :: (dd W ++ (46 :: dd E)))) : List UInt8) ++ u = 77 :: (dd M ++ (46 :: (dd W ++ (46 :: (dd E ++ u))))) := by simp
    rw [e0]
    have d46 : ∀ x : List UInt8, NotD (46 :: x) := fun x => Or.inr (by decide : A8.isD 46 = false)
    rw [date_cons, if_neg (by decide), if_pos rfl]
    unfold dateM
    have hn1 : number (List.drop 1 (77 :: (dd M ++ (46 :: (dd W ++ (46 :: (dd E ++ u))))))) = ((M : Int), ((dd M).length : Int), true) := number_dd (by omega) (d46 _)
    rw [hn1]
    simp only [Int.toNat_natCast, if_true]
    have a1 : after (77 :: (dd M ++ (46 :: (dd W ++ (46 :: (dd E ++ u)))))) ((dd M).length + 1) 46 = ((W : Int), (((dd M).length + 1 + 1 + (dd W).length : Nat) : Int), true) := by
      refine after_dd (by omega) (d46 (dd E ++ u)) ?_
      rw [List.drop_succ_cons]
      exact List.drop_left
    rw [a1]
    simp only [Int.toNat_natCast, if_true]
    have a2 : after (77 :: (dd M ++ (46 :: (dd W ++ (46 :: (dd E ++ u)))))) ((dd M).length + 1 + 1 + (dd W).length) 46 = ((E : Int), (((dd M).length + 1 + 1 + (dd W).length + 1 + (dd E).length : Nat) : Int), true) := by
      refine after_dd (by omega) hu ?_
      have : (77 :: (dd M ++ (46 :: (dd W ++ (46 :: (dd E ++ u))))) : List UInt8) = (77 :: (dd M ++ (46 :: dd W))) ++ 46 :: (dd E ++ u) := by simp
      rw [this]
      have hl : (77 :: (dd M ++ (46 :: dd W)) : List UInt8).length = (dd M).length + 1 + 1 + (dd W).length := by simp; omega
      rw [← hl]
      exact List.drop_left
    rw [a2]
    simp only [D.mk.injEq, true_and, and_true]
    simp only [List.length_cons, List.length_append]
    omega
theorem parse8_fmt {t : Int} (h0 : -604799 ≤ t) (h1 : t ≤ 604799) {u : List UInt8} (hu : End u) : A8.parse (A8.fmt t ++ u) = (t, ((A8.fmt t).length : Int), true) := by
  rcases hu with rfl | ⟨c, v, rfl, hc⟩
  · rw [List.append_nil]; exact A8.parse_fmt h0 h1
  · rw [parse8_c hc]; exact A8.parse_fmt h0 h1
theorem getD_at (x : List UInt8) (b : UInt8) (r : List UInt8) : (x ++ b :: r).getD x.length 0 = b := by
  simp [List.getD_eq_getElem?_getD]
/-- A day with its time. -/
theorem day_form {k d m w e t : Int} (hv : validDay k d m w e t = true) {u : List UInt8} (hu : End u) : day (dayF k d m w e t ++ u) = ⟨k, d, m, w, e, t, ((dayF k d m w e t).length : Int), true⟩ := by
  obtain ⟨t0, t1, _⟩ := validDay_b hv
  rw [dayF_eq]
  have e0 : dspell k d m w e ++ 47 :: A8.fmt t ++ u = dspell k d m w e ++ 47 :: (A8.fmt t ++ u) := by simp
  rw [e0]
  have hd := date_spell hv (u := 47 :: (A8.fmt t ++ u)) (Or.inr (by decide : A8.isD 47 = false))
  have hs : slash (dspell k d m w e ++ 47 :: (A8.fmt t ++ u)) (date (dspell k d m w e ++ 47 :: (A8.fmt t ++ u))) = true := by
    rw [hd]
    unfold slash
    simp only [Int.toNat_natCast, getD_at]
    simp
    omega
  unfold day
  rw [if_pos hs, hd]
  simp only [Int.toNat_natCast]
  have hdrop : (dspell k d m w e ++ 47 :: (A8.fmt t ++ u)).drop ((dspell k d m w e).length + 1) = A8.fmt t ++ u := by
    have : dspell k d m w e ++ 47 :: (A8.fmt t ++ u) = (dspell k d m w e ++ [47]) ++ (A8.fmt t ++ u) := by simp
    rw [this, show (dspell k d m w e).length + 1 = (dspell k d m w e ++ [47]).length by simp]
    exact List.drop_left
  rw [hdrop, parse8_fmt t0 t1 hu]
  unfold dayT
  simp only [hv, Bool.and_self, if_true, Dy.mk.injEq, true_and, and_true]
  simp only [List.length_append, List.length_cons]
  omega
/-- A day without a time. -/
theorem day_short {k d m w e t : Int} (hv : validDay k d m w e t = true) {c : UInt8} (v : List UInt8) (hc : Sep c) : day (dspell k d m w e ++ c :: v) = ⟨k, d, m, w, e, 7200, ((dspell k d m w e).length : Int), true⟩ := by
  have hd := date_spell hv (u := c :: v) (Or.inr (sepD hc))
  have h47 : c ≠ 47 := by rcases hc with rfl | rfl <;> decide
  have hs : slash (dspell k d m w e ++ c :: v) (date (dspell k d m w e ++ c :: v)) = false := by
    rw [hd]
    unfold slash
    simp only [Int.toNat_natCast, getD_at]
    simp [h47]
  unfold day
  rw [hs, hd]
  unfold dayT
  simp only [valid_time hv (by decide : (-604799 : Int) ≤ 7200) (by decide), Bool.and_self, if_true, Bool.false_eq_true, if_false]
theorem short_eq (k d m w e : Int) : (dayF k d m w e 7200).take ((dayF k d m w e 7200).length - 2) = dspell k d m w e := by
  have h : A8.fmt 7200 = [50] := by decide
  rw [dayF_eq, h]
  rw [List.length_append]
  exact List.take_left
end Z09

set_option maxRecDepth 100000
namespace Z09
open Go Go.AE Go.Proofs
attribute [local irreducible] loopK evCode evSpec loopB norm

theorem valid7_le {s : List UInt8} (h : A7.valid s = true) : 3 ≤ s.length ∧ s.length ≤ 255 := by
  unfold A7.valid at h
  simp only [Bool.and_eq_true, decide_eq_true_eq] at h
  exact h.2
theorem validRu_le {r : Ru} (h : validRu r = true) : r.a.length ≤ 255 ∧ r.b.length ≤ 255 := by
  unfold validRu validRule at h
  rw [Bool.and_eq_true, Bool.and_eq_true] at h
  refine ⟨(valid7_le h.1.1).2, ?_⟩
  cases hh : r.h with
  | true =>
    rw [hh] at h
    simp only [if_true, Bool.and_eq_true] at h
    exact (valid7_le h.2.1.1.1).2
  | false =>
    rw [hh] at h
    simp only [Bool.false_eq_true, if_false, Bool.and_eq_true, decide_eq_true_eq] at h
    have : r.b = [] := h.2.1.1.1.1.1.1.1.1.1.1.1.1.1
    rw [this]; decide
theorem f3_ev (s : List UInt8) (K : List AV → Prop) (hK : K [bo true]) : evSpec C7 Try.f3 [st s] K := by
  have hb : ∀ b : Bool, b = true → K [AV.imm (IV.bool b)] := fun b h => by rw [h]; exact hK
  rw [f3_in]
  refine brn_intro (fun _ => hK) (fun h => ?_)
  have hl : s.length ≤ 1000 := by simp at h; omega
  cases ho : parse9 s with
  | stop j =>
    have e1 : ruP s = zR := by unfold ruP; rw [ho]; rfl
    have e2 : whyP s = 14 := by unfold whyP; rw [ho]; rfl
    have e3 : atP s = j := by unfold atP; rw [ho]; rfl
    have hj := parse9_stop ho
    rw [e1, e2, e3]
    refine ⟨by omega, brn_intro (fun _ => hb _ ?_) (fun h => by simp at h)⟩
    simp [zR, zD, hj]
  | rule r =>
    have e1 : ruP s = r := by unfold ruP; rw [ho]; rfl
    have e2 : whyP s = 0 := by unfold whyP; rw [ho]; rfl
    have e3 : atP s = 0 := by unfold atP; rw [ho]; rfl
    have hv := parse9_valid ho
    have hs := parse9_space ho
    have e4 : whyP (s ++ [32]) = 14 := by unfold whyP; rw [hs]; rfl
    have e5 : atP (s ++ [32]) = (s.length : Int) := by unfold atP; rw [hs]; rfl
    have hle := validRu_le hv
    rw [e1, e2, e3]
    refine ⟨by omega, brn_intro (fun h => by simp at h) (fun _ => ⟨by simp; omega, by simp; omega, fun _ => by omega, fun _ => by omega, hb _ ?_⟩)⟩
    rw [e4, e5]
    unfold validRu at hv
    rw [hv]
    simp
theorem dspell_len {k d m w e t : Int} (hv : validDay k d m w e t = true) : (dspell k d m w e).length ≤ 12 := by
  unfold dspell
  have ld := dd_len d.toNat
  have lm := dd_len m.toNat
  have lw := dd_len w.toNat
  have le := dd_len e.toNat
  split
  · simp only [List.length_cons]; omega
  · split
    · simp only [List.length_cons, List.length_append]; omega
    · omega
theorem dayF_len {k d m w e t : Int} (hv : validDay k d m w e t = true) : 1 ≤ (dayF k d m w e t).length ∧ (dayF k d m w e t).length ≤ 23 := by
  obtain ⟨t0, t1, _⟩ := validDay_b hv
  have h1 := dspell_len hv
  have h2 := fmt_len t0 t1
  rw [dayF_eq, List.length_append, List.length_cons]
  omega
theorem f6_ev (k d m w e u : Int) (K : List AV → Prop) (hK : K [bo true]) : evSpec C7 Try.f6 [dayAV k d m w e u] K := by
  have hb : ∀ b : Bool, b = true → K [AV.imm (IV.bool b)] := fun b h => by rw [h]; exact hK
  rw [f6_in]
  refine brn_intro (fun _ => hK) (fun h => ?_)
  have hv : validDay k d m w e u = true := by simpa using h
  have hv2 := valid_time hv (by decide : (-604799 : Int) ≤ 7200) (by decide)
  have l1 := dayF_len hv
  have l2 := dayF_len hv2
  have lx : (dayF k d m w e 7200).length = (dspell k d m w e).length + 2 := by
    have h : A8.fmt 7200 = [50] := by decide
    rw [dayF_eq, h, List.length_append]; rfl
  have ew : IntKind.wrap .i64 (((dayF k d m w e 7200).length : Int) - 2) = ((dspell k d m w e).length : Int) := by rw [wrap64 (by omega) (by omega)]; omega
  have es : List.take (Int.toNat ((dspell k d m w e).length : Int) - 0) (List.drop 0 (dayF k d m w e 7200)) = dspell k d m w e := by
    have := short_eq k d m w e
    rw [lx, Nat.add_sub_cancel] at this
    rw [Int.toNat_natCast, Nat.sub_zero, List.drop_zero]
    exact this
  simp only [ew, es]
  have p1 := day_form hv (u := [44, 74, 49]) (Or.inr ⟨44, _, rfl, Or.inr rfl⟩)
  have p2 := day_short hv (c := 44) [74, 49] (Or.inr rfl)
  rw [p1, p2]
  have hbig : big = 9223372036854774000 := rfl
  refine ⟨hv, by simp; omega, by simp; omega, hv2, by omega, by omega, by simp; omega, by simp; omega, hb _ ?_⟩
  simp
end Z09

namespace Go.Proofs.Ytoliinccocdmgaa
open Go Go.AE Go.Proofs Z09
open Go.ChangeShapes Go.WideShapes Go.ChangeAt Go.RowKit Go.ChangeMaps
attribute [local irreducible] loopK evCode evSpec loopB norm k6 evFunc
theorem Try.own : ownKnob Try.prog.godebug = none := by kernel_rfl
set_option maxRecDepth 100000 in
theorem f3_lifted (os : Os) (started : os.Started) (H : Type) (enc : TypeId × Value → H) :
    ReturnsInHanded {} Try.checked os 3 .any (Rows.posixtzAcceptsExactlySpec.pre6 enc Try.prog Try.f3 Rows.posixtzAcceptsExactlyRow.domain false) (Rows.posixtzAcceptsExactlySpec.post enc Try.prog Try.f3 false true false false) := by
  refine returnsInHanded_of_change (C := Try.checked) Try.own started (by kernel_rfl) Try.func3
    (ChangeSpec.witness6 (enc := enc) (C := Try.checked) false ⟨#[], #[.string ⟨#[]⟩], []⟩ 8 (by kernel_rfl) (by kernel_rfl) (by kernel_rfl) (by kernel_rfl)) ?_
  intro W base args ds gs before hval0 hW hcnd _
  obtain ⟨l⟩ := args
  have hval : ∀ (j : Nat) t v, Try.f3.params[j]? = some t → l[j]? = some v → Value.okWide Try.prog W .any base t v := fun j t v h1 h2 => hval0 j t v h1 (by simpa using h2)
  have hW' := hW
  obtain ⟨p, q, hB, hV, rfl, hfz, hnd⟩ := hW
  obtain ⟨rfl, rfl⟩ := trodVars_none hV
  have hA0 : DataW.TrodAll enc Try.prog W 0 (fun _ => true) true [9] l ds p := by have h := hB; rw [Try.params3] at h; exact h
  rw [Try.params3] at hval
  clear hB hval0
  obtain ⟨v0, l, d0, ds, p0, p, rfl, rfl, h0, hA1, rfl⟩ := all_cons hA0
  obtain ⟨rfl, rfl, rfl⟩ := all_nil hA1
  obtain ⟨a0, rfl, rfl, rfl, w0⟩ := open_string Try.underlying9 (hval 0 9 v0 rfl rfl) h0
  have m0 : (bytesOf a0).length ≤ 9223372036854775807 := by rw [← size_bytes]; exact w0
  have hspec := mk (pres := []) (args := [.imm (.str (bytesOf a0))]) (res := [.imm (.bool true)]) okF7 at3 (by decide) rfl (fun _ K hK => f3_ev (bytesOf a0) K hK)
  refine (bool_calls hspec (fun p h => by cases h) W _ rfl (fun j c hc => ?_) (fun n l h => by cases h)).mono fun e W' ⟨he, hw⟩ => ?_
  · match j with
    | 0 => simp only [List.getElem?_cons_zero, Option.some.injEq] at hc; subst hc; exact .imm (.str rfl m0)
    | j + 1 => simp at hc
  subst he
  exact ⟨_, rfl, row_post hW' rfl (by kernel_rfl) (by kernel_rfl) rfl rfl Try.underlying4 hw⟩
theorem f3_holds : Rows.PosixtzAcceptsExactlySaid :=
  OpenClaim.holds_of_wide 3 Try.f3 rfl rfl rfl rfl rfl rfl rfl ⟨rfl, rfl, rfl, rfl, rfl⟩ rfl rfl rfl rfl rfl (by kernel_rfl) Try.func3 (by kernel_rfl)
    (of_decide_eq_true (by kernel_rfl)) (by unfold Func.isWrapper; first | (rw [if_pos (by decide +kernel)]; kernel_rfl) | (rw [if_neg (by decide +kernel)]; exact ⟨rfl, rfl⟩))
    (fun os started H enc _ => f3_lifted os started H enc)
end Go.Proofs.Ytoliinccocdmgaa

