/- The walk's evaluator and its laws (over whatever program), and contracts of the program's functions. -/
import Derived.Test.YtibnobjkeiodbaaDoorAe3
import Derived.KernelRfl
import Derived.Laws.BitsLemmas
set_option linter.all false
set_option maxRecDepth 100000
namespace Z16
open Go Go.AE Go.Proofs
attribute [local irreducible] loopK evCode evSpec loopB norm
theorem f7_in (K : List AV → Prop) : evSpec C4 Tryd.f7 [] K =
  (okT [[IV.int IntKind.i32 (-18000 : Int), IV.bool false, IV.int IntKind.u8 (4 : Int)]] ∧
  (↑(List.length [[IV.int IntKind.i32 (-18000 : Int), IV.bool false, IV.int IntKind.u8 (4 : Int)]]) : Int) ≤
      (100000000000 : Int) ∧
    (↑(List.length (enc (tys [[IV.int IntKind.i32 (-18000 : Int), IV.bool false, IV.int IntKind.u8 (4 : Int)]]))) :
          Int) ≤
        (1000000000000 : Int) ∧
      (↑(List.length (List.map u8 [(0 : Int), (0 : Int), (0 : Int), (0 : Int), (2 : Int), (0 : Int)])) : Int) ≤
          (1000000000000 : Int) ∧
        (↑(List.length (enc (tys [[IV.int IntKind.i32 (-18000 : Int), IV.bool false, IV.int IntKind.u8 (4 : Int)]]))) :
              Int) ≤
            big ∧
          (↑(List.length (List.map u8 [(255 : Int), (255 : Int), (185 : Int), (176 : Int), (0 : Int), (4 : Int)])) :
                Int) ≤
              big ∧
            (decide
                    (enc (tys [[IV.int IntKind.i32 (-18000 : Int), IV.bool false, IV.int IntKind.u8 (4 : Int)]]) =
                      List.map u8 [(255 : Int), (255 : Int), (185 : Int), (176 : Int), (0 : Int), (4 : Int)]) =
                  true →
                okT
                  (List.map cellsT
                    (dec
                      (enc (tys [[IV.int IntKind.i32 (-18000 : Int), IV.bool false, IV.int IntKind.u8 (4 : Int)]]))))) ∧
              (decide
                      (enc (tys [[IV.int IntKind.i32 (-18000 : Int), IV.bool false, IV.int IntKind.u8 (4 : Int)]]) =
                        List.map u8 [(255 : Int), (255 : Int), (185 : Int), (176 : Int), (0 : Int), (4 : Int)]) =
                    true →
                  okT [[IV.int IntKind.i32 (-18000 : Int), IV.bool false, IV.int IntKind.u8 (4 : Int)]]) ∧
                (decide
                        (enc (tys [[IV.int IntKind.i32 (-18000 : Int), IV.bool false, IV.int IntKind.u8 (4 : Int)]]) =
                          List.map u8 [(255 : Int), (255 : Int), (185 : Int), (176 : Int), (0 : Int), (4 : Int)]) =
                      true →
                    (↑(List.length
                            (List.map cellsT
                              (dec
                                (enc
                                  (tys
                                    [[IV.int IntKind.i32 (-18000 : Int), IV.bool false,
                                        IV.int IntKind.u8 (4 : Int)]]))))) :
                        Int) ≤
                      big) ∧
                  (decide
                          (enc (tys [[IV.int IntKind.i32 (-18000 : Int), IV.bool false, IV.int IntKind.u8 (4 : Int)]]) =
                            List.map u8 [(255 : Int), (255 : Int), (185 : Int), (176 : Int), (0 : Int), (4 : Int)]) =
                        true →
                      (↑(List.length
                              [[IV.int IntKind.i32 (-18000 : Int), IV.bool false, IV.int IntKind.u8 (4 : Int)]]) :
                          Int) ≤
                        big) ∧
                    ((decide
                                  (enc
                                      (tys
                                        [[IV.int IntKind.i32 (-18000 : Int), IV.bool false,
                                            IV.int IntKind.u8 (4 : Int)]]) =
                                    List.map u8
                                      [(255 : Int), (255 : Int), (185 : Int), (176 : Int), (0 : Int), (4 : Int)]) &&
                                decide
                                  (tys
                                      (List.map cellsT
                                        (dec
                                          (enc
                                            (tys
                                              [[IV.int IntKind.i32 (-18000 : Int), IV.bool false,
                                                  IV.int IntKind.u8 (4 : Int)]])))) =
                                    tys
                                      [[IV.int IntKind.i32 (-18000 : Int), IV.bool false,
                                          IV.int IntKind.u8 (4 : Int)]]) &&
                              decOk
                                (enc
                                  (tys
                                    [[IV.int IntKind.i32 (-18000 : Int), IV.bool false,
                                        IV.int IntKind.u8 (4 : Int)]])) &&
                            !decOk (List.map u8 [(0 : Int), (0 : Int), (0 : Int), (0 : Int), (2 : Int), (0 : Int)])) =
                          true →
                        okT
                          (List.map cellsT
                            (dec
                              (enc
                                (tys
                                  [[IV.int IntKind.i32 (-18000 : Int), IV.bool false,
                                      IV.int IntKind.u8 (4 : Int)]]))))) ∧
                      ((decide
                                    (enc
                                        (tys
                                          [[IV.int IntKind.i32 (-18000 : Int), IV.bool false,
                                              IV.int IntKind.u8 (4 : Int)]]) =
                                      List.map u8
                                        [(255 : Int), (255 : Int), (185 : Int), (176 : Int), (0 : Int), (4 : Int)]) &&
                                  decide
                                    (tys
                                        (List.map cellsT
                                          (dec
                                            (enc
                                              (tys
                                                [[IV.int IntKind.i32 (-18000 : Int), IV.bool false,
                                                    IV.int IntKind.u8 (4 : Int)]])))) =
                                      tys
                                        [[IV.int IntKind.i32 (-18000 : Int), IV.bool false,
                                            IV.int IntKind.u8 (4 : Int)]]) &&
                                decOk
                                  (enc
                                    (tys
                                      [[IV.int IntKind.i32 (-18000 : Int), IV.bool false,
                                          IV.int IntKind.u8 (4 : Int)]])) &&
                              !decOk (List.map u8 [(0 : Int), (0 : Int), (0 : Int), (0 : Int), (2 : Int), (0 : Int)])) =
                            true →
                          (↑(List.length
                                  (List.map cellsT
                                    (dec
                                      (enc
                                        (tys
                                          [[IV.int IntKind.i32 (-18000 : Int), IV.bool false,
                                              IV.int IntKind.u8 (4 : Int)]]))))) :
                              Int) ≤
                            big) ∧
                        ((decide
                                        (enc
                                            (tys
                                              [[IV.int IntKind.i32 (-18000 : Int), IV.bool false,
                                                  IV.int IntKind.u8 (4 : Int)]]) =
                                          List.map u8
                                            [(255 : Int), (255 : Int), (185 : Int), (176 : Int), (0 : Int),
                                              (4 : Int)]) &&
                                      decide
                                        (tys
                                            (List.map cellsT
                                              (dec
                                                (enc
                                                  (tys
                                                    [[IV.int IntKind.i32 (-18000 : Int), IV.bool false,
                                                        IV.int IntKind.u8 (4 : Int)]])))) =
                                          tys
                                            [[IV.int IntKind.i32 (-18000 : Int), IV.bool false,
                                                IV.int IntKind.u8 (4 : Int)]]) &&
                                    decOk
                                      (enc
                                        (tys
                                          [[IV.int IntKind.i32 (-18000 : Int), IV.bool false,
                                              IV.int IntKind.u8 (4 : Int)]])) &&
                                  !decOk
                                      (List.map u8
                                        [(0 : Int), (0 : Int), (0 : Int), (0 : Int), (2 : Int), (0 : Int)]) &&
                                check
                                    (tys
                                      (List.map cellsT
                                        (dec
                                          (enc
                                            (tys
                                              [[IV.int IntKind.i32 (-18000 : Int), IV.bool false,
                                                  IV.int IntKind.u8 (4 : Int)]])))))
                                    (5 : Int) ==
                                  (0 : Int)) =
                              true →
                            okT
                              (List.map cellsT
                                (dec
                                  (enc
                                    (tys
                                      [[IV.int IntKind.i32 (-18000 : Int), IV.bool false,
                                          IV.int IntKind.u8 (4 : Int)]]))))) ∧
                          ((decide
                                          (enc
                                              (tys
                                                [[IV.int IntKind.i32 (-18000 : Int), IV.bool false,
                                                    IV.int IntKind.u8 (4 : Int)]]) =
                                            List.map u8
                                              [(255 : Int), (255 : Int), (185 : Int), (176 : Int), (0 : Int),
                                                (4 : Int)]) &&
                                        decide
                                          (tys
                                              (List.map cellsT
                                                (dec
                                                  (enc
                                                    (tys
                                                      [[IV.int IntKind.i32 (-18000 : Int), IV.bool false,
                                                          IV.int IntKind.u8 (4 : Int)]])))) =
                                            tys
                                              [[IV.int IntKind.i32 (-18000 : Int), IV.bool false,
                                                  IV.int IntKind.u8 (4 : Int)]]) &&
                                      decOk
                                        (enc
                                          (tys
                                            [[IV.int IntKind.i32 (-18000 : Int), IV.bool false,
                                                IV.int IntKind.u8 (4 : Int)]])) &&
                                    !decOk
                                        (List.map u8
                                          [(0 : Int), (0 : Int), (0 : Int), (0 : Int), (2 : Int), (0 : Int)]) &&
                                  check
                                      (tys
                                        (List.map cellsT
                                          (dec
                                            (enc
                                              (tys
                                                [[IV.int IntKind.i32 (-18000 : Int), IV.bool false,
                                                    IV.int IntKind.u8 (4 : Int)]])))))
                                      (5 : Int) ==
                                    (0 : Int)) =
                                true →
                              (↑(List.length
                                      (List.map cellsT
                                        (dec
                                          (enc
                                            (tys
                                              [[IV.int IntKind.i32 (-18000 : Int), IV.bool false,
                                                  IV.int IntKind.u8 (4 : Int)]]))))) :
                                  Int) ≤
                                big) ∧
                            ((decide
                                              (enc
                                                  (tys
                                                    [[IV.int IntKind.i32 (-18000 : Int), IV.bool false,
                                                        IV.int IntKind.u8 (4 : Int)]]) =
                                                List.map u8
                                                  [(255 : Int), (255 : Int), (185 : Int), (176 : Int), (0 : Int),
                                                    (4 : Int)]) &&
                                            decide
                                              (tys
                                                  (List.map cellsT
                                                    (dec
                                                      (enc
                                                        (tys
                                                          [[IV.int IntKind.i32 (-18000 : Int), IV.bool false,
                                                              IV.int IntKind.u8 (4 : Int)]])))) =
                                                tys
                                                  [[IV.int IntKind.i32 (-18000 : Int), IV.bool false,
                                                      IV.int IntKind.u8 (4 : Int)]]) &&
                                          decOk
                                            (enc
                                              (tys
                                                [[IV.int IntKind.i32 (-18000 : Int), IV.bool false,
                                                    IV.int IntKind.u8 (4 : Int)]])) &&
                                        !decOk
                                            (List.map u8
                                              [(0 : Int), (0 : Int), (0 : Int), (0 : Int), (2 : Int), (0 : Int)]) &&
                                      check
                                          (tys
                                            (List.map cellsT
                                              (dec
                                                (enc
                                                  (tys
                                                    [[IV.int IntKind.i32 (-18000 : Int), IV.bool false,
                                                        IV.int IntKind.u8 (4 : Int)]])))))
                                          (5 : Int) ==
                                        (0 : Int) &&
                                    check
                                        (tys
                                          (List.map cellsT
                                            (dec
                                              (enc
                                                (tys
                                                  [[IV.int IntKind.i32 (-18000 : Int), IV.bool false,
                                                      IV.int IntKind.u8 (4 : Int)]])))))
                                        (4 : Int) ==
                                      (8 : Int)) =
                                  true →
                                okT
                                  [[IV.int IntKind.i32 (0 : Int), IV.bool false, IV.int IntKind.u8 (9 : Int)],
                                    [IV.int IntKind.i32 (-2147483648 : Int), IV.bool false,
                                      IV.int IntKind.u8 (0 : Int)]]) ∧
                              ((decide
                                                (enc
                                                    (tys
                                                      [[IV.int IntKind.i32 (-18000 : Int), IV.bool false,
                                                          IV.int IntKind.u8 (4 : Int)]]) =
                                                  List.map u8
                                                    [(255 : Int), (255 : Int), (185 : Int), (176 : Int), (0 : Int),
                                                      (4 : Int)]) &&
                                              decide
                                                (tys
                                                    (List.map cellsT
                                                      (dec
                                                        (enc
                                                          (tys
                                                            [[IV.int IntKind.i32 (-18000 : Int), IV.bool false,
                                                                IV.int IntKind.u8 (4 : Int)]])))) =
                                                  tys
                                                    [[IV.int IntKind.i32 (-18000 : Int), IV.bool false,
                                                        IV.int IntKind.u8 (4 : Int)]]) &&
                                            decOk
                                              (enc
                                                (tys
                                                  [[IV.int IntKind.i32 (-18000 : Int), IV.bool false,
                                                      IV.int IntKind.u8 (4 : Int)]])) &&
                                          !decOk
                                              (List.map u8
                                                [(0 : Int), (0 : Int), (0 : Int), (0 : Int), (2 : Int), (0 : Int)]) &&
                                        check
                                            (tys
                                              (List.map cellsT
                                                (dec
                                                  (enc
                                                    (tys
                                                      [[IV.int IntKind.i32 (-18000 : Int), IV.bool false,
                                                          IV.int IntKind.u8 (4 : Int)]])))))
                                            (5 : Int) ==
                                          (0 : Int) &&
                                      check
                                          (tys
                                            (List.map cellsT
                                              (dec
                                                (enc
                                                  (tys
                                                    [[IV.int IntKind.i32 (-18000 : Int), IV.bool false,
                                                        IV.int IntKind.u8 (4 : Int)]])))))
                                          (4 : Int) ==
                                        (8 : Int)) =
                                    true →
                                  (↑(List.length
                                          [[IV.int IntKind.i32 (0 : Int), IV.bool false, IV.int IntKind.u8 (9 : Int)],
                                            [IV.int IntKind.i32 (-2147483648 : Int), IV.bool false,
                                              IV.int IntKind.u8 (0 : Int)]]) :
                                      Int) ≤
                                    big) ∧
                                K [AV.imm (IV.bool true)]) := by kernel_rfl
theorem f3_in (b : List
  UInt8) (xs : List
  (List
    IV)) (n : Int) (s : List
  UInt8) (K : List AV → Prop) : evSpec C5 Tryd.f3 [AV.imm (IV.bytes b), AV.imm (IV.sl (3 : Nat) xs), i64 n, st s] K =
  (brn (!true || decide ((↑(List.length b) : Int) > (1000 : Int)) || decide ((↑(List.length xs) : Int) > (100 : Int)))
  (K [AV.imm (IV.bool true)])
  ((6 : Int) ≠ (0 : Int) ∧
    (0 : Int) ≤
        IntKind.wrap IntKind.i64 (IntKind.wrap IntKind.i64 (Int.tdiv (↑(List.length b) : Int) (6 : Int)) * (6 : Int)) ∧
      IntKind.wrap IntKind.i64 (IntKind.wrap IntKind.i64 (Int.tdiv (↑(List.length b) : Int) (6 : Int)) * (6 : Int)) ≤
          (↑(List.length b) : Int) ∧
        (↑(List.length
                  (List.take
                    (Int.toNat
                        (IntKind.wrap IntKind.i64
                          (IntKind.wrap IntKind.i64 (Int.tdiv (↑(List.length b) : Int) (6 : Int)) * (6 : Int))) -
                      (0 : Nat))
                    (List.drop (0 : Nat) b))) :
              Int) ≤
            (1000000000000 : Int) ∧
          (↑(List.length
                    (List.take
                      (Int.toNat
                          (IntKind.wrap IntKind.i64
                            (IntKind.wrap IntKind.i64 (Int.tdiv (↑(List.length b) : Int) (6 : Int)) * (6 : Int))) -
                        (0 : Nat))
                      (List.drop (0 : Nat) b))) :
                Int) ≤
              (1000000000000 : Int) ∧
            okT
                (List.map cellsT
                  (dec
                    (List.take
                      (Int.toNat
                          (IntKind.wrap IntKind.i64
                            (IntKind.wrap IntKind.i64 (Int.tdiv (↑(List.length b) : Int) (6 : Int)) * (6 : Int))) -
                        (0 : Nat))
                      (List.drop (0 : Nat) b)))) ∧
              okT
                  (List.map cellsT
                    (dec
                      (List.take
                        (Int.toNat
                            (IntKind.wrap IntKind.i64
                              (IntKind.wrap IntKind.i64 (Int.tdiv (↑(List.length b) : Int) (6 : Int)) * (6 : Int))) -
                          (0 : Nat))
                        (List.drop (0 : Nat) b)))) ∧
                (↑(List.length
                          (List.map cellsT
                            (dec
                              (List.take
                                (Int.toNat
                                    (IntKind.wrap IntKind.i64
                                      (IntKind.wrap IntKind.i64 (Int.tdiv (↑(List.length b) : Int) (6 : Int)) *
                                        (6 : Int))) -
                                  (0 : Nat))
                                (List.drop (0 : Nat) b))))) :
                      Int) ≤
                    big ∧
                  (↑(List.length
                            (List.map cellsT
                              (dec
                                (List.take
                                  (Int.toNat
                                      (IntKind.wrap IntKind.i64
                                        (IntKind.wrap IntKind.i64 (Int.tdiv (↑(List.length b) : Int) (6 : Int)) *
                                          (6 : Int))) -
                                    (0 : Nat))
                                  (List.drop (0 : Nat) b))))) :
                        Int) ≤
                      big ∧
                    ((!decide
                                (tys
                                    (List.map cellsT
                                      (dec
                                        (List.take
                                          (Int.toNat
                                              (IntKind.wrap IntKind.i64
                                                (IntKind.wrap IntKind.i64
                                                    (Int.tdiv (↑(List.length b) : Int) (6 : Int)) *
                                                  (6 : Int))) -
                                            (0 : Nat))
                                          (List.drop (0 : Nat) b)))) =
                                  tys
                                    (List.map cellsT
                                      (dec
                                        (List.take
                                          (Int.toNat
                                              (IntKind.wrap IntKind.i64
                                                (IntKind.wrap IntKind.i64
                                                    (Int.tdiv (↑(List.length b) : Int) (6 : Int)) *
                                                  (6 : Int))) -
                                            (0 : Nat))
                                          (List.drop (0 : Nat) b))))) ||
                            !decOk
                                  (List.take
                                    (Int.toNat
                                        (IntKind.wrap IntKind.i64
                                          (IntKind.wrap IntKind.i64 (Int.tdiv (↑(List.length b) : Int) (6 : Int)) *
                                            (6 : Int))) -
                                      (0 : Nat))
                                    (List.drop (0 : Nat) b)) ==
                                decOk
                                  (List.take
                                    (Int.toNat
                                        (IntKind.wrap IntKind.i64
                                          (IntKind.wrap IntKind.i64 (Int.tdiv (↑(List.length b) : Int) (6 : Int)) *
                                            (6 : Int))) -
                                      (0 : Nat))
                                    (List.drop (0 : Nat) b))) =
                          false →
                        okT xs) ∧
                      ((!decide
                                  (tys
                                      (List.map cellsT
                                        (dec
                                          (List.take
                                            (Int.toNat
                                                (IntKind.wrap IntKind.i64
                                                  (IntKind.wrap IntKind.i64
                                                      (Int.tdiv (↑(List.length b) : Int) (6 : Int)) *
                                                    (6 : Int))) -
                                              (0 : Nat))
                                            (List.drop (0 : Nat) b)))) =
                                    tys
                                      (List.map cellsT
                                        (dec
                                          (List.take
                                            (Int.toNat
                                                (IntKind.wrap IntKind.i64
                                                  (IntKind.wrap IntKind.i64
                                                      (Int.tdiv (↑(List.length b) : Int) (6 : Int)) *
                                                    (6 : Int))) -
                                              (0 : Nat))
                                            (List.drop (0 : Nat) b))))) ||
                              !decOk
                                    (List.take
                                      (Int.toNat
                                          (IntKind.wrap IntKind.i64
                                            (IntKind.wrap IntKind.i64 (Int.tdiv (↑(List.length b) : Int) (6 : Int)) *
                                              (6 : Int))) -
                                        (0 : Nat))
                                      (List.drop (0 : Nat) b)) ==
                                  decOk
                                    (List.take
                                      (Int.toNat
                                          (IntKind.wrap IntKind.i64
                                            (IntKind.wrap IntKind.i64 (Int.tdiv (↑(List.length b) : Int) (6 : Int)) *
                                              (6 : Int))) -
                                        (0 : Nat))
                                      (List.drop (0 : Nat) b))) =
                            false →
                          (↑(List.length xs) : Int) ≤ (100000000000 : Int)) ∧
                        ((!decide
                                    (tys
                                        (List.map cellsT
                                          (dec
                                            (List.take
                                              (Int.toNat
                                                  (IntKind.wrap IntKind.i64
                                                    (IntKind.wrap IntKind.i64
                                                        (Int.tdiv (↑(List.length b) : Int) (6 : Int)) *
                                                      (6 : Int))) -
                                                (0 : Nat))
                                              (List.drop (0 : Nat) b)))) =
                                      tys
                                        (List.map cellsT
                                          (dec
                                            (List.take
                                              (Int.toNat
                                                  (IntKind.wrap IntKind.i64
                                                    (IntKind.wrap IntKind.i64
                                                        (Int.tdiv (↑(List.length b) : Int) (6 : Int)) *
                                                      (6 : Int))) -
                                                (0 : Nat))
                                              (List.drop (0 : Nat) b))))) ||
                                !decOk
                                      (List.take
                                        (Int.toNat
                                            (IntKind.wrap IntKind.i64
                                              (IntKind.wrap IntKind.i64 (Int.tdiv (↑(List.length b) : Int) (6 : Int)) *
                                                (6 : Int))) -
                                          (0 : Nat))
                                        (List.drop (0 : Nat) b)) ==
                                    decOk
                                      (List.take
                                        (Int.toNat
                                            (IntKind.wrap IntKind.i64
                                              (IntKind.wrap IntKind.i64 (Int.tdiv (↑(List.length b) : Int) (6 : Int)) *
                                                (6 : Int))) -
                                          (0 : Nat))
                                        (List.drop (0 : Nat) b))) =
                              false →
                            okT xs) ∧
                          ((!decide
                                      (tys
                                          (List.map cellsT
                                            (dec
                                              (List.take
                                                (Int.toNat
                                                    (IntKind.wrap IntKind.i64
                                                      (IntKind.wrap IntKind.i64
                                                          (Int.tdiv (↑(List.length b) : Int) (6 : Int)) *
                                                        (6 : Int))) -
                                                  (0 : Nat))
                                                (List.drop (0 : Nat) b)))) =
                                        tys
                                          (List.map cellsT
                                            (dec
                                              (List.take
                                                (Int.toNat
                                                    (IntKind.wrap IntKind.i64
                                                      (IntKind.wrap IntKind.i64
                                                          (Int.tdiv (↑(List.length b) : Int) (6 : Int)) *
                                                        (6 : Int))) -
                                                  (0 : Nat))
                                                (List.drop (0 : Nat) b))))) ||
                                  !decOk
                                        (List.take
                                          (Int.toNat
                                              (IntKind.wrap IntKind.i64
                                                (IntKind.wrap IntKind.i64
                                                    (Int.tdiv (↑(List.length b) : Int) (6 : Int)) *
                                                  (6 : Int))) -
                                            (0 : Nat))
                                          (List.drop (0 : Nat) b)) ==
                                      decOk
                                        (List.take
                                          (Int.toNat
                                              (IntKind.wrap IntKind.i64
                                                (IntKind.wrap IntKind.i64
                                                    (Int.tdiv (↑(List.length b) : Int) (6 : Int)) *
                                                  (6 : Int))) -
                                            (0 : Nat))
                                          (List.drop (0 : Nat) b))) =
                                false →
                              (↑(List.length xs) : Int) ≤ (100000000000 : Int)) ∧
                            ((!decide
                                        (tys
                                            (List.map cellsT
                                              (dec
                                                (List.take
                                                  (Int.toNat
                                                      (IntKind.wrap IntKind.i64
                                                        (IntKind.wrap IntKind.i64
                                                            (Int.tdiv (↑(List.length b) : Int) (6 : Int)) *
                                                          (6 : Int))) -
                                                    (0 : Nat))
                                                  (List.drop (0 : Nat) b)))) =
                                          tys
                                            (List.map cellsT
                                              (dec
                                                (List.take
                                                  (Int.toNat
                                                      (IntKind.wrap IntKind.i64
                                                        (IntKind.wrap IntKind.i64
                                                            (Int.tdiv (↑(List.length b) : Int) (6 : Int)) *
                                                          (6 : Int))) -
                                                    (0 : Nat))
                                                  (List.drop (0 : Nat) b))))) ||
                                    !decOk
                                          (List.take
                                            (Int.toNat
                                                (IntKind.wrap IntKind.i64
                                                  (IntKind.wrap IntKind.i64
                                                      (Int.tdiv (↑(List.length b) : Int) (6 : Int)) *
                                                    (6 : Int))) -
                                              (0 : Nat))
                                            (List.drop (0 : Nat) b)) ==
                                        decOk
                                          (List.take
                                            (Int.toNat
                                                (IntKind.wrap IntKind.i64
                                                  (IntKind.wrap IntKind.i64
                                                      (Int.tdiv (↑(List.length b) : Int) (6 : Int)) *
                                                    (6 : Int))) -
                                              (0 : Nat))
                                            (List.drop (0 : Nat) b))) =
                                  false →
                                (↑(List.length (enc (tys xs))) : Int) ≤ big) ∧
                              ((!decide
                                          (tys
                                              (List.map cellsT
                                                (dec
                                                  (List.take
                                                    (Int.toNat
                                                        (IntKind.wrap IntKind.i64
                                                          (IntKind.wrap IntKind.i64
                                                              (Int.tdiv (↑(List.length b) : Int) (6 : Int)) *
                                                            (6 : Int))) -
                                                      (0 : Nat))
                                                    (List.drop (0 : Nat) b)))) =
                                            tys
                                              (List.map cellsT
                                                (dec
                                                  (List.take
                                                    (Int.toNat
                                                        (IntKind.wrap IntKind.i64
                                                          (IntKind.wrap IntKind.i64
                                                              (Int.tdiv (↑(List.length b) : Int) (6 : Int)) *
                                                            (6 : Int))) -
                                                      (0 : Nat))
                                                    (List.drop (0 : Nat) b))))) ||
                                      !decOk
                                            (List.take
                                              (Int.toNat
                                                  (IntKind.wrap IntKind.i64
                                                    (IntKind.wrap IntKind.i64
                                                        (Int.tdiv (↑(List.length b) : Int) (6 : Int)) *
                                                      (6 : Int))) -
                                                (0 : Nat))
                                              (List.drop (0 : Nat) b)) ==
                                          decOk
                                            (List.take
                                              (Int.toNat
                                                  (IntKind.wrap IntKind.i64
                                                    (IntKind.wrap IntKind.i64
                                                        (Int.tdiv (↑(List.length b) : Int) (6 : Int)) *
                                                      (6 : Int))) -
                                                (0 : Nat))
                                              (List.drop (0 : Nat) b))) =
                                    false →
                                  (↑(List.length (enc (tys xs))) : Int) ≤ big) ∧
                                ((!decide
                                              (tys
                                                  (List.map cellsT
                                                    (dec
                                                      (List.take
                                                        (Int.toNat
                                                            (IntKind.wrap IntKind.i64
                                                              (IntKind.wrap IntKind.i64
                                                                  (Int.tdiv (↑(List.length b) : Int) (6 : Int)) *
                                                                (6 : Int))) -
                                                          (0 : Nat))
                                                        (List.drop (0 : Nat) b)))) =
                                                tys
                                                  (List.map cellsT
                                                    (dec
                                                      (List.take
                                                        (Int.toNat
                                                            (IntKind.wrap IntKind.i64
                                                              (IntKind.wrap IntKind.i64
                                                                  (Int.tdiv (↑(List.length b) : Int) (6 : Int)) *
                                                                (6 : Int))) -
                                                          (0 : Nat))
                                                        (List.drop (0 : Nat) b))))) ||
                                          !decOk
                                                (List.take
                                                  (Int.toNat
                                                      (IntKind.wrap IntKind.i64
                                                        (IntKind.wrap IntKind.i64
                                                            (Int.tdiv (↑(List.length b) : Int) (6 : Int)) *
                                                          (6 : Int))) -
                                                    (0 : Nat))
                                                  (List.drop (0 : Nat) b)) ==
                                              decOk
                                                (List.take
                                                  (Int.toNat
                                                      (IntKind.wrap IntKind.i64
                                                        (IntKind.wrap IntKind.i64
                                                            (Int.tdiv (↑(List.length b) : Int) (6 : Int)) *
                                                          (6 : Int))) -
                                                    (0 : Nat))
                                                  (List.drop (0 : Nat) b)) ||
                                        !decide (enc (tys xs) = enc (tys xs))) =
                                      false →
                                    okT xs) ∧
                                  ((!decide
                                                (tys
                                                    (List.map cellsT
                                                      (dec
                                                        (List.take
                                                          (Int.toNat
                                                              (IntKind.wrap IntKind.i64
                                                                (IntKind.wrap IntKind.i64
                                                                    (Int.tdiv (↑(List.length b) : Int) (6 : Int)) *
                                                                  (6 : Int))) -
                                                            (0 : Nat))
                                                          (List.drop (0 : Nat) b)))) =
                                                  tys
                                                    (List.map cellsT
                                                      (dec
                                                        (List.take
                                                          (Int.toNat
                                                              (IntKind.wrap IntKind.i64
                                                                (IntKind.wrap IntKind.i64
                                                                    (Int.tdiv (↑(List.length b) : Int) (6 : Int)) *
                                                                  (6 : Int))) -
                                                            (0 : Nat))
                                                          (List.drop (0 : Nat) b))))) ||
                                            !decOk
                                                  (List.take
                                                    (Int.toNat
                                                        (IntKind.wrap IntKind.i64
                                                          (IntKind.wrap IntKind.i64
                                                              (Int.tdiv (↑(List.length b) : Int) (6 : Int)) *
                                                            (6 : Int))) -
                                                      (0 : Nat))
                                                    (List.drop (0 : Nat) b)) ==
                                                decOk
                                                  (List.take
                                                    (Int.toNat
                                                        (IntKind.wrap IntKind.i64
                                                          (IntKind.wrap IntKind.i64
                                                              (Int.tdiv (↑(List.length b) : Int) (6 : Int)) *
                                                            (6 : Int))) -
                                                      (0 : Nat))
                                                    (List.drop (0 : Nat) b)) ||
                                          !decide (enc (tys xs) = enc (tys xs))) =
                                        false →
                                      (↑(List.length xs) : Int) ≤ big) ∧
                                    ((!decide
                                                  (tys
                                                      (List.map cellsT
                                                        (dec
                                                          (List.take
                                                            (Int.toNat
                                                                (IntKind.wrap IntKind.i64
                                                                  (IntKind.wrap IntKind.i64
                                                                      (Int.tdiv (↑(List.length b) : Int) (6 : Int)) *
                                                                    (6 : Int))) -
                                                              (0 : Nat))
                                                            (List.drop (0 : Nat) b)))) =
                                                    tys
                                                      (List.map cellsT
                                                        (dec
                                                          (List.take
                                                            (Int.toNat
                                                                (IntKind.wrap IntKind.i64
                                                                  (IntKind.wrap IntKind.i64
                                                                      (Int.tdiv (↑(List.length b) : Int) (6 : Int)) *
                                                                    (6 : Int))) -
                                                              (0 : Nat))
                                                            (List.drop (0 : Nat) b))))) ||
                                              !decOk
                                                    (List.take
                                                      (Int.toNat
                                                          (IntKind.wrap IntKind.i64
                                                            (IntKind.wrap IntKind.i64
                                                                (Int.tdiv (↑(List.length b) : Int) (6 : Int)) *
                                                              (6 : Int))) -
                                                        (0 : Nat))
                                                      (List.drop (0 : Nat) b)) ==
                                                  decOk
                                                    (List.take
                                                      (Int.toNat
                                                          (IntKind.wrap IntKind.i64
                                                            (IntKind.wrap IntKind.i64
                                                                (Int.tdiv (↑(List.length b) : Int) (6 : Int)) *
                                                              (6 : Int))) -
                                                        (0 : Nat))
                                                      (List.drop (0 : Nat) b)) ||
                                            !decide (enc (tys xs) = enc (tys xs))) =
                                          false →
                                        okT xs) ∧
                                      ((!decide
                                                    (tys
                                                        (List.map cellsT
                                                          (dec
                                                            (List.take
                                                              (Int.toNat
                                                                  (IntKind.wrap IntKind.i64
                                                                    (IntKind.wrap IntKind.i64
                                                                        (Int.tdiv (↑(List.length b) : Int) (6 : Int)) *
                                                                      (6 : Int))) -
                                                                (0 : Nat))
                                                              (List.drop (0 : Nat) b)))) =
                                                      tys
                                                        (List.map cellsT
                                                          (dec
                                                            (List.take
                                                              (Int.toNat
                                                                  (IntKind.wrap IntKind.i64
                                                                    (IntKind.wrap IntKind.i64
                                                                        (Int.tdiv (↑(List.length b) : Int) (6 : Int)) *
                                                                      (6 : Int))) -
                                                                (0 : Nat))
                                                              (List.drop (0 : Nat) b))))) ||
                                                !decOk
                                                      (List.take
                                                        (Int.toNat
                                                            (IntKind.wrap IntKind.i64
                                                              (IntKind.wrap IntKind.i64
                                                                  (Int.tdiv (↑(List.length b) : Int) (6 : Int)) *
                                                                (6 : Int))) -
                                                          (0 : Nat))
                                                        (List.drop (0 : Nat) b)) ==
                                                    decOk
                                                      (List.take
                                                        (Int.toNat
                                                            (IntKind.wrap IntKind.i64
                                                              (IntKind.wrap IntKind.i64
                                                                  (Int.tdiv (↑(List.length b) : Int) (6 : Int)) *
                                                                (6 : Int))) -
                                                          (0 : Nat))
                                                        (List.drop (0 : Nat) b)) ||
                                              !decide (enc (tys xs) = enc (tys xs))) =
                                            false →
                                          (↑(List.length xs) : Int) ≤ big) ∧
                                        brn
                                          (!decide
                                                    (tys
                                                        (List.map cellsT
                                                          (dec
                                                            (List.take
                                                              (Int.toNat
                                                                  (IntKind.wrap IntKind.i64
                                                                    (IntKind.wrap IntKind.i64
                                                                        (Int.tdiv (↑(List.length b) : Int) (6 : Int)) *
                                                                      (6 : Int))) -
                                                                (0 : Nat))
                                                              (List.drop (0 : Nat) b)))) =
                                                      tys
                                                        (List.map cellsT
                                                          (dec
                                                            (List.take
                                                              (Int.toNat
                                                                  (IntKind.wrap IntKind.i64
                                                                    (IntKind.wrap IntKind.i64
                                                                        (Int.tdiv (↑(List.length b) : Int) (6 : Int)) *
                                                                      (6 : Int))) -
                                                                (0 : Nat))
                                                              (List.drop (0 : Nat) b))))) ||
                                                !decOk
                                                      (List.take
                                                        (Int.toNat
                                                            (IntKind.wrap IntKind.i64
                                                              (IntKind.wrap IntKind.i64
                                                                  (Int.tdiv (↑(List.length b) : Int) (6 : Int)) *
                                                                (6 : Int))) -
                                                          (0 : Nat))
                                                        (List.drop (0 : Nat) b)) ==
                                                    decOk
                                                      (List.take
                                                        (Int.toNat
                                                            (IntKind.wrap IntKind.i64
                                                              (IntKind.wrap IntKind.i64
                                                                  (Int.tdiv (↑(List.length b) : Int) (6 : Int)) *
                                                                (6 : Int))) -
                                                          (0 : Nat))
                                                        (List.drop (0 : Nat) b)) ||
                                              !decide (enc (tys xs) = enc (tys xs)) ||
                                            check (tys xs) n != check (tys xs) n)
                                          (K [AV.imm (IV.bool false)])
                                          (LoopI C5 (bodyOf Tryd.f3) (0 : Nat)
                                            (St.mk
                                              [AV.imm (IV.bytes b), AV.imm (IV.sl (3 : Nat) xs),
                                                AV.imm (IV.int IntKind.i64 n), AV.imm (IV.str s), AV.dead, AV.dead,
                                                AV.dead, AV.dead, AV.imm (IV.bool false),
                                                AV.imm
                                                  (IV.bytes
                                                    (List.take
                                                      (Int.toNat
                                                          (IntKind.wrap IntKind.i64
                                                            (IntKind.wrap IntKind.i64
                                                                (Int.tdiv (↑(List.length b) : Int) (6 : Int)) *
                                                              (6 : Int))) -
                                                        (0 : Nat))
                                                      (List.drop (0 : Nat) b))),
                                                AV.row (0 : Nat) (0 : Nat),
                                                AV.imm
                                                  (IV.bool
                                                    (decOk
                                                      (List.take
                                                        (Int.toNat
                                                            (IntKind.wrap IntKind.i64
                                                              (IntKind.wrap IntKind.i64
                                                                  (Int.tdiv (↑(List.length b) : Int) (6 : Int)) *
                                                                (6 : Int))) -
                                                          (0 : Nat))
                                                        (List.drop (0 : Nat) b)))),
                                                AV.row (1 : Nat) (0 : Nat),
                                                AV.imm
                                                  (IV.bool
                                                    (decOk
                                                      (List.take
                                                        (Int.toNat
                                                            (IntKind.wrap IntKind.i64
                                                              (IntKind.wrap IntKind.i64
                                                                  (Int.tdiv (↑(List.length b) : Int) (6 : Int)) *
                                                                (6 : Int))) -
                                                          (0 : Nat))
                                                        (List.drop (0 : Nat) b)))),
                                                AV.imm (IV.int IntKind.i64 (0 : Int)), AV.imm (IV.bool true),
                                                AV.imm (IV.bool false), AV.imm (IV.bool false), AV.dead, AV.dead,
                                                AV.dead,
                                                AV.imm
                                                  (IV.bool (!true || decide ((↑(List.length b) : Int) > (1000 : Int)))),
                                                AV.imm
                                                  (IV.bool (!true || decide ((↑(List.length b) : Int) > (1000 : Int)))),
                                                AV.dead, AV.dead, AV.dead,
                                                AV.imm
                                                  (IV.bool
                                                    (!true || decide ((↑(List.length b) : Int) > (1000 : Int)) ||
                                                      decide ((↑(List.length xs) : Int) > (100 : Int)))),
                                                AV.dead, AV.imm (IV.bytes b), AV.imm (IV.bytes b),
                                                AV.imm (IV.int IntKind.i64 (↑(List.length b) : Int)),
                                                AV.imm
                                                  (IV.int IntKind.i64
                                                    (IntKind.wrap IntKind.i64
                                                      (Int.tdiv (↑(List.length b) : Int) (6 : Int)))),
                                                AV.imm
                                                  (IV.int IntKind.i64
                                                    (IntKind.wrap IntKind.i64
                                                      (IntKind.wrap IntKind.i64
                                                          (Int.tdiv (↑(List.length b) : Int) (6 : Int)) *
                                                        (6 : Int)))),
                                                AV.imm
                                                  (IV.bytes
                                                    (List.take
                                                      (Int.toNat
                                                          (IntKind.wrap IntKind.i64
                                                            (IntKind.wrap IntKind.i64
                                                                (Int.tdiv (↑(List.length b) : Int) (6 : Int)) *
                                                              (6 : Int))) -
                                                        (0 : Nat))
                                                      (List.drop (0 : Nat) b))),
                                                AV.tup
                                                  [AV.row (0 : Nat) (0 : Nat),
                                                    AV.imm
                                                      (IV.bool
                                                        (decOk
                                                          (List.take
                                                            (Int.toNat
                                                                (IntKind.wrap IntKind.i64
                                                                  (IntKind.wrap IntKind.i64
                                                                      (Int.tdiv (↑(List.length b) : Int) (6 : Int)) *
                                                                    (6 : Int))) -
                                                              (0 : Nat))
                                                            (List.drop (0 : Nat) b))))],
                                                AV.imm
                                                  (IV.bytes
                                                    (List.take
                                                      (Int.toNat
                                                          (IntKind.wrap IntKind.i64
                                                            (IntKind.wrap IntKind.i64
                                                                (Int.tdiv (↑(List.length b) : Int) (6 : Int)) *
                                                              (6 : Int))) -
                                                        (0 : Nat))
                                                      (List.drop (0 : Nat) b))),
                                                AV.tup
                                                  [AV.row (0 : Nat) (0 : Nat),
                                                    AV.imm
                                                      (IV.bool
                                                        (decOk
                                                          (List.take
                                                            (Int.toNat
                                                                (IntKind.wrap IntKind.i64
                                                                  (IntKind.wrap IntKind.i64
                                                                      (Int.tdiv (↑(List.length b) : Int) (6 : Int)) *
                                                                    (6 : Int))) -
                                                              (0 : Nat))
                                                            (List.drop (0 : Nat) b))))],
                                                AV.row (0 : Nat) (0 : Nat),
                                                AV.imm
                                                  (IV.bool
                                                    (decOk
                                                      (List.take
                                                        (Int.toNat
                                                            (IntKind.wrap IntKind.i64
                                                              (IntKind.wrap IntKind.i64
                                                                  (Int.tdiv (↑(List.length b) : Int) (6 : Int)) *
                                                                (6 : Int))) -
                                                          (0 : Nat))
                                                        (List.drop (0 : Nat) b)))),
                                                AV.tup
                                                  [AV.row (1 : Nat) (0 : Nat),
                                                    AV.imm
                                                      (IV.bool
                                                        (decOk
                                                          (List.take
                                                            (Int.toNat
                                                                (IntKind.wrap IntKind.i64
                                                                  (IntKind.wrap IntKind.i64
                                                                      (Int.tdiv (↑(List.length b) : Int) (6 : Int)) *
                                                                    (6 : Int))) -
                                                              (0 : Nat))
                                                            (List.drop (0 : Nat) b))))],
                                                AV.imm
                                                  (IV.bytes
                                                    (List.take
                                                      (Int.toNat
                                                          (IntKind.wrap IntKind.i64
                                                            (IntKind.wrap IntKind.i64
                                                                (Int.tdiv (↑(List.length b) : Int) (6 : Int)) *
                                                              (6 : Int))) -
                                                        (0 : Nat))
                                                      (List.drop (0 : Nat) b))),
                                                AV.tup
                                                  [AV.row (1 : Nat) (0 : Nat),
                                                    AV.imm
                                                      (IV.bool
                                                        (decOk
                                                          (List.take
                                                            (Int.toNat
                                                                (IntKind.wrap IntKind.i64
                                                                  (IntKind.wrap IntKind.i64
                                                                      (Int.tdiv (↑(List.length b) : Int) (6 : Int)) *
                                                                    (6 : Int))) -
                                                              (0 : Nat))
                                                            (List.drop (0 : Nat) b))))],
                                                AV.row (1 : Nat) (0 : Nat),
                                                AV.imm
                                                  (IV.bool
                                                    (decOk
                                                      (List.take
                                                        (Int.toNat
                                                            (IntKind.wrap IntKind.i64
                                                              (IntKind.wrap IntKind.i64
                                                                  (Int.tdiv (↑(List.length b) : Int) (6 : Int)) *
                                                                (6 : Int))) -
                                                          (0 : Nat))
                                                        (List.drop (0 : Nat) b)))),
                                                AV.row (0 : Nat) (0 : Nat), AV.row (1 : Nat) (0 : Nat),
                                                AV.imm
                                                  (IV.bool
                                                    (decide
                                                      (tys
                                                          (List.map cellsT
                                                            (dec
                                                              (List.take
                                                                (Int.toNat
                                                                    (IntKind.wrap IntKind.i64
                                                                      (IntKind.wrap IntKind.i64
                                                                          (Int.tdiv (↑(List.length b) : Int)
                                                                            (6 : Int)) *
                                                                        (6 : Int))) -
                                                                  (0 : Nat))
                                                                (List.drop (0 : Nat) b)))) =
                                                        tys
                                                          (List.map cellsT
                                                            (dec
                                                              (List.take
                                                                (Int.toNat
                                                                    (IntKind.wrap IntKind.i64
                                                                      (IntKind.wrap IntKind.i64
                                                                          (Int.tdiv (↑(List.length b) : Int)
                                                                            (6 : Int)) *
                                                                        (6 : Int))) -
                                                                  (0 : Nat))
                                                                (List.drop (0 : Nat) b))))))),
                                                AV.imm
                                                  (IV.bool
                                                    !decide
                                                        (tys
                                                            (List.map cellsT
                                                              (dec
                                                                (List.take
                                                                  (Int.toNat
                                                                      (IntKind.wrap IntKind.i64
                                                                        (IntKind.wrap IntKind.i64
                                                                            (Int.tdiv (↑(List.length b) : Int)
                                                                              (6 : Int)) *
                                                                          (6 : Int))) -
                                                                    (0 : Nat))
                                                                  (List.drop (0 : Nat) b)))) =
                                                          tys
                                                            (List.map cellsT
                                                              (dec
                                                                (List.take
                                                                  (Int.toNat
                                                                      (IntKind.wrap IntKind.i64
                                                                        (IntKind.wrap IntKind.i64
                                                                            (Int.tdiv (↑(List.length b) : Int)
                                                                              (6 : Int)) *
                                                                          (6 : Int))) -
                                                                    (0 : Nat))
                                                                  (List.drop (0 : Nat) b)))))),
                                                AV.imm
                                                  (IV.bool
                                                    !decide
                                                        (tys
                                                            (List.map cellsT
                                                              (dec
                                                                (List.take
                                                                  (Int.toNat
                                                                      (IntKind.wrap IntKind.i64
                                                                        (IntKind.wrap IntKind.i64
                                                                            (Int.tdiv (↑(List.length b) : Int)
                                                                              (6 : Int)) *
                                                                          (6 : Int))) -
                                                                    (0 : Nat))
                                                                  (List.drop (0 : Nat) b)))) =
                                                          tys
                                                            (List.map cellsT
                                                              (dec
                                                                (List.take
                                                                  (Int.toNat
                                                                      (IntKind.wrap IntKind.i64
                                                                        (IntKind.wrap IntKind.i64
                                                                            (Int.tdiv (↑(List.length b) : Int)
                                                                              (6 : Int)) *
                                                                          (6 : Int))) -
                                                                    (0 : Nat))
                                                                  (List.drop (0 : Nat) b)))))),
                                                AV.opt [((48 : Nat), false)]
                                                  (AV.imm
                                                    (IV.bool
                                                      (decOk
                                                        (List.take
                                                          (Int.toNat
                                                              (IntKind.wrap IntKind.i64
                                                                (IntKind.wrap IntKind.i64
                                                                    (Int.tdiv (↑(List.length b) : Int) (6 : Int)) *
                                                                  (6 : Int))) -
                                                            (0 : Nat))
                                                          (List.drop (0 : Nat) b))))),
                                                AV.opt [((48 : Nat), false)]
                                                  (AV.imm
                                                    (IV.bool
                                                      (decOk
                                                        (List.take
                                                          (Int.toNat
                                                              (IntKind.wrap IntKind.i64
                                                                (IntKind.wrap IntKind.i64
                                                                    (Int.tdiv (↑(List.length b) : Int) (6 : Int)) *
                                                                  (6 : Int))) -
                                                            (0 : Nat))
                                                          (List.drop (0 : Nat) b))))),
                                                AV.opt [((48 : Nat), false)]
                                                  (AV.imm
                                                    (IV.bool
                                                      !decOk
                                                            (List.take
                                                              (Int.toNat
                                                                  (IntKind.wrap IntKind.i64
                                                                    (IntKind.wrap IntKind.i64
                                                                        (Int.tdiv (↑(List.length b) : Int) (6 : Int)) *
                                                                      (6 : Int))) -
                                                                (0 : Nat))
                                                              (List.drop (0 : Nat) b)) ==
                                                          decOk
                                                            (List.take
                                                              (Int.toNat
                                                                  (IntKind.wrap IntKind.i64
                                                                    (IntKind.wrap IntKind.i64
                                                                        (Int.tdiv (↑(List.length b) : Int) (6 : Int)) *
                                                                      (6 : Int))) -
                                                                (0 : Nat))
                                                              (List.drop (0 : Nat) b)))),
                                                AV.imm
                                                  (IV.bool
                                                    (!decide
                                                          (tys
                                                              (List.map cellsT
                                                                (dec
                                                                  (List.take
                                                                    (Int.toNat
                                                                        (IntKind.wrap IntKind.i64
                                                                          (IntKind.wrap IntKind.i64
                                                                              (Int.tdiv (↑(List.length b) : Int)
                                                                                (6 : Int)) *
                                                                            (6 : Int))) -
                                                                      (0 : Nat))
                                                                    (List.drop (0 : Nat) b)))) =
                                                            tys
                                                              (List.map cellsT
                                                                (dec
                                                                  (List.take
                                                                    (Int.toNat
                                                                        (IntKind.wrap IntKind.i64
                                                                          (IntKind.wrap IntKind.i64
                                                                              (Int.tdiv (↑(List.length b) : Int)
                                                                                (6 : Int)) *
                                                                            (6 : Int))) -
                                                                      (0 : Nat))
                                                                    (List.drop (0 : Nat) b))))) ||
                                                      !decOk
                                                            (List.take
                                                              (Int.toNat
                                                                  (IntKind.wrap IntKind.i64
                                                                    (IntKind.wrap IntKind.i64
                                                                        (Int.tdiv (↑(List.length b) : Int) (6 : Int)) *
                                                                      (6 : Int))) -
                                                                (0 : Nat))
                                                              (List.drop (0 : Nat) b)) ==
                                                          decOk
                                                            (List.take
                                                              (Int.toNat
                                                                  (IntKind.wrap IntKind.i64
                                                                    (IntKind.wrap IntKind.i64
                                                                        (Int.tdiv (↑(List.length b) : Int) (6 : Int)) *
                                                                      (6 : Int))) -
                                                                (0 : Nat))
                                                              (List.drop (0 : Nat) b)))),
                                                AV.imm
                                                  (IV.bool
                                                    (!decide
                                                          (tys
                                                              (List.map cellsT
                                                                (dec
                                                                  (List.take
                                                                    (Int.toNat
                                                                        (IntKind.wrap IntKind.i64
                                                                          (IntKind.wrap IntKind.i64
                                                                              (Int.tdiv (↑(List.length b) : Int)
                                                                                (6 : Int)) *
                                                                            (6 : Int))) -
                                                                      (0 : Nat))
                                                                    (List.drop (0 : Nat) b)))) =
                                                            tys
                                                              (List.map cellsT
                                                                (dec
                                                                  (List.take
                                                                    (Int.toNat
                                                                        (IntKind.wrap IntKind.i64
                                                                          (IntKind.wrap IntKind.i64
                                                                              (Int.tdiv (↑(List.length b) : Int)
                                                                                (6 : Int)) *
                                                                            (6 : Int))) -
                                                                      (0 : Nat))
                                                                    (List.drop (0 : Nat) b))))) ||
                                                      !decOk
                                                            (List.take
                                                              (Int.toNat
                                                                  (IntKind.wrap IntKind.i64
                                                                    (IntKind.wrap IntKind.i64
                                                                        (Int.tdiv (↑(List.length b) : Int) (6 : Int)) *
                                                                      (6 : Int))) -
                                                                (0 : Nat))
                                                              (List.drop (0 : Nat) b)) ==
                                                          decOk
                                                            (List.take
                                                              (Int.toNat
                                                                  (IntKind.wrap IntKind.i64
                                                                    (IntKind.wrap IntKind.i64
                                                                        (Int.tdiv (↑(List.length b) : Int) (6 : Int)) *
                                                                      (6 : Int))) -
                                                                (0 : Nat))
                                                              (List.drop (0 : Nat) b)))),
                                                AV.opt [((53 : Nat), false)] (AV.imm (IV.sl (3 : Nat) xs)),
                                                AV.opt [((53 : Nat), false)] (AV.imm (IV.bytes (enc (tys xs)))),
                                                AV.opt [((53 : Nat), false)] (AV.imm (IV.sl (3 : Nat) xs)),
                                                AV.opt [((53 : Nat), false)] (AV.imm (IV.bytes (enc (tys xs)))),
                                                AV.opt [((53 : Nat), false)]
                                                  (AV.imm (IV.bool (decide (enc (tys xs) = enc (tys xs))))),
                                                AV.opt [((53 : Nat), false)]
                                                  (AV.imm (IV.bool !decide (enc (tys xs) = enc (tys xs)))),
                                                AV.imm
                                                  (IV.bool
                                                    (!decide
                                                            (tys
                                                                (List.map cellsT
                                                                  (dec
                                                                    (List.take
                                                                      (Int.toNat
                                                                          (IntKind.wrap IntKind.i64
                                                                            (IntKind.wrap IntKind.i64
                                                                                (Int.tdiv (↑(List.length b) : Int)
                                                                                  (6 : Int)) *
                                                                              (6 : Int))) -
                                                                        (0 : Nat))
                                                                      (List.drop (0 : Nat) b)))) =
                                                              tys
                                                                (List.map cellsT
                                                                  (dec
                                                                    (List.take
                                                                      (Int.toNat
                                                                          (IntKind.wrap IntKind.i64
                                                                            (IntKind.wrap IntKind.i64
                                                                                (Int.tdiv (↑(List.length b) : Int)
                                                                                  (6 : Int)) *
                                                                              (6 : Int))) -
                                                                        (0 : Nat))
                                                                      (List.drop (0 : Nat) b))))) ||
                                                        !decOk
                                                              (List.take
                                                                (Int.toNat
                                                                    (IntKind.wrap IntKind.i64
                                                                      (IntKind.wrap IntKind.i64
                                                                          (Int.tdiv (↑(List.length b) : Int)
                                                                            (6 : Int)) *
                                                                        (6 : Int))) -
                                                                  (0 : Nat))
                                                                (List.drop (0 : Nat) b)) ==
                                                            decOk
                                                              (List.take
                                                                (Int.toNat
                                                                    (IntKind.wrap IntKind.i64
                                                                      (IntKind.wrap IntKind.i64
                                                                          (Int.tdiv (↑(List.length b) : Int)
                                                                            (6 : Int)) *
                                                                        (6 : Int))) -
                                                                  (0 : Nat))
                                                                (List.drop (0 : Nat) b)) ||
                                                      !decide (enc (tys xs) = enc (tys xs)))),
                                                AV.imm
                                                  (IV.bool
                                                    (!decide
                                                            (tys
                                                                (List.map cellsT
                                                                  (dec
                                                                    (List.take
                                                                      (Int.toNat
                                                                          (IntKind.wrap IntKind.i64
                                                                            (IntKind.wrap IntKind.i64
                                                                                (Int.tdiv (↑(List.length b) : Int)
                                                                                  (6 : Int)) *
                                                                              (6 : Int))) -
                                                                        (0 : Nat))
                                                                      (List.drop (0 : Nat) b)))) =
                                                              tys
                                                                (List.map cellsT
                                                                  (dec
                                                                    (List.take
                                                                      (Int.toNat
                                                                          (IntKind.wrap IntKind.i64
                                                                            (IntKind.wrap IntKind.i64
                                                                                (Int.tdiv (↑(List.length b) : Int)
                                                                                  (6 : Int)) *
                                                                              (6 : Int))) -
                                                                        (0 : Nat))
                                                                      (List.drop (0 : Nat) b))))) ||
                                                        !decOk
                                                              (List.take
                                                                (Int.toNat
                                                                    (IntKind.wrap IntKind.i64
                                                                      (IntKind.wrap IntKind.i64
                                                                          (Int.tdiv (↑(List.length b) : Int)
                                                                            (6 : Int)) *
                                                                        (6 : Int))) -
                                                                  (0 : Nat))
                                                                (List.drop (0 : Nat) b)) ==
                                                            decOk
                                                              (List.take
                                                                (Int.toNat
                                                                    (IntKind.wrap IntKind.i64
                                                                      (IntKind.wrap IntKind.i64
                                                                          (Int.tdiv (↑(List.length b) : Int)
                                                                            (6 : Int)) *
                                                                        (6 : Int))) -
                                                                  (0 : Nat))
                                                                (List.drop (0 : Nat) b)) ||
                                                      !decide (enc (tys xs) = enc (tys xs)))),
                                                AV.opt [((61 : Nat), false)] (AV.imm (IV.sl (3 : Nat) xs)),
                                                AV.opt [((61 : Nat), false)] (AV.imm (IV.int IntKind.i64 n)),
                                                AV.opt [((61 : Nat), false)]
                                                  (AV.imm (IV.int IntKind.i64 (check (tys xs) n))),
                                                AV.opt [((61 : Nat), false)] (AV.imm (IV.sl (3 : Nat) xs)),
                                                AV.opt [((61 : Nat), false)] (AV.imm (IV.int IntKind.i64 n)),
                                                AV.opt [((61 : Nat), false)]
                                                  (AV.imm (IV.int IntKind.i64 (check (tys xs) n))),
                                                AV.opt [((61 : Nat), false)]
                                                  (AV.imm (IV.bool (check (tys xs) n != check (tys xs) n))),
                                                AV.imm
                                                  (IV.bool
                                                    (!decide
                                                              (tys
                                                                  (List.map cellsT
                                                                    (dec
                                                                      (List.take
                                                                        (Int.toNat
                                                                            (IntKind.wrap IntKind.i64
                                                                              (IntKind.wrap IntKind.i64
                                                                                  (Int.tdiv (↑(List.length b) : Int)
                                                                                    (6 : Int)) *
                                                                                (6 : Int))) -
                                                                          (0 : Nat))
                                                                        (List.drop (0 : Nat) b)))) =
                                                                tys
                                                                  (List.map cellsT
                                                                    (dec
                                                                      (List.take
                                                                        (Int.toNat
                                                                            (IntKind.wrap IntKind.i64
                                                                              (IntKind.wrap IntKind.i64
                                                                                  (Int.tdiv (↑(List.length b) : Int)
                                                                                    (6 : Int)) *
                                                                                (6 : Int))) -
                                                                          (0 : Nat))
                                                                        (List.drop (0 : Nat) b))))) ||
                                                          !decOk
                                                                (List.take
                                                                  (Int.toNat
                                                                      (IntKind.wrap IntKind.i64
                                                                        (IntKind.wrap IntKind.i64
                                                                            (Int.tdiv (↑(List.length b) : Int)
                                                                              (6 : Int)) *
                                                                          (6 : Int))) -
                                                                    (0 : Nat))
                                                                  (List.drop (0 : Nat) b)) ==
                                                              decOk
                                                                (List.take
                                                                  (Int.toNat
                                                                      (IntKind.wrap IntKind.i64
                                                                        (IntKind.wrap IntKind.i64
                                                                            (Int.tdiv (↑(List.length b) : Int)
                                                                              (6 : Int)) *
                                                                          (6 : Int))) -
                                                                    (0 : Nat))
                                                                  (List.drop (0 : Nat) b)) ||
                                                        !decide (enc (tys xs) = enc (tys xs)) ||
                                                      check (tys xs) n != check (tys xs) n)),
                                                AV.dead, AV.dead, AV.dead, AV.dead, AV.dead, AV.dead, AV.dead, AV.dead,
                                                AV.dead, AV.dead, AV.dead, AV.dead, AV.dead, AV.dead, AV.dead, AV.dead,
                                                AV.dead, AV.dead, AV.dead]
                                              [((0 : Nat),
                                                  Ob.mk true (0 : Nat)
                                                    (AObj.row
                                                      (IV.sl (3 : Nat)
                                                        (List.map cellsT
                                                          (dec
                                                            (List.take
                                                              (Int.toNat
                                                                  (IntKind.wrap IntKind.i64
                                                                    (IntKind.wrap IntKind.i64
                                                                        (Int.tdiv (↑(List.length b) : Int) (6 : Int)) *
                                                                      (6 : Int))) -
                                                                (0 : Nat))
                                                              (List.drop (0 : Nat) b))))))),
                                                ((1 : Nat),
                                                  Ob.mk true (0 : Nat)
                                                    (AObj.row
                                                      (IV.sl (3 : Nat)
                                                        (List.map cellsT
                                                          (dec
                                                            (List.take
                                                              (Int.toNat
                                                                  (IntKind.wrap IntKind.i64
                                                                    (IntKind.wrap IntKind.i64
                                                                        (Int.tdiv (↑(List.length b) : Int) (6 : Int)) *
                                                                      (6 : Int))) -
                                                                (0 : Nat))
                                                              (List.drop (0 : Nat) b)))))))]
                                              (2 : Nat) [])
                                            (finK C5 Tryd.f3 K)))) := by kernel_rfl
theorem f4_in (b : List
  UInt8) (xs : List
  (List IV)) (K : List AV → Prop) : evSpec C5 Tryd.f4 [AV.imm (IV.sl (3 : Nat) xs), AV.imm (IV.bytes b)] K =
  (brn (!true || decide ((↑(List.length b) : Int) > (1000 : Int)) || decide ((↑(List.length xs) : Int) > (100 : Int)))
  (K [AV.imm (IV.bool true)])
  (okT xs ∧
    (↑(List.length xs) : Int) ≤ (100000000000 : Int) ∧
      (↑(List.length (enc (tys xs))) : Int) ≤ (1000000000000 : Int) ∧
        (((↑(List.length (enc (tys xs))) : Int) != IntKind.wrap IntKind.i64 ((6 : Int) * (↑(List.length xs) : Int)) ||
                !decOk (enc (tys xs))) =
              false →
            okT (List.map cellsT (dec (enc (tys xs))))) ∧
          (((↑(List.length (enc (tys xs))) : Int) != IntKind.wrap IntKind.i64 ((6 : Int) * (↑(List.length xs) : Int)) ||
                  !decOk (enc (tys xs))) =
                false →
              okT xs) ∧
            (((↑(List.length (enc (tys xs))) : Int) !=
                      IntKind.wrap IntKind.i64 ((6 : Int) * (↑(List.length xs) : Int)) ||
                    !decOk (enc (tys xs))) =
                  false →
                (↑(List.length (List.map cellsT (dec (enc (tys xs))))) : Int) ≤ big) ∧
              (((↑(List.length (enc (tys xs))) : Int) !=
                        IntKind.wrap IntKind.i64 ((6 : Int) * (↑(List.length xs) : Int)) ||
                      !decOk (enc (tys xs))) =
                    false →
                  (↑(List.length xs) : Int) ≤ big) ∧
                brn
                  ((↑(List.length (enc (tys xs))) : Int) !=
                        IntKind.wrap IntKind.i64 ((6 : Int) * (↑(List.length xs) : Int)) ||
                      !decOk (enc (tys xs)) ||
                    !decide (tys (List.map cellsT (dec (enc (tys xs)))) = tys xs))
                  (K [AV.imm (IV.bool false)])
                  ((6 : Int) ≠ (0 : Int) ∧
                    (0 : Int) ≤
                        IntKind.wrap IntKind.i64
                          (IntKind.wrap IntKind.i64 (Int.tdiv (↑(List.length b) : Int) (6 : Int)) * (6 : Int)) ∧
                      IntKind.wrap IntKind.i64
                            (IntKind.wrap IntKind.i64 (Int.tdiv (↑(List.length b) : Int) (6 : Int)) * (6 : Int)) ≤
                          (↑(List.length b) : Int) ∧
                        LoopI C5 (bodyOf Tryd.f4) (0 : Nat)
                          (St.mk
                            [AV.imm (IV.sl (3 : Nat) xs), AV.imm (IV.bytes b), AV.dead, AV.dead, AV.imm (IV.bool false),
                              AV.row (0 : Nat) (0 : Nat), AV.row (1 : Nat) (0 : Nat),
                              AV.imm (IV.bool (decOk (enc (tys xs)))),
                              AV.imm
                                (IV.bytes
                                  (List.take
                                    (Int.toNat
                                        (IntKind.wrap IntKind.i64
                                          (IntKind.wrap IntKind.i64 (Int.tdiv (↑(List.length b) : Int) (6 : Int)) *
                                            (6 : Int))) -
                                      (0 : Nat))
                                    (List.drop (0 : Nat) b))),
                              AV.imm (IV.bool true), AV.imm (IV.int IntKind.i64 (4 : Int)), AV.dead, AV.dead,
                              AV.imm (IV.bool true), AV.imm (IV.bool false), AV.imm (IV.bool false), AV.dead, AV.dead,
                              AV.dead, AV.imm (IV.bool (!true || decide ((↑(List.length b) : Int) > (1000 : Int)))),
                              AV.imm (IV.bool (!true || decide ((↑(List.length b) : Int) > (1000 : Int)))), AV.dead,
                              AV.dead, AV.dead,
                              AV.imm
                                (IV.bool
                                  (!true || decide ((↑(List.length b) : Int) > (1000 : Int)) ||
                                    decide ((↑(List.length xs) : Int) > (100 : Int)))),
                              AV.dead, AV.imm (IV.sl (3 : Nat) xs), AV.row (0 : Nat) (0 : Nat),
                              AV.tup [AV.row (1 : Nat) (0 : Nat), AV.imm (IV.bool (decOk (enc (tys xs))))],
                              AV.row (0 : Nat) (0 : Nat),
                              AV.tup [AV.row (1 : Nat) (0 : Nat), AV.imm (IV.bool (decOk (enc (tys xs))))],
                              AV.row (1 : Nat) (0 : Nat), AV.imm (IV.bool (decOk (enc (tys xs)))),
                              AV.row (0 : Nat) (0 : Nat),
                              AV.imm (IV.int IntKind.i64 (↑(List.length (enc (tys xs))) : Int)),
                              AV.imm (IV.sl (3 : Nat) xs), AV.imm (IV.int IntKind.i64 (↑(List.length xs) : Int)),
                              AV.imm
                                (IV.int IntKind.i64 (IntKind.wrap IntKind.i64 ((6 : Int) * (↑(List.length xs) : Int)))),
                              AV.imm
                                (IV.bool
                                  ((↑(List.length (enc (tys xs))) : Int) !=
                                    IntKind.wrap IntKind.i64 ((6 : Int) * (↑(List.length xs) : Int)))),
                              AV.imm
                                (IV.bool
                                  ((↑(List.length (enc (tys xs))) : Int) !=
                                    IntKind.wrap IntKind.i64 ((6 : Int) * (↑(List.length xs) : Int)))),
                              AV.opt [((39 : Nat), false)] (AV.imm (IV.bool (decOk (enc (tys xs))))),
                              AV.opt [((39 : Nat), false)] (AV.imm (IV.bool !decOk (enc (tys xs)))),
                              AV.imm
                                (IV.bool
                                  ((↑(List.length (enc (tys xs))) : Int) !=
                                      IntKind.wrap IntKind.i64 ((6 : Int) * (↑(List.length xs) : Int)) ||
                                    !decOk (enc (tys xs)))),
                              AV.imm
                                (IV.bool
                                  ((↑(List.length (enc (tys xs))) : Int) !=
                                      IntKind.wrap IntKind.i64 ((6 : Int) * (↑(List.length xs) : Int)) ||
                                    !decOk (enc (tys xs)))),
                              AV.opt [((43 : Nat), false)] (AV.row (1 : Nat) (0 : Nat)),
                              AV.opt [((43 : Nat), false)] (AV.imm (IV.sl (3 : Nat) xs)),
                              AV.opt [((43 : Nat), false)]
                                (AV.imm (IV.bool (decide (tys (List.map cellsT (dec (enc (tys xs)))) = tys xs)))),
                              AV.opt [((43 : Nat), false)]
                                (AV.imm (IV.bool !decide (tys (List.map cellsT (dec (enc (tys xs)))) = tys xs))),
                              AV.imm
                                (IV.bool
                                  ((↑(List.length (enc (tys xs))) : Int) !=
                                        IntKind.wrap IntKind.i64 ((6 : Int) * (↑(List.length xs) : Int)) ||
                                      !decOk (enc (tys xs)) ||
                                    !decide (tys (List.map cellsT (dec (enc (tys xs)))) = tys xs))),
                              AV.imm (IV.bytes b), AV.imm (IV.bytes b),
                              AV.imm (IV.int IntKind.i64 (↑(List.length b) : Int)),
                              AV.imm
                                (IV.int IntKind.i64
                                  (IntKind.wrap IntKind.i64 (Int.tdiv (↑(List.length b) : Int) (6 : Int)))),
                              AV.imm
                                (IV.int IntKind.i64
                                  (IntKind.wrap IntKind.i64
                                    (IntKind.wrap IntKind.i64 (Int.tdiv (↑(List.length b) : Int) (6 : Int)) *
                                      (6 : Int)))),
                              AV.imm
                                (IV.bytes
                                  (List.take
                                    (Int.toNat
                                        (IntKind.wrap IntKind.i64
                                          (IntKind.wrap IntKind.i64 (Int.tdiv (↑(List.length b) : Int) (6 : Int)) *
                                            (6 : Int))) -
                                      (0 : Nat))
                                    (List.drop (0 : Nat) b))),
                              AV.dead, AV.dead, AV.dead, AV.dead, AV.dead, AV.dead, AV.dead, AV.dead, AV.dead, AV.dead,
                              AV.dead, AV.dead, AV.dead, AV.dead, AV.dead, AV.dead, AV.dead, AV.dead, AV.dead, AV.dead,
                              AV.dead, AV.dead, AV.dead, AV.dead, AV.dead, AV.dead, AV.dead, AV.dead, AV.dead, AV.dead,
                              AV.dead]
                            [((0 : Nat), Ob.mk false (0 : Nat) (AObj.row (IV.bytes (enc (tys xs))))),
                              ((1 : Nat),
                                Ob.mk true (0 : Nat)
                                  (AObj.row (IV.sl (3 : Nat) (List.map cellsT (dec (enc (tys xs)))))))]
                            (2 : Nat) [])
                          (finK C5 Tryd.f4 K)))) := by kernel_rfl
theorem f5_in (xs : List
  (List
    IV)) (n : Int) (m : Int) (K : List AV →
  Prop) : evSpec C5 Tryd.f5 [AV.imm (IV.sl (3 : Nat) xs), AV.imm (IV.int IntKind.u8 n), AV.imm (IV.int IntKind.u8 m)]
  K =
  (brn (!true || decide ((↑(List.length xs) : Int) > (100 : Int))) (K [AV.imm (IV.bool true)])
  (okT xs ∧
    (↑(List.length xs) : Int) ≤ big ∧
      LoopI C5 (bodyOf Tryd.f5) (0 : Nat)
        (St.mk
          [AV.imm (IV.sl (3 : Nat) xs), AV.imm (IV.int IntKind.u8 n), AV.imm (IV.int IntKind.u8 m), AV.dead, AV.dead,
            AV.dead, AV.imm (IV.bool false), AV.imm (IV.int IntKind.i64 (check (tys xs) (IntKind.wrap IntKind.i64 n))),
            AV.imm (IV.int IntKind.i64 (0 : Int)), AV.imm (IV.int IntKind.i64 (0 : Int)), AV.dead, AV.dead,
            AV.imm (IV.bool true), AV.imm (IV.bool false), AV.imm (IV.bool false),
            AV.opt [((14 : Nat), false)] (AV.imm (IV.sl (3 : Nat) xs)),
            AV.opt [((14 : Nat), false)] (AV.imm (IV.int IntKind.i64 (↑(List.length xs) : Int))),
            AV.opt [((14 : Nat), false)] (AV.imm (IV.bool (decide ((↑(List.length xs) : Int) > (100 : Int))))),
            AV.imm (IV.bool (!true || decide ((↑(List.length xs) : Int) > (100 : Int)))), AV.dead,
            AV.imm (IV.sl (3 : Nat) xs), AV.imm (IV.int IntKind.u8 n),
            AV.imm (IV.int IntKind.i64 (IntKind.wrap IntKind.i64 n)),
            AV.imm (IV.int IntKind.i64 (check (tys xs) (IntKind.wrap IntKind.i64 n))), AV.dead, AV.dead, AV.dead,
            AV.dead, AV.dead, AV.dead, AV.dead, AV.dead, AV.dead, AV.dead, AV.dead, AV.dead, AV.dead, AV.dead, AV.dead,
            AV.dead, AV.dead, AV.dead, AV.dead, AV.dead, AV.dead, AV.dead, AV.dead, AV.dead, AV.dead, AV.dead, AV.dead,
            AV.dead, AV.dead, AV.dead, AV.dead, AV.dead, AV.dead, AV.dead, AV.dead, AV.dead, AV.dead, AV.dead, AV.dead,
            AV.dead, AV.dead, AV.dead, AV.dead, AV.dead, AV.dead, AV.dead, AV.dead, AV.dead, AV.dead, AV.dead, AV.dead,
            AV.dead, AV.dead, AV.dead, AV.dead, AV.dead, AV.dead, AV.dead, AV.dead, AV.dead, AV.dead, AV.dead, AV.dead,
            AV.dead, AV.dead, AV.dead, AV.dead, AV.dead, AV.dead, AV.dead, AV.dead, AV.dead, AV.dead, AV.dead]
          [] (0 : Nat) [])
        (finK C5 Tryd.f5 K))) := by kernel_rfl
theorem f6_in (xs : List
  (List
    IV)) (ys : List
  (List
    IV)) (t : Ty) (u : Ty) (K : List AV →
  Prop) : evSpec C5 Tryd.f6 [AV.imm (IV.sl (3 : Nat) xs), AV.imm (IV.sl (3 : Nat) ys), tyAV t, tyAV u] K =
  (brn (!true || decide ((↑(List.length xs) : Int) > (50 : Int)) || decide ((↑(List.length ys) : Int) > (50 : Int)))
  (K [AV.imm (IV.bool true)])
  ((List.length ([] : List (List IV)) + List.length xs) * (8 : Nat) ≤ (140737488355328 : Nat) ∧
    List.length ([] : List (List IV)) + List.length xs ≤ (140737488355328 : Nat) ∧
      (List.length ([] ++ xs) + List.length ys) * (8 : Nat) ≤ (140737488355328 : Nat) ∧
        List.length ([] ++ xs) + List.length ys ≤ (140737488355328 : Nat) ∧
          okT xs ∧
            (↑(List.length xs) : Int) ≤ (100000000000 : Int) ∧
              (List.length (List.map u8 []) + List.length (enc (tys xs))) * (1 : Nat) ≤ (140737488355328 : Nat) ∧
                List.length (List.map u8 []) + List.length (enc (tys xs)) ≤ (140737488355328 : Nat) ∧
                  okT ys ∧
                    (↑(List.length ys) : Int) ≤ (100000000000 : Int) ∧
                      (List.length (List.map u8 [] ++ enc (tys xs)) + List.length (enc (tys ys))) * (1 : Nat) ≤
                          (140737488355328 : Nat) ∧
                        List.length (List.map u8 [] ++ enc (tys xs)) + List.length (enc (tys ys)) ≤
                            (140737488355328 : Nat) ∧
                          okT [[IV.int IntKind.i32 (Ty.o t), IV.bool (Ty.d t), IV.int IntKind.u8 (Ty.g t)]] ∧
                            (↑(List.length
                                      [[IV.int IntKind.i32 (Ty.o t), IV.bool (Ty.d t), IV.int IntKind.u8 (Ty.g t)]]) :
                                  Int) ≤
                                (100000000000 : Int) ∧
                              okT [[IV.int IntKind.i32 (Ty.o u), IV.bool (Ty.d u), IV.int IntKind.u8 (Ty.g u)]] ∧
                                (↑(List.length
                                          [[IV.int IntKind.i32 (Ty.o u), IV.bool (Ty.d u),
                                              IV.int IntKind.u8 (Ty.g u)]]) :
                                      Int) ≤
                                    (100000000000 : Int) ∧
                                  okT ([] ++ xs ++ ys) ∧
                                    (↑(List.length ([] ++ xs ++ ys)) : Int) ≤ (100000000000 : Int) ∧
                                      (↑(List.length (enc (tys ([] ++ xs ++ ys)))) : Int) ≤ big ∧
                                        (↑(List.length (List.map u8 [] ++ enc (tys xs) ++ enc (tys ys))) : Int) ≤ big ∧
                                          brn
                                            (decide
                                              (enc (tys ([] ++ xs ++ ys)) =
                                                List.map u8 [] ++ enc (tys xs) ++ enc (tys ys)))
                                            (((↑(List.length
                                                        (enc
                                                          (tys
                                                            [[IV.int IntKind.i32 (Ty.o t), IV.bool (Ty.d t),
                                                                IV.int IntKind.u8 (Ty.g t)]]))) :
                                                    Int) ≤
                                                  big ∧
                                                (↑(List.length
                                                          (enc
                                                            (tys
                                                              [[IV.int IntKind.i32 (Ty.o u), IV.bool (Ty.d u),
                                                                  IV.int IntKind.u8 (Ty.g u)]]))) :
                                                      Int) ≤
                                                    big ∧
                                                  K
                                                    [AV.imm
                                                        (IV.bool
                                                          (decide
                                                              (enc
                                                                  (tys
                                                                    [[IV.int IntKind.i32 (Ty.o t), IV.bool (Ty.d t),
                                                                        IV.int IntKind.u8 (Ty.g t)]]) =
                                                                enc
                                                                  (tys
                                                                    [[IV.int IntKind.i32 (Ty.o u), IV.bool (Ty.d u),
                                                                        IV.int IntKind.u8 (Ty.g u)]])) ==
                                                            (Ty.o t == Ty.o u &&
                                                              (Ty.d t == Ty.d u && (Ty.g t == Ty.g u && true)))))]) ∧
                                              (((↑(List.length
                                                            (enc
                                                              (tys
                                                                [[IV.int IntKind.i32 (Ty.o t), IV.bool (Ty.d t),
                                                                    IV.int IntKind.u8 (Ty.g t)]]))) :
                                                        Int) ≤
                                                      big ∧
                                                    (↑(List.length
                                                              (enc
                                                                (tys
                                                                  [[IV.int IntKind.i32 (Ty.o u), IV.bool (Ty.d u),
                                                                      IV.int IntKind.u8 (Ty.g u)]]))) :
                                                          Int) ≤
                                                        big ∧
                                                      K
                                                        [AV.imm
                                                            (IV.bool
                                                              (decide
                                                                  (enc
                                                                      (tys
                                                                        [[IV.int IntKind.i32 (Ty.o t), IV.bool (Ty.d t),
                                                                            IV.int IntKind.u8 (Ty.g t)]]) =
                                                                    enc
                                                                      (tys
                                                                        [[IV.int IntKind.i32 (Ty.o u), IV.bool (Ty.d u),
                                                                            IV.int IntKind.u8 (Ty.g u)]])) ==
                                                                (Ty.o t == Ty.o u &&
                                                                  (Ty.d t == Ty.d u &&
                                                                    (Ty.g t == Ty.g u && true)))))]) ∧
                                                  ((↑(List.length
                                                              (enc
                                                                (tys
                                                                  [[IV.int IntKind.i32 (Ty.o t), IV.bool (Ty.d t),
                                                                      IV.int IntKind.u8 (Ty.g t)]]))) :
                                                          Int) ≤
                                                        big ∧
                                                      (↑(List.length
                                                                (enc
                                                                  (tys
                                                                    [[IV.int IntKind.i32 (Ty.o u), IV.bool (Ty.d u),
                                                                        IV.int IntKind.u8 (Ty.g u)]]))) :
                                                            Int) ≤
                                                          big ∧
                                                        K
                                                          [AV.imm
                                                              (IV.bool
                                                                (decide
                                                                    (enc
                                                                        (tys
                                                                          [[IV.int IntKind.i32 (Ty.o t),
                                                                              IV.bool (Ty.d t),
                                                                              IV.int IntKind.u8 (Ty.g t)]]) =
                                                                      enc
                                                                        (tys
                                                                          [[IV.int IntKind.i32 (Ty.o u),
                                                                              IV.bool (Ty.d u),
                                                                              IV.int IntKind.u8 (Ty.g u)]])) ==
                                                                  (Ty.o t == Ty.o u &&
                                                                    (Ty.d t == Ty.d u &&
                                                                      (Ty.g t == Ty.g u && true)))))]) ∧
                                                    (↑(List.length
                                                              (enc
                                                                (tys
                                                                  [[IV.int IntKind.i32 (Ty.o t), IV.bool (Ty.d t),
                                                                      IV.int IntKind.u8 (Ty.g t)]]))) :
                                                          Int) ≤
                                                        big ∧
                                                      (↑(List.length
                                                                (enc
                                                                  (tys
                                                                    [[IV.int IntKind.i32 (Ty.o u), IV.bool (Ty.d u),
                                                                        IV.int IntKind.u8 (Ty.g u)]]))) :
                                                            Int) ≤
                                                          big ∧
                                                        K
                                                          [AV.imm
                                                              (IV.bool
                                                                (decide
                                                                    (enc
                                                                        (tys
                                                                          [[IV.int IntKind.i32 (Ty.o t),
                                                                              IV.bool (Ty.d t),
                                                                              IV.int IntKind.u8 (Ty.g t)]]) =
                                                                      enc
                                                                        (tys
                                                                          [[IV.int IntKind.i32 (Ty.o u),
                                                                              IV.bool (Ty.d u),
                                                                              IV.int IntKind.u8 (Ty.g u)]])) ==
                                                                  (Ty.o t == Ty.o u &&
                                                                    (Ty.d t == Ty.d u &&
                                                                      (Ty.g t == Ty.g u && true)))))]) ∧
                                                ((↑(List.length
                                                            (enc
                                                              (tys
                                                                [[IV.int IntKind.i32 (Ty.o t), IV.bool (Ty.d t),
                                                                    IV.int IntKind.u8 (Ty.g t)]]))) :
                                                        Int) ≤
                                                      big ∧
                                                    (↑(List.length
                                                              (enc
                                                                (tys
                                                                  [[IV.int IntKind.i32 (Ty.o u), IV.bool (Ty.d u),
                                                                      IV.int IntKind.u8 (Ty.g u)]]))) :
                                                          Int) ≤
                                                        big ∧
                                                      K
                                                        [AV.imm
                                                            (IV.bool
                                                              (decide
                                                                  (enc
                                                                      (tys
                                                                        [[IV.int IntKind.i32 (Ty.o t), IV.bool (Ty.d t),
                                                                            IV.int IntKind.u8 (Ty.g t)]]) =
                                                                    enc
                                                                      (tys
                                                                        [[IV.int IntKind.i32 (Ty.o u), IV.bool (Ty.d u),
                                                                            IV.int IntKind.u8 (Ty.g u)]])) ==
                                                                (Ty.o t == Ty.o u &&
                                                                  (Ty.d t == Ty.d u &&
                                                                    (Ty.g t == Ty.g u && true)))))]) ∧
                                                  ((↑(List.length
                                                              (enc
                                                                (tys
                                                                  [[IV.int IntKind.i32 (Ty.o t), IV.bool (Ty.d t),
                                                                      IV.int IntKind.u8 (Ty.g t)]]))) :
                                                          Int) ≤
                                                        big ∧
                                                      (↑(List.length
                                                                (enc
                                                                  (tys
                                                                    [[IV.int IntKind.i32 (Ty.o u), IV.bool (Ty.d u),
                                                                        IV.int IntKind.u8 (Ty.g u)]]))) :
                                                            Int) ≤
                                                          big ∧
                                                        K
                                                          [AV.imm
                                                              (IV.bool
                                                                (decide
                                                                    (enc
                                                                        (tys
                                                                          [[IV.int IntKind.i32 (Ty.o t),
                                                                              IV.bool (Ty.d t),
                                                                              IV.int IntKind.u8 (Ty.g t)]]) =
                                                                      enc
                                                                        (tys
                                                                          [[IV.int IntKind.i32 (Ty.o u),
                                                                              IV.bool (Ty.d u),
                                                                              IV.int IntKind.u8 (Ty.g u)]])) ==
                                                                  (Ty.o t == Ty.o u &&
                                                                    (Ty.d t == Ty.d u &&
                                                                      (Ty.g t == Ty.g u && true)))))]) ∧
                                                    (↑(List.length
                                                              (enc
                                                                (tys
                                                                  [[IV.int IntKind.i32 (Ty.o t), IV.bool (Ty.d t),
                                                                      IV.int IntKind.u8 (Ty.g t)]]))) :
                                                          Int) ≤
                                                        big ∧
                                                      (↑(List.length
                                                                (enc
                                                                  (tys
                                                                    [[IV.int IntKind.i32 (Ty.o u), IV.bool (Ty.d u),
                                                                        IV.int IntKind.u8 (Ty.g u)]]))) :
                                                            Int) ≤
                                                          big ∧
                                                        K
                                                          [AV.imm
                                                              (IV.bool
                                                                (decide
                                                                    (enc
                                                                        (tys
                                                                          [[IV.int IntKind.i32 (Ty.o t),
                                                                              IV.bool (Ty.d t),
                                                                              IV.int IntKind.u8 (Ty.g t)]]) =
                                                                      enc
                                                                        (tys
                                                                          [[IV.int IntKind.i32 (Ty.o u),
                                                                              IV.bool (Ty.d u),
                                                                              IV.int IntKind.u8 (Ty.g u)]])) ==
                                                                  (Ty.o t == Ty.o u &&
                                                                    (Ty.d t == Ty.d u &&
                                                                      (Ty.g t == Ty.g u && true)))))])
                                            (K [AV.imm (IV.bool false)]))) := by kernel_rfl
end Z16

set_option maxRecDepth 100000
namespace Z16
open Go Go.AE Go.Proofs
attribute [local irreducible] loopK evCode evSpec loopB norm
theorem f3_lp (xs : List
  (List
    IV)) (s : List UInt8) (i : Nat) (k : AX → St → Prop) : evCode C5 (loopB (bodyOf Tryd.f3) (0 : Nat)) (h3 xs s i) k =
  (brn (decide ((↑i : Int) < (↑(List.length xs) : Int)))
  ((0 : Int) ≤ (↑i : Int) ∧
    (↑i : Int) < (↑(List.length xs) : Int) ∧
      kcells (List.getD xs (Int.toNat (↑i : Int)) []) (0 : Nat)
            (lapp [CK.int IntKind.i32] (lapp [CK.bool] (lapp [CK.int IntKind.u8] []))) =
          List.getD xs (Int.toNat (↑i : Int)) [] ∧
        (0 : Int) ≤ (↑i : Int) ∧
          (↑i : Int) < (↑(List.length xs) : Int) ∧
            kcells (List.getD xs (Int.toNat (↑i : Int)) []) (0 : Nat)
                  (lapp [CK.int IntKind.i32] (lapp [CK.bool] (lapp [CK.int IntKind.u8] []))) =
                List.getD xs (Int.toNat (↑i : Int)) [] ∧
              brn
                  (!hold
                        (Ty.mk (ivInt (ivNth (List.getD xs (Int.toNat (↑i : Int)) []) (0 : Nat)))
                          (ivBool (ivNth (List.getD xs (Int.toNat (↑i : Int)) []) ((0 : Nat) + (1 : Nat))))
                          (ivInt (ivNth (List.getD xs (Int.toNat (↑i : Int)) []) ((0 : Nat) + (1 : Nat) + (1 : Nat)))))
                        s ==
                      hold
                        (Ty.mk (ivInt (ivNth (List.getD xs (Int.toNat (↑i : Int)) []) (0 : Nat)))
                          (ivBool (ivNth (List.getD xs (Int.toNat (↑i : Int)) []) ((0 : Nat) + (1 : Nat))))
                          (ivInt (ivNth (List.getD xs (Int.toNat (↑i : Int)) []) ((0 : Nat) + (1 : Nat) + (1 : Nat)))))
                        s)
                  (k AX.ret
                    (St.mk
                      [AV.dead, AV.imm (IV.sl (3 : Nat) xs), AV.dead, AV.imm (IV.str s), AV.dead, AV.dead, AV.dead,
                        AV.dead, AV.imm (IV.bool false), AV.dead, AV.dead, AV.dead, AV.dead, AV.dead,
                        AV.imm (IV.int IntKind.i64 (↑i : Int)), AV.dead, AV.dead, AV.dead, AV.dead, AV.dead, AV.dead,
                        AV.dead, AV.dead, AV.dead, AV.dead, AV.dead, AV.dead, AV.dead, AV.dead, AV.dead, AV.dead,
                        AV.dead, AV.dead, AV.dead, AV.dead, AV.dead, AV.dead, AV.dead, AV.dead, AV.dead, AV.dead,
                        AV.dead, AV.dead, AV.dead, AV.dead, AV.dead, AV.dead, AV.dead, AV.dead, AV.dead, AV.dead,
                        AV.dead, AV.dead, AV.dead, AV.dead, AV.dead, AV.dead, AV.dead, AV.dead, AV.dead, AV.dead,
                        AV.dead, AV.dead, AV.dead, AV.dead, AV.dead, AV.dead, AV.dead, AV.dead, AV.dead,
                        AV.imm (IV.int IntKind.i64 (↑i : Int)), AV.imm (IV.sl (3 : Nat) xs),
                        AV.imm (IV.int IntKind.i64 (↑(List.length xs) : Int)),
                        AV.imm (IV.bool (decide ((↑i : Int) < (↑(List.length xs) : Int)))), AV.dead, AV.dead,
                        AV.imm (IV.sl (3 : Nat) xs), AV.imm (IV.int IntKind.i64 (↑i : Int)),
                        AV.elv
                          [IV.int IntKind.i32 (ivInt (ivNth (List.getD xs (Int.toNat (↑i : Int)) []) (0 : Nat))),
                            IV.bool (ivBool (ivNth (List.getD xs (Int.toNat (↑i : Int)) []) ((0 : Nat) + (1 : Nat)))),
                            IV.int IntKind.u8
                              (ivInt
                                (ivNth (List.getD xs (Int.toNat (↑i : Int)) []) ((0 : Nat) + (1 : Nat) + (1 : Nat))))],
                        AV.agg
                          [AV.imm
                              (IV.int IntKind.i32 (ivInt (ivNth (List.getD xs (Int.toNat (↑i : Int)) []) (0 : Nat)))),
                            AV.imm
                              (IV.bool
                                (ivBool (ivNth (List.getD xs (Int.toNat (↑i : Int)) []) ((0 : Nat) + (1 : Nat))))),
                            AV.imm
                              (IV.int IntKind.u8
                                (ivInt
                                  (ivNth (List.getD xs (Int.toNat (↑i : Int)) [])
                                    ((0 : Nat) + (1 : Nat) + (1 : Nat)))))],
                        AV.imm (IV.str s),
                        AV.imm
                          (IV.bool
                            (hold
                              (Ty.mk (ivInt (ivNth (List.getD xs (Int.toNat (↑i : Int)) []) (0 : Nat)))
                                (ivBool (ivNth (List.getD xs (Int.toNat (↑i : Int)) []) ((0 : Nat) + (1 : Nat))))
                                (ivInt
                                  (ivNth (List.getD xs (Int.toNat (↑i : Int)) []) ((0 : Nat) + (1 : Nat) + (1 : Nat)))))
                              s)),
                        AV.imm (IV.sl (3 : Nat) xs), AV.imm (IV.int IntKind.i64 (↑i : Int)),
                        AV.elv
                          [IV.int IntKind.i32 (ivInt (ivNth (List.getD xs (Int.toNat (↑i : Int)) []) (0 : Nat))),
                            IV.bool (ivBool (ivNth (List.getD xs (Int.toNat (↑i : Int)) []) ((0 : Nat) + (1 : Nat)))),
                            IV.int IntKind.u8
                              (ivInt
                                (ivNth (List.getD xs (Int.toNat (↑i : Int)) []) ((0 : Nat) + (1 : Nat) + (1 : Nat))))],
                        AV.agg
                          [AV.imm
                              (IV.int IntKind.i32 (ivInt (ivNth (List.getD xs (Int.toNat (↑i : Int)) []) (0 : Nat)))),
                            AV.imm
                              (IV.bool
                                (ivBool (ivNth (List.getD xs (Int.toNat (↑i : Int)) []) ((0 : Nat) + (1 : Nat))))),
                            AV.imm
                              (IV.int IntKind.u8
                                (ivInt
                                  (ivNth (List.getD xs (Int.toNat (↑i : Int)) [])
                                    ((0 : Nat) + (1 : Nat) + (1 : Nat)))))],
                        AV.imm (IV.str s),
                        AV.imm
                          (IV.bool
                            (hold
                              (Ty.mk (ivInt (ivNth (List.getD xs (Int.toNat (↑i : Int)) []) (0 : Nat)))
                                (ivBool (ivNth (List.getD xs (Int.toNat (↑i : Int)) []) ((0 : Nat) + (1 : Nat))))
                                (ivInt
                                  (ivNth (List.getD xs (Int.toNat (↑i : Int)) []) ((0 : Nat) + (1 : Nat) + (1 : Nat)))))
                              s)),
                        AV.imm
                          (IV.bool
                            !hold
                                  (Ty.mk (ivInt (ivNth (List.getD xs (Int.toNat (↑i : Int)) []) (0 : Nat)))
                                    (ivBool (ivNth (List.getD xs (Int.toNat (↑i : Int)) []) ((0 : Nat) + (1 : Nat))))
                                    (ivInt
                                      (ivNth (List.getD xs (Int.toNat (↑i : Int)) [])
                                        ((0 : Nat) + (1 : Nat) + (1 : Nat)))))
                                  s ==
                                hold
                                  (Ty.mk (ivInt (ivNth (List.getD xs (Int.toNat (↑i : Int)) []) (0 : Nat)))
                                    (ivBool (ivNth (List.getD xs (Int.toNat (↑i : Int)) []) ((0 : Nat) + (1 : Nat))))
                                    (ivInt
                                      (ivNth (List.getD xs (Int.toNat (↑i : Int)) [])
                                        ((0 : Nat) + (1 : Nat) + (1 : Nat)))))
                                  s)]
                      [] (0 : Nat) []))
                  (k AX.normal
                    (St.mk
                      [AV.dead, AV.imm (IV.sl (3 : Nat) xs), AV.dead, AV.imm (IV.str s), AV.dead, AV.dead, AV.dead,
                        AV.dead, AV.dead, AV.dead, AV.dead, AV.dead, AV.dead, AV.dead,
                        AV.imm (IV.int IntKind.i64 (IntKind.wrap IntKind.i64 ((↑i : Int) + (1 : Int)))), AV.dead,
                        AV.dead, AV.dead, AV.dead, AV.dead, AV.dead, AV.dead, AV.dead, AV.dead, AV.dead, AV.dead,
                        AV.dead, AV.dead, AV.dead, AV.dead, AV.dead, AV.dead, AV.dead, AV.dead, AV.dead, AV.dead,
                        AV.dead, AV.dead, AV.dead, AV.dead, AV.dead, AV.dead, AV.dead, AV.dead, AV.dead, AV.dead,
                        AV.dead, AV.dead, AV.dead, AV.dead, AV.dead, AV.dead, AV.dead, AV.dead, AV.dead, AV.dead,
                        AV.dead, AV.dead, AV.dead, AV.dead, AV.dead, AV.dead, AV.dead, AV.dead, AV.dead, AV.dead,
                        AV.dead, AV.dead, AV.dead, AV.dead, AV.imm (IV.int IntKind.i64 (↑i : Int)),
                        AV.imm (IV.sl (3 : Nat) xs), AV.imm (IV.int IntKind.i64 (↑(List.length xs) : Int)),
                        AV.imm (IV.bool (decide ((↑i : Int) < (↑(List.length xs) : Int)))),
                        AV.imm (IV.int IntKind.i64 (↑i : Int)),
                        AV.imm (IV.int IntKind.i64 (IntKind.wrap IntKind.i64 ((↑i : Int) + (1 : Int)))),
                        AV.imm (IV.sl (3 : Nat) xs), AV.imm (IV.int IntKind.i64 (↑i : Int)),
                        AV.elv
                          [IV.int IntKind.i32 (ivInt (ivNth (List.getD xs (Int.toNat (↑i : Int)) []) (0 : Nat))),
                            IV.bool (ivBool (ivNth (List.getD xs (Int.toNat (↑i : Int)) []) ((0 : Nat) + (1 : Nat)))),
                            IV.int IntKind.u8
                              (ivInt
                                (ivNth (List.getD xs (Int.toNat (↑i : Int)) []) ((0 : Nat) + (1 : Nat) + (1 : Nat))))],
                        AV.agg
                          [AV.imm
                              (IV.int IntKind.i32 (ivInt (ivNth (List.getD xs (Int.toNat (↑i : Int)) []) (0 : Nat)))),
                            AV.imm
                              (IV.bool
                                (ivBool (ivNth (List.getD xs (Int.toNat (↑i : Int)) []) ((0 : Nat) + (1 : Nat))))),
                            AV.imm
                              (IV.int IntKind.u8
                                (ivInt
                                  (ivNth (List.getD xs (Int.toNat (↑i : Int)) [])
                                    ((0 : Nat) + (1 : Nat) + (1 : Nat)))))],
                        AV.imm (IV.str s),
                        AV.imm
                          (IV.bool
                            (hold
                              (Ty.mk (ivInt (ivNth (List.getD xs (Int.toNat (↑i : Int)) []) (0 : Nat)))
                                (ivBool (ivNth (List.getD xs (Int.toNat (↑i : Int)) []) ((0 : Nat) + (1 : Nat))))
                                (ivInt
                                  (ivNth (List.getD xs (Int.toNat (↑i : Int)) []) ((0 : Nat) + (1 : Nat) + (1 : Nat)))))
                              s)),
                        AV.imm (IV.sl (3 : Nat) xs), AV.imm (IV.int IntKind.i64 (↑i : Int)),
                        AV.elv
                          [IV.int IntKind.i32 (ivInt (ivNth (List.getD xs (Int.toNat (↑i : Int)) []) (0 : Nat))),
                            IV.bool (ivBool (ivNth (List.getD xs (Int.toNat (↑i : Int)) []) ((0 : Nat) + (1 : Nat)))),
                            IV.int IntKind.u8
                              (ivInt
                                (ivNth (List.getD xs (Int.toNat (↑i : Int)) []) ((0 : Nat) + (1 : Nat) + (1 : Nat))))],
                        AV.agg
                          [AV.imm
                              (IV.int IntKind.i32 (ivInt (ivNth (List.getD xs (Int.toNat (↑i : Int)) []) (0 : Nat)))),
                            AV.imm
                              (IV.bool
                                (ivBool (ivNth (List.getD xs (Int.toNat (↑i : Int)) []) ((0 : Nat) + (1 : Nat))))),
                            AV.imm
                              (IV.int IntKind.u8
                                (ivInt
                                  (ivNth (List.getD xs (Int.toNat (↑i : Int)) [])
                                    ((0 : Nat) + (1 : Nat) + (1 : Nat)))))],
                        AV.imm (IV.str s),
                        AV.imm
                          (IV.bool
                            (hold
                              (Ty.mk (ivInt (ivNth (List.getD xs (Int.toNat (↑i : Int)) []) (0 : Nat)))
                                (ivBool (ivNth (List.getD xs (Int.toNat (↑i : Int)) []) ((0 : Nat) + (1 : Nat))))
                                (ivInt
                                  (ivNth (List.getD xs (Int.toNat (↑i : Int)) []) ((0 : Nat) + (1 : Nat) + (1 : Nat)))))
                              s)),
                        AV.imm
                          (IV.bool
                            !hold
                                  (Ty.mk (ivInt (ivNth (List.getD xs (Int.toNat (↑i : Int)) []) (0 : Nat)))
                                    (ivBool (ivNth (List.getD xs (Int.toNat (↑i : Int)) []) ((0 : Nat) + (1 : Nat))))
                                    (ivInt
                                      (ivNth (List.getD xs (Int.toNat (↑i : Int)) [])
                                        ((0 : Nat) + (1 : Nat) + (1 : Nat)))))
                                  s ==
                                hold
                                  (Ty.mk (ivInt (ivNth (List.getD xs (Int.toNat (↑i : Int)) []) (0 : Nat)))
                                    (ivBool (ivNth (List.getD xs (Int.toNat (↑i : Int)) []) ((0 : Nat) + (1 : Nat))))
                                    (ivInt
                                      (ivNth (List.getD xs (Int.toNat (↑i : Int)) [])
                                        ((0 : Nat) + (1 : Nat) + (1 : Nat)))))
                                  s)]
                      [] (0 : Nat) [])) ∧
                brn
                  (!hold
                        (Ty.mk (ivInt (ivNth (List.getD xs (Int.toNat (↑i : Int)) []) (0 : Nat)))
                          (ivBool (ivNth (List.getD xs (Int.toNat (↑i : Int)) []) ((0 : Nat) + (1 : Nat))))
                          (ivInt (ivNth (List.getD xs (Int.toNat (↑i : Int)) []) ((0 : Nat) + (1 : Nat) + (1 : Nat)))))
                        s ==
                      hold
                        (Ty.mk (ivInt (ivNth (List.getD xs (Int.toNat (↑i : Int)) []) (0 : Nat)))
                          (ivBool (ivNth (List.getD xs (Int.toNat (↑i : Int)) []) ((0 : Nat) + (1 : Nat))))
                          (ivInt (ivNth (List.getD xs (Int.toNat (↑i : Int)) []) ((0 : Nat) + (1 : Nat) + (1 : Nat)))))
                        s)
                  (k AX.ret
                    (St.mk
                      [AV.dead, AV.imm (IV.sl (3 : Nat) xs), AV.dead, AV.imm (IV.str s), AV.dead, AV.dead, AV.dead,
                        AV.dead, AV.imm (IV.bool false), AV.dead, AV.dead, AV.dead, AV.dead, AV.dead,
                        AV.imm (IV.int IntKind.i64 (↑i : Int)), AV.dead, AV.dead, AV.dead, AV.dead, AV.dead, AV.dead,
                        AV.dead, AV.dead, AV.dead, AV.dead, AV.dead, AV.dead, AV.dead, AV.dead, AV.dead, AV.dead,
                        AV.dead, AV.dead, AV.dead, AV.dead, AV.dead, AV.dead, AV.dead, AV.dead, AV.dead, AV.dead,
                        AV.dead, AV.dead, AV.dead, AV.dead, AV.dead, AV.dead, AV.dead, AV.dead, AV.dead, AV.dead,
                        AV.dead, AV.dead, AV.dead, AV.dead, AV.dead, AV.dead, AV.dead, AV.dead, AV.dead, AV.dead,
                        AV.dead, AV.dead, AV.dead, AV.dead, AV.dead, AV.dead, AV.dead, AV.dead, AV.dead,
                        AV.imm (IV.int IntKind.i64 (↑i : Int)), AV.imm (IV.sl (3 : Nat) xs),
                        AV.imm (IV.int IntKind.i64 (↑(List.length xs) : Int)),
                        AV.imm (IV.bool (decide ((↑i : Int) < (↑(List.length xs) : Int)))), AV.dead, AV.dead,
                        AV.imm (IV.sl (3 : Nat) xs), AV.imm (IV.int IntKind.i64 (↑i : Int)),
                        AV.elv
                          [IV.int IntKind.i32 (ivInt (ivNth (List.getD xs (Int.toNat (↑i : Int)) []) (0 : Nat))),
                            IV.bool (ivBool (ivNth (List.getD xs (Int.toNat (↑i : Int)) []) ((0 : Nat) + (1 : Nat)))),
                            IV.int IntKind.u8
                              (ivInt
                                (ivNth (List.getD xs (Int.toNat (↑i : Int)) []) ((0 : Nat) + (1 : Nat) + (1 : Nat))))],
                        AV.agg
                          [AV.imm
                              (IV.int IntKind.i32 (ivInt (ivNth (List.getD xs (Int.toNat (↑i : Int)) []) (0 : Nat)))),
                            AV.imm
                              (IV.bool
                                (ivBool (ivNth (List.getD xs (Int.toNat (↑i : Int)) []) ((0 : Nat) + (1 : Nat))))),
                            AV.imm
                              (IV.int IntKind.u8
                                (ivInt
                                  (ivNth (List.getD xs (Int.toNat (↑i : Int)) [])
                                    ((0 : Nat) + (1 : Nat) + (1 : Nat)))))],
                        AV.imm (IV.str s),
                        AV.imm
                          (IV.bool
                            (hold
                              (Ty.mk (ivInt (ivNth (List.getD xs (Int.toNat (↑i : Int)) []) (0 : Nat)))
                                (ivBool (ivNth (List.getD xs (Int.toNat (↑i : Int)) []) ((0 : Nat) + (1 : Nat))))
                                (ivInt
                                  (ivNth (List.getD xs (Int.toNat (↑i : Int)) []) ((0 : Nat) + (1 : Nat) + (1 : Nat)))))
                              s)),
                        AV.imm (IV.sl (3 : Nat) xs), AV.imm (IV.int IntKind.i64 (↑i : Int)),
                        AV.elv
                          [IV.int IntKind.i32 (ivInt (ivNth (List.getD xs (Int.toNat (↑i : Int)) []) (0 : Nat))),
                            IV.bool (ivBool (ivNth (List.getD xs (Int.toNat (↑i : Int)) []) ((0 : Nat) + (1 : Nat)))),
                            IV.int IntKind.u8
                              (ivInt
                                (ivNth (List.getD xs (Int.toNat (↑i : Int)) []) ((0 : Nat) + (1 : Nat) + (1 : Nat))))],
                        AV.agg
                          [AV.imm
                              (IV.int IntKind.i32 (ivInt (ivNth (List.getD xs (Int.toNat (↑i : Int)) []) (0 : Nat)))),
                            AV.imm
                              (IV.bool
                                (ivBool (ivNth (List.getD xs (Int.toNat (↑i : Int)) []) ((0 : Nat) + (1 : Nat))))),
                            AV.imm
                              (IV.int IntKind.u8
                                (ivInt
                                  (ivNth (List.getD xs (Int.toNat (↑i : Int)) [])
                                    ((0 : Nat) + (1 : Nat) + (1 : Nat)))))],
                        AV.imm (IV.str s),
                        AV.imm
                          (IV.bool
                            (hold
                              (Ty.mk (ivInt (ivNth (List.getD xs (Int.toNat (↑i : Int)) []) (0 : Nat)))
                                (ivBool (ivNth (List.getD xs (Int.toNat (↑i : Int)) []) ((0 : Nat) + (1 : Nat))))
                                (ivInt
                                  (ivNth (List.getD xs (Int.toNat (↑i : Int)) []) ((0 : Nat) + (1 : Nat) + (1 : Nat)))))
                              s)),
                        AV.imm
                          (IV.bool
                            !hold
                                  (Ty.mk (ivInt (ivNth (List.getD xs (Int.toNat (↑i : Int)) []) (0 : Nat)))
                                    (ivBool (ivNth (List.getD xs (Int.toNat (↑i : Int)) []) ((0 : Nat) + (1 : Nat))))
                                    (ivInt
                                      (ivNth (List.getD xs (Int.toNat (↑i : Int)) [])
                                        ((0 : Nat) + (1 : Nat) + (1 : Nat)))))
                                  s ==
                                hold
                                  (Ty.mk (ivInt (ivNth (List.getD xs (Int.toNat (↑i : Int)) []) (0 : Nat)))
                                    (ivBool (ivNth (List.getD xs (Int.toNat (↑i : Int)) []) ((0 : Nat) + (1 : Nat))))
                                    (ivInt
                                      (ivNth (List.getD xs (Int.toNat (↑i : Int)) [])
                                        ((0 : Nat) + (1 : Nat) + (1 : Nat)))))
                                  s)]
                      [] (0 : Nat) []))
                  (k AX.normal
                    (St.mk
                      [AV.dead, AV.imm (IV.sl (3 : Nat) xs), AV.dead, AV.imm (IV.str s), AV.dead, AV.dead, AV.dead,
                        AV.dead, AV.dead, AV.dead, AV.dead, AV.dead, AV.dead, AV.dead,
                        AV.imm (IV.int IntKind.i64 (IntKind.wrap IntKind.i64 ((↑i : Int) + (1 : Int)))), AV.dead,
                        AV.dead, AV.dead, AV.dead, AV.dead, AV.dead, AV.dead, AV.dead, AV.dead, AV.dead, AV.dead,
                        AV.dead, AV.dead, AV.dead, AV.dead, AV.dead, AV.dead, AV.dead, AV.dead, AV.dead, AV.dead,
                        AV.dead, AV.dead, AV.dead, AV.dead, AV.dead, AV.dead, AV.dead, AV.dead, AV.dead, AV.dead,
                        AV.dead, AV.dead, AV.dead, AV.dead, AV.dead, AV.dead, AV.dead, AV.dead, AV.dead, AV.dead,
                        AV.dead, AV.dead, AV.dead, AV.dead, AV.dead, AV.dead, AV.dead, AV.dead, AV.dead, AV.dead,
                        AV.dead, AV.dead, AV.dead, AV.dead, AV.imm (IV.int IntKind.i64 (↑i : Int)),
                        AV.imm (IV.sl (3 : Nat) xs), AV.imm (IV.int IntKind.i64 (↑(List.length xs) : Int)),
                        AV.imm (IV.bool (decide ((↑i : Int) < (↑(List.length xs) : Int)))),
                        AV.imm (IV.int IntKind.i64 (↑i : Int)),
                        AV.imm (IV.int IntKind.i64 (IntKind.wrap IntKind.i64 ((↑i : Int) + (1 : Int)))),
                        AV.imm (IV.sl (3 : Nat) xs), AV.imm (IV.int IntKind.i64 (↑i : Int)),
                        AV.elv
                          [IV.int IntKind.i32 (ivInt (ivNth (List.getD xs (Int.toNat (↑i : Int)) []) (0 : Nat))),
                            IV.bool (ivBool (ivNth (List.getD xs (Int.toNat (↑i : Int)) []) ((0 : Nat) + (1 : Nat)))),
                            IV.int IntKind.u8
                              (ivInt
                                (ivNth (List.getD xs (Int.toNat (↑i : Int)) []) ((0 : Nat) + (1 : Nat) + (1 : Nat))))],
                        AV.agg
                          [AV.imm
                              (IV.int IntKind.i32 (ivInt (ivNth (List.getD xs (Int.toNat (↑i : Int)) []) (0 : Nat)))),
                            AV.imm
                              (IV.bool
                                (ivBool (ivNth (List.getD xs (Int.toNat (↑i : Int)) []) ((0 : Nat) + (1 : Nat))))),
                            AV.imm
                              (IV.int IntKind.u8
                                (ivInt
                                  (ivNth (List.getD xs (Int.toNat (↑i : Int)) [])
                                    ((0 : Nat) + (1 : Nat) + (1 : Nat)))))],
                        AV.imm (IV.str s),
                        AV.imm
                          (IV.bool
                            (hold
                              (Ty.mk (ivInt (ivNth (List.getD xs (Int.toNat (↑i : Int)) []) (0 : Nat)))
                                (ivBool (ivNth (List.getD xs (Int.toNat (↑i : Int)) []) ((0 : Nat) + (1 : Nat))))
                                (ivInt
                                  (ivNth (List.getD xs (Int.toNat (↑i : Int)) []) ((0 : Nat) + (1 : Nat) + (1 : Nat)))))
                              s)),
                        AV.imm (IV.sl (3 : Nat) xs), AV.imm (IV.int IntKind.i64 (↑i : Int)),
                        AV.elv
                          [IV.int IntKind.i32 (ivInt (ivNth (List.getD xs (Int.toNat (↑i : Int)) []) (0 : Nat))),
                            IV.bool (ivBool (ivNth (List.getD xs (Int.toNat (↑i : Int)) []) ((0 : Nat) + (1 : Nat)))),
                            IV.int IntKind.u8
                              (ivInt
                                (ivNth (List.getD xs (Int.toNat (↑i : Int)) []) ((0 : Nat) + (1 : Nat) + (1 : Nat))))],
                        AV.agg
                          [AV.imm
                              (IV.int IntKind.i32 (ivInt (ivNth (List.getD xs (Int.toNat (↑i : Int)) []) (0 : Nat)))),
                            AV.imm
                              (IV.bool
                                (ivBool (ivNth (List.getD xs (Int.toNat (↑i : Int)) []) ((0 : Nat) + (1 : Nat))))),
                            AV.imm
                              (IV.int IntKind.u8
                                (ivInt
                                  (ivNth (List.getD xs (Int.toNat (↑i : Int)) [])
                                    ((0 : Nat) + (1 : Nat) + (1 : Nat)))))],
                        AV.imm (IV.str s),
                        AV.imm
                          (IV.bool
                            (hold
                              (Ty.mk (ivInt (ivNth (List.getD xs (Int.toNat (↑i : Int)) []) (0 : Nat)))
                                (ivBool (ivNth (List.getD xs (Int.toNat (↑i : Int)) []) ((0 : Nat) + (1 : Nat))))
                                (ivInt
                                  (ivNth (List.getD xs (Int.toNat (↑i : Int)) []) ((0 : Nat) + (1 : Nat) + (1 : Nat)))))
                              s)),
                        AV.imm
                          (IV.bool
                            !hold
                                  (Ty.mk (ivInt (ivNth (List.getD xs (Int.toNat (↑i : Int)) []) (0 : Nat)))
                                    (ivBool (ivNth (List.getD xs (Int.toNat (↑i : Int)) []) ((0 : Nat) + (1 : Nat))))
                                    (ivInt
                                      (ivNth (List.getD xs (Int.toNat (↑i : Int)) [])
                                        ((0 : Nat) + (1 : Nat) + (1 : Nat)))))
                                  s ==
                                hold
                                  (Ty.mk (ivInt (ivNth (List.getD xs (Int.toNat (↑i : Int)) []) (0 : Nat)))
                                    (ivBool (ivNth (List.getD xs (Int.toNat (↑i : Int)) []) ((0 : Nat) + (1 : Nat))))
                                    (ivInt
                                      (ivNth (List.getD xs (Int.toNat (↑i : Int)) [])
                                        ((0 : Nat) + (1 : Nat) + (1 : Nat)))))
                                  s)]
                      [] (0 : Nat) [])))
  (k (AX.exit (0 : Nat))
    (St.mk
      [AV.dead, AV.imm (IV.sl (3 : Nat) xs), AV.dead, AV.imm (IV.str s), AV.dead, AV.dead, AV.dead, AV.dead, AV.dead,
        AV.dead, AV.dead, AV.dead, AV.dead, AV.dead, AV.imm (IV.int IntKind.i64 (↑i : Int)), AV.dead, AV.dead, AV.dead,
        AV.dead, AV.dead, AV.dead, AV.dead, AV.dead, AV.dead, AV.dead, AV.dead, AV.dead, AV.dead, AV.dead, AV.dead,
        AV.dead, AV.dead, AV.dead, AV.dead, AV.dead, AV.dead, AV.dead, AV.dead, AV.dead, AV.dead, AV.dead, AV.dead,
        AV.dead, AV.dead, AV.dead, AV.dead, AV.dead, AV.dead, AV.dead, AV.dead, AV.dead, AV.dead, AV.dead, AV.dead,
        AV.dead, AV.dead, AV.dead, AV.dead, AV.dead, AV.dead, AV.dead, AV.dead, AV.dead, AV.dead, AV.dead, AV.dead,
        AV.dead, AV.dead, AV.dead, AV.dead, AV.imm (IV.int IntKind.i64 (↑i : Int)), AV.imm (IV.sl (3 : Nat) xs),
        AV.imm (IV.int IntKind.i64 (↑(List.length xs) : Int)),
        AV.imm (IV.bool (decide ((↑i : Int) < (↑(List.length xs) : Int)))), AV.dead, AV.dead, AV.dead, AV.dead, AV.dead,
        AV.dead, AV.dead, AV.dead, AV.dead, AV.dead, AV.dead, AV.dead, AV.dead, AV.dead, AV.dead]
      [] (0 : Nat) []))) := by kernel_rfl
theorem f4_lp (c : List
  UInt8) (fl : Bool) (i : Nat) (k : AX → St → Prop) : evCode C5 (loopB (bodyOf Tryd.f4) (0 : Nat)) (h4 c fl i) k =
  (brn (decide ((↑i : Int) < (↑(List.length c) : Int)))
  ((fl = true → (0 : Int) ≤ (↑i : Int)) ∧
    (fl = true → (↑i : Int) < (↑(List.length c) : Int)) ∧
      k AX.normal
        (St.mk
          [AV.dead, AV.dead, AV.dead, AV.dead, AV.dead, AV.dead, AV.dead, AV.dead, AV.imm (IV.bytes c),
            AV.imm
              (IV.bool
                (fl && decide ((↑(UInt8.toNat (List.getD c (Int.toNat (↑i : Int)) (0 : UInt8))) : Int) ≤ (1 : Int)))),
            AV.imm (IV.int IntKind.i64 (IntKind.wrap IntKind.i64 ((↑i : Int) + (6 : Int)))), AV.dead, AV.dead, AV.dead,
            AV.dead, AV.dead, AV.dead, AV.dead, AV.dead, AV.dead, AV.dead, AV.dead, AV.dead, AV.dead, AV.dead, AV.dead,
            AV.dead, AV.dead, AV.dead, AV.dead, AV.dead, AV.dead, AV.dead, AV.dead, AV.dead, AV.dead, AV.dead, AV.dead,
            AV.dead, AV.dead, AV.dead, AV.dead, AV.dead, AV.dead, AV.dead, AV.dead, AV.dead, AV.dead, AV.dead, AV.dead,
            AV.dead, AV.dead, AV.dead, AV.dead, AV.dead, AV.imm (IV.int IntKind.i64 (↑i : Int)), AV.imm (IV.bytes c),
            AV.imm (IV.int IntKind.i64 (↑(List.length c) : Int)),
            AV.imm (IV.bool (decide ((↑i : Int) < (↑(List.length c) : Int)))), AV.imm (IV.int IntKind.i64 (↑i : Int)),
            AV.imm (IV.int IntKind.i64 (IntKind.wrap IntKind.i64 ((↑i : Int) + (6 : Int)))), AV.imm (IV.bool fl),
            AV.imm (IV.bool fl), AV.opt [((62 : Nat), true)] (AV.imm (IV.bytes c)),
            AV.opt [((62 : Nat), true)] (AV.imm (IV.int IntKind.i64 (↑i : Int))),
            AV.opt [((62 : Nat), true)]
              (AV.elv [IV.int IntKind.u8 (↑(UInt8.toNat (List.getD c (Int.toNat (↑i : Int)) (0 : UInt8))) : Int)]),
            AV.opt [((62 : Nat), true)]
              (AV.imm (IV.int IntKind.u8 (↑(UInt8.toNat (List.getD c (Int.toNat (↑i : Int)) (0 : UInt8))) : Int))),
            AV.opt [((62 : Nat), true)]
              (AV.imm
                (IV.bool
                  (decide ((↑(UInt8.toNat (List.getD c (Int.toNat (↑i : Int)) (0 : UInt8))) : Int) ≤ (1 : Int))))),
            AV.imm
              (IV.bool
                (fl && decide ((↑(UInt8.toNat (List.getD c (Int.toNat (↑i : Int)) (0 : UInt8))) : Int) ≤ (1 : Int)))),
            AV.dead, AV.dead, AV.dead, AV.dead, AV.dead, AV.dead, AV.dead, AV.dead, AV.dead, AV.dead, AV.dead, AV.dead,
            AV.dead, AV.dead, AV.dead, AV.dead, AV.dead]
          [] (0 : Nat) []))
  (k (AX.exit (0 : Nat))
    (St.mk
      [AV.dead, AV.dead, AV.dead, AV.dead, AV.dead, AV.dead, AV.dead, AV.dead, AV.imm (IV.bytes c), AV.imm (IV.bool fl),
        AV.imm (IV.int IntKind.i64 (↑i : Int)), AV.dead, AV.dead, AV.dead, AV.dead, AV.dead, AV.dead, AV.dead, AV.dead,
        AV.dead, AV.dead, AV.dead, AV.dead, AV.dead, AV.dead, AV.dead, AV.dead, AV.dead, AV.dead, AV.dead, AV.dead,
        AV.dead, AV.dead, AV.dead, AV.dead, AV.dead, AV.dead, AV.dead, AV.dead, AV.dead, AV.dead, AV.dead, AV.dead,
        AV.dead, AV.dead, AV.dead, AV.dead, AV.dead, AV.dead, AV.dead, AV.dead, AV.dead, AV.dead, AV.dead, AV.dead,
        AV.imm (IV.int IntKind.i64 (↑i : Int)), AV.imm (IV.bytes c),
        AV.imm (IV.int IntKind.i64 (↑(List.length c) : Int)),
        AV.imm (IV.bool (decide ((↑i : Int) < (↑(List.length c) : Int)))), AV.dead, AV.dead, AV.dead, AV.dead, AV.dead,
        AV.dead, AV.dead, AV.dead, AV.dead, AV.dead, AV.dead, AV.dead, AV.dead, AV.dead, AV.dead, AV.dead, AV.dead,
        AV.dead, AV.dead, AV.dead, AV.dead, AV.dead, AV.dead, AV.dead, AV.dead, AV.dead, AV.dead]
      [] (0 : Nat) []))) := by kernel_rfl
theorem f5_lp (xs : List
  (List
    IV)) (n : Int) (m : Int) (e : Int) (w : Int) (i : Nat) (k : AX →
  St → Prop) : evCode C5 (loopB (bodyOf Tryd.f5) (0 : Nat)) (h5 xs n m e w i) k =
  (brn (decide ((↑i : Int) < (↑(List.length xs) : Int)))
  ((0 : Int) ≤ (↑i : Int) ∧
    (↑i : Int) ≤ IntKind.wrap IntKind.i64 ((↑i : Int) + (1 : Int)) ∧
      IntKind.wrap IntKind.i64 ((↑i : Int) + (1 : Int)) ≤ (↑(List.length xs) : Int) ∧
        okT
            (List.take (Int.toNat (IntKind.wrap IntKind.i64 ((↑i : Int) + (1 : Int))) - Int.toNat (↑i : Int))
              (List.drop (Int.toNat (↑i : Int)) xs)) ∧
          (↑(List.length
                    (List.take (Int.toNat (IntKind.wrap IntKind.i64 ((↑i : Int) + (1 : Int))) - Int.toNat (↑i : Int))
                      (List.drop (Int.toNat (↑i : Int)) xs))) :
                Int) ≤
              big ∧
            brn
              (check
                    (tys
                      (List.take (Int.toNat (IntKind.wrap IntKind.i64 ((↑i : Int) + (1 : Int))) - Int.toNat (↑i : Int))
                        (List.drop (Int.toNat (↑i : Int)) xs)))
                    (IntKind.wrap IntKind.i64 n) ==
                  (9 : Int) ||
                check
                      (tys
                        (List.take
                          (Int.toNat (IntKind.wrap IntKind.i64 ((↑i : Int) + (1 : Int))) - Int.toNat (↑i : Int))
                          (List.drop (Int.toNat (↑i : Int)) xs)))
                      (IntKind.wrap IntKind.i64 n) ==
                    (8 : Int) &&
                  w == (0 : Int))
              (brn
                (check
                        (tys
                          (List.take
                            (Int.toNat (IntKind.wrap IntKind.i64 ((↑i : Int) + (1 : Int))) - Int.toNat (↑i : Int))
                            (List.drop (Int.toNat (↑i : Int)) xs)))
                        (IntKind.wrap IntKind.i64 n) !=
                      (0 : Int) &&
                    check
                        (tys
                          (List.take
                            (Int.toNat (IntKind.wrap IntKind.i64 ((↑i : Int) + (1 : Int))) - Int.toNat (↑i : Int))
                            (List.drop (Int.toNat (↑i : Int)) xs)))
                        (IntKind.wrap IntKind.i64 n) !=
                      (9 : Int) &&
                  check
                      (tys
                        (List.take
                          (Int.toNat (IntKind.wrap IntKind.i64 ((↑i : Int) + (1 : Int))) - Int.toNat (↑i : Int))
                          (List.drop (Int.toNat (↑i : Int)) xs)))
                      (IntKind.wrap IntKind.i64 n) !=
                    (8 : Int))
                (k AX.ret
                  (St.mk
                    [AV.imm (IV.sl (3 : Nat) xs), AV.imm (IV.int IntKind.u8 n), AV.imm (IV.int IntKind.u8 m), AV.dead,
                      AV.dead, AV.dead, AV.imm (IV.bool false), AV.imm (IV.int IntKind.i64 e),
                      AV.imm
                        (IV.int IntKind.i64
                          (check
                            (tys
                              (List.take
                                (Int.toNat (IntKind.wrap IntKind.i64 ((↑i : Int) + (1 : Int))) - Int.toNat (↑i : Int))
                                (List.drop (Int.toNat (↑i : Int)) xs)))
                            (IntKind.wrap IntKind.i64 n))),
                      AV.imm (IV.int IntKind.i64 (↑i : Int)),
                      AV.imm
                        (IV.int IntKind.i64
                          (check
                            (tys
                              (List.take
                                (Int.toNat (IntKind.wrap IntKind.i64 ((↑i : Int) + (1 : Int))) - Int.toNat (↑i : Int))
                                (List.drop (Int.toNat (↑i : Int)) xs)))
                            (IntKind.wrap IntKind.i64 n))),
                      AV.dead, AV.dead, AV.dead, AV.dead, AV.dead, AV.dead, AV.dead, AV.dead, AV.dead, AV.dead, AV.dead,
                      AV.dead, AV.dead, AV.imm (IV.int IntKind.i64 (↑i : Int)), AV.imm (IV.sl (3 : Nat) xs),
                      AV.imm (IV.int IntKind.i64 (↑(List.length xs) : Int)),
                      AV.imm (IV.bool (decide ((↑i : Int) < (↑(List.length xs) : Int)))), AV.dead, AV.dead,
                      AV.imm (IV.sl (3 : Nat) xs), AV.imm (IV.int IntKind.i64 (↑i : Int)),
                      AV.imm (IV.int IntKind.i64 (↑i : Int)),
                      AV.imm (IV.int IntKind.i64 (IntKind.wrap IntKind.i64 ((↑i : Int) + (1 : Int)))),
                      AV.imm
                        (IV.sl (3 : Nat)
                          (List.take
                            (Int.toNat (IntKind.wrap IntKind.i64 ((↑i : Int) + (1 : Int))) - Int.toNat (↑i : Int))
                            (List.drop (Int.toNat (↑i : Int)) xs))),
                      AV.imm (IV.int IntKind.u8 n), AV.imm (IV.int IntKind.i64 (IntKind.wrap IntKind.i64 n)),
                      AV.imm
                        (IV.int IntKind.i64
                          (check
                            (tys
                              (List.take
                                (Int.toNat (IntKind.wrap IntKind.i64 ((↑i : Int) + (1 : Int))) - Int.toNat (↑i : Int))
                                (List.drop (Int.toNat (↑i : Int)) xs)))
                            (IntKind.wrap IntKind.i64 n))),
                      AV.imm
                        (IV.int IntKind.i64
                          (check
                            (tys
                              (List.take
                                (Int.toNat (IntKind.wrap IntKind.i64 ((↑i : Int) + (1 : Int))) - Int.toNat (↑i : Int))
                                (List.drop (Int.toNat (↑i : Int)) xs)))
                            (IntKind.wrap IntKind.i64 n))),
                      AV.imm
                        (IV.bool
                          (check
                              (tys
                                (List.take
                                  (Int.toNat (IntKind.wrap IntKind.i64 ((↑i : Int) + (1 : Int))) - Int.toNat (↑i : Int))
                                  (List.drop (Int.toNat (↑i : Int)) xs)))
                              (IntKind.wrap IntKind.i64 n) ==
                            (9 : Int))),
                      AV.imm
                        (IV.bool
                          (check
                              (tys
                                (List.take
                                  (Int.toNat (IntKind.wrap IntKind.i64 ((↑i : Int) + (1 : Int))) - Int.toNat (↑i : Int))
                                  (List.drop (Int.toNat (↑i : Int)) xs)))
                              (IntKind.wrap IntKind.i64 n) ==
                            (9 : Int))),
                      AV.dead, AV.dead, AV.dead, AV.dead, AV.dead, AV.dead,
                      AV.imm
                        (IV.bool
                          (check
                                (tys
                                  (List.take
                                    (Int.toNat (IntKind.wrap IntKind.i64 ((↑i : Int) + (1 : Int))) -
                                      Int.toNat (↑i : Int))
                                    (List.drop (Int.toNat (↑i : Int)) xs)))
                                (IntKind.wrap IntKind.i64 n) ==
                              (9 : Int) ||
                            check
                                  (tys
                                    (List.take
                                      (Int.toNat (IntKind.wrap IntKind.i64 ((↑i : Int) + (1 : Int))) -
                                        Int.toNat (↑i : Int))
                                      (List.drop (Int.toNat (↑i : Int)) xs)))
                                  (IntKind.wrap IntKind.i64 n) ==
                                (8 : Int) &&
                              w == (0 : Int))),
                      AV.imm
                        (IV.int IntKind.i64
                          (check
                            (tys
                              (List.take
                                (Int.toNat (IntKind.wrap IntKind.i64 ((↑i : Int) + (1 : Int))) - Int.toNat (↑i : Int))
                                (List.drop (Int.toNat (↑i : Int)) xs)))
                            (IntKind.wrap IntKind.i64 n))),
                      AV.imm
                        (IV.int IntKind.i64
                          (check
                            (tys
                              (List.take
                                (Int.toNat (IntKind.wrap IntKind.i64 ((↑i : Int) + (1 : Int))) - Int.toNat (↑i : Int))
                                (List.drop (Int.toNat (↑i : Int)) xs)))
                            (IntKind.wrap IntKind.i64 n))),
                      AV.imm
                        (IV.bool
                          (check
                              (tys
                                (List.take
                                  (Int.toNat (IntKind.wrap IntKind.i64 ((↑i : Int) + (1 : Int))) - Int.toNat (↑i : Int))
                                  (List.drop (Int.toNat (↑i : Int)) xs)))
                              (IntKind.wrap IntKind.i64 n) !=
                            (0 : Int))),
                      AV.imm
                        (IV.bool
                          (check
                              (tys
                                (List.take
                                  (Int.toNat (IntKind.wrap IntKind.i64 ((↑i : Int) + (1 : Int))) - Int.toNat (↑i : Int))
                                  (List.drop (Int.toNat (↑i : Int)) xs)))
                              (IntKind.wrap IntKind.i64 n) !=
                            (0 : Int))),
                      AV.opt [((51 : Nat), true)]
                        (AV.imm
                          (IV.int IntKind.i64
                            (check
                              (tys
                                (List.take
                                  (Int.toNat (IntKind.wrap IntKind.i64 ((↑i : Int) + (1 : Int))) - Int.toNat (↑i : Int))
                                  (List.drop (Int.toNat (↑i : Int)) xs)))
                              (IntKind.wrap IntKind.i64 n)))),
                      AV.opt [((51 : Nat), true)]
                        (AV.imm
                          (IV.bool
                            (check
                                (tys
                                  (List.take
                                    (Int.toNat (IntKind.wrap IntKind.i64 ((↑i : Int) + (1 : Int))) -
                                      Int.toNat (↑i : Int))
                                    (List.drop (Int.toNat (↑i : Int)) xs)))
                                (IntKind.wrap IntKind.i64 n) !=
                              (9 : Int)))),
                      AV.imm
                        (IV.bool
                          (check
                                (tys
                                  (List.take
                                    (Int.toNat (IntKind.wrap IntKind.i64 ((↑i : Int) + (1 : Int))) -
                                      Int.toNat (↑i : Int))
                                    (List.drop (Int.toNat (↑i : Int)) xs)))
                                (IntKind.wrap IntKind.i64 n) !=
                              (0 : Int) &&
                            check
                                (tys
                                  (List.take
                                    (Int.toNat (IntKind.wrap IntKind.i64 ((↑i : Int) + (1 : Int))) -
                                      Int.toNat (↑i : Int))
                                    (List.drop (Int.toNat (↑i : Int)) xs)))
                                (IntKind.wrap IntKind.i64 n) !=
                              (9 : Int))),
                      AV.imm
                        (IV.bool
                          (check
                                (tys
                                  (List.take
                                    (Int.toNat (IntKind.wrap IntKind.i64 ((↑i : Int) + (1 : Int))) -
                                      Int.toNat (↑i : Int))
                                    (List.drop (Int.toNat (↑i : Int)) xs)))
                                (IntKind.wrap IntKind.i64 n) !=
                              (0 : Int) &&
                            check
                                (tys
                                  (List.take
                                    (Int.toNat (IntKind.wrap IntKind.i64 ((↑i : Int) + (1 : Int))) -
                                      Int.toNat (↑i : Int))
                                    (List.drop (Int.toNat (↑i : Int)) xs)))
                                (IntKind.wrap IntKind.i64 n) !=
                              (9 : Int))),
                      AV.opt [((55 : Nat), true)]
                        (AV.imm
                          (IV.int IntKind.i64
                            (check
                              (tys
                                (List.take
                                  (Int.toNat (IntKind.wrap IntKind.i64 ((↑i : Int) + (1 : Int))) - Int.toNat (↑i : Int))
                                  (List.drop (Int.toNat (↑i : Int)) xs)))
                              (IntKind.wrap IntKind.i64 n)))),
                      AV.opt [((55 : Nat), true)]
                        (AV.imm
                          (IV.bool
                            (check
                                (tys
                                  (List.take
                                    (Int.toNat (IntKind.wrap IntKind.i64 ((↑i : Int) + (1 : Int))) -
                                      Int.toNat (↑i : Int))
                                    (List.drop (Int.toNat (↑i : Int)) xs)))
                                (IntKind.wrap IntKind.i64 n) !=
                              (8 : Int)))),
                      AV.imm
                        (IV.bool
                          (check
                                  (tys
                                    (List.take
                                      (Int.toNat (IntKind.wrap IntKind.i64 ((↑i : Int) + (1 : Int))) -
                                        Int.toNat (↑i : Int))
                                      (List.drop (Int.toNat (↑i : Int)) xs)))
                                  (IntKind.wrap IntKind.i64 n) !=
                                (0 : Int) &&
                              check
                                  (tys
                                    (List.take
                                      (Int.toNat (IntKind.wrap IntKind.i64 ((↑i : Int) + (1 : Int))) -
                                        Int.toNat (↑i : Int))
                                      (List.drop (Int.toNat (↑i : Int)) xs)))
                                  (IntKind.wrap IntKind.i64 n) !=
                                (9 : Int) &&
                            check
                                (tys
                                  (List.take
                                    (Int.toNat (IntKind.wrap IntKind.i64 ((↑i : Int) + (1 : Int))) -
                                      Int.toNat (↑i : Int))
                                    (List.drop (Int.toNat (↑i : Int)) xs)))
                                (IntKind.wrap IntKind.i64 n) !=
                              (8 : Int))),
                      AV.dead, AV.dead, AV.dead, AV.dead, AV.dead, AV.dead, AV.dead, AV.dead, AV.dead, AV.dead, AV.dead,
                      AV.dead, AV.dead, AV.dead, AV.dead, AV.dead, AV.dead, AV.dead, AV.dead, AV.dead, AV.dead, AV.dead,
                      AV.dead, AV.dead, AV.dead, AV.dead, AV.dead, AV.dead, AV.dead, AV.dead, AV.dead, AV.dead, AV.dead,
                      AV.dead, AV.dead, AV.dead, AV.dead, AV.dead, AV.dead]
                    [] (0 : Nat) []))
                (k AX.normal
                  (St.mk
                    [AV.imm (IV.sl (3 : Nat) xs), AV.imm (IV.int IntKind.u8 n), AV.imm (IV.int IntKind.u8 m), AV.dead,
                      AV.dead, AV.dead, AV.dead, AV.imm (IV.int IntKind.i64 e),
                      AV.imm
                        (IV.int IntKind.i64
                          (check
                            (tys
                              (List.take
                                (Int.toNat (IntKind.wrap IntKind.i64 ((↑i : Int) + (1 : Int))) - Int.toNat (↑i : Int))
                                (List.drop (Int.toNat (↑i : Int)) xs)))
                            (IntKind.wrap IntKind.i64 n))),
                      AV.imm (IV.int IntKind.i64 (IntKind.wrap IntKind.i64 ((↑i : Int) + (1 : Int)))),
                      AV.imm
                        (IV.int IntKind.i64
                          (check
                            (tys
                              (List.take
                                (Int.toNat (IntKind.wrap IntKind.i64 ((↑i : Int) + (1 : Int))) - Int.toNat (↑i : Int))
                                (List.drop (Int.toNat (↑i : Int)) xs)))
                            (IntKind.wrap IntKind.i64 n))),
                      AV.dead, AV.dead, AV.dead, AV.dead, AV.dead, AV.dead, AV.dead, AV.dead, AV.dead, AV.dead, AV.dead,
                      AV.dead, AV.dead, AV.imm (IV.int IntKind.i64 (↑i : Int)), AV.imm (IV.sl (3 : Nat) xs),
                      AV.imm (IV.int IntKind.i64 (↑(List.length xs) : Int)),
                      AV.imm (IV.bool (decide ((↑i : Int) < (↑(List.length xs) : Int)))),
                      AV.imm (IV.int IntKind.i64 (↑i : Int)),
                      AV.imm (IV.int IntKind.i64 (IntKind.wrap IntKind.i64 ((↑i : Int) + (1 : Int)))),
                      AV.imm (IV.sl (3 : Nat) xs), AV.imm (IV.int IntKind.i64 (↑i : Int)),
                      AV.imm (IV.int IntKind.i64 (↑i : Int)),
                      AV.imm (IV.int IntKind.i64 (IntKind.wrap IntKind.i64 ((↑i : Int) + (1 : Int)))),
                      AV.imm
                        (IV.sl (3 : Nat)
                          (List.take
                            (Int.toNat (IntKind.wrap IntKind.i64 ((↑i : Int) + (1 : Int))) - Int.toNat (↑i : Int))
                            (List.drop (Int.toNat (↑i : Int)) xs))),
                      AV.imm (IV.int IntKind.u8 n), AV.imm (IV.int IntKind.i64 (IntKind.wrap IntKind.i64 n)),
                      AV.imm
                        (IV.int IntKind.i64
                          (check
                            (tys
                              (List.take
                                (Int.toNat (IntKind.wrap IntKind.i64 ((↑i : Int) + (1 : Int))) - Int.toNat (↑i : Int))
                                (List.drop (Int.toNat (↑i : Int)) xs)))
                            (IntKind.wrap IntKind.i64 n))),
                      AV.imm
                        (IV.int IntKind.i64
                          (check
                            (tys
                              (List.take
                                (Int.toNat (IntKind.wrap IntKind.i64 ((↑i : Int) + (1 : Int))) - Int.toNat (↑i : Int))
                                (List.drop (Int.toNat (↑i : Int)) xs)))
                            (IntKind.wrap IntKind.i64 n))),
                      AV.imm
                        (IV.bool
                          (check
                              (tys
                                (List.take
                                  (Int.toNat (IntKind.wrap IntKind.i64 ((↑i : Int) + (1 : Int))) - Int.toNat (↑i : Int))
                                  (List.drop (Int.toNat (↑i : Int)) xs)))
                              (IntKind.wrap IntKind.i64 n) ==
                            (9 : Int))),
                      AV.imm
                        (IV.bool
                          (check
                              (tys
                                (List.take
                                  (Int.toNat (IntKind.wrap IntKind.i64 ((↑i : Int) + (1 : Int))) - Int.toNat (↑i : Int))
                                  (List.drop (Int.toNat (↑i : Int)) xs)))
                              (IntKind.wrap IntKind.i64 n) ==
                            (9 : Int))),
                      AV.dead, AV.dead, AV.dead, AV.dead, AV.dead, AV.dead,
                      AV.imm
                        (IV.bool
                          (check
                                (tys
                                  (List.take
                                    (Int.toNat (IntKind.wrap IntKind.i64 ((↑i : Int) + (1 : Int))) -
                                      Int.toNat (↑i : Int))
                                    (List.drop (Int.toNat (↑i : Int)) xs)))
                                (IntKind.wrap IntKind.i64 n) ==
                              (9 : Int) ||
                            check
                                  (tys
                                    (List.take
                                      (Int.toNat (IntKind.wrap IntKind.i64 ((↑i : Int) + (1 : Int))) -
                                        Int.toNat (↑i : Int))
                                      (List.drop (Int.toNat (↑i : Int)) xs)))
                                  (IntKind.wrap IntKind.i64 n) ==
                                (8 : Int) &&
                              w == (0 : Int))),
                      AV.imm
                        (IV.int IntKind.i64
                          (check
                            (tys
                              (List.take
                                (Int.toNat (IntKind.wrap IntKind.i64 ((↑i : Int) + (1 : Int))) - Int.toNat (↑i : Int))
                                (List.drop (Int.toNat (↑i : Int)) xs)))
                            (IntKind.wrap IntKind.i64 n))),
                      AV.imm
                        (IV.int IntKind.i64
                          (check
                            (tys
                              (List.take
                                (Int.toNat (IntKind.wrap IntKind.i64 ((↑i : Int) + (1 : Int))) - Int.toNat (↑i : Int))
                                (List.drop (Int.toNat (↑i : Int)) xs)))
                            (IntKind.wrap IntKind.i64 n))),
                      AV.imm
                        (IV.bool
                          (check
                              (tys
                                (List.take
                                  (Int.toNat (IntKind.wrap IntKind.i64 ((↑i : Int) + (1 : Int))) - Int.toNat (↑i : Int))
                                  (List.drop (Int.toNat (↑i : Int)) xs)))
                              (IntKind.wrap IntKind.i64 n) !=
                            (0 : Int))),
                      AV.imm
                        (IV.bool
                          (check
                              (tys
                                (List.take
                                  (Int.toNat (IntKind.wrap IntKind.i64 ((↑i : Int) + (1 : Int))) - Int.toNat (↑i : Int))
                                  (List.drop (Int.toNat (↑i : Int)) xs)))
                              (IntKind.wrap IntKind.i64 n) !=
                            (0 : Int))),
                      AV.opt [((51 : Nat), true)]
                        (AV.imm
                          (IV.int IntKind.i64
                            (check
                              (tys
                                (List.take
                                  (Int.toNat (IntKind.wrap IntKind.i64 ((↑i : Int) + (1 : Int))) - Int.toNat (↑i : Int))
                                  (List.drop (Int.toNat (↑i : Int)) xs)))
                              (IntKind.wrap IntKind.i64 n)))),
                      AV.opt [((51 : Nat), true)]
                        (AV.imm
                          (IV.bool
                            (check
                                (tys
                                  (List.take
                                    (Int.toNat (IntKind.wrap IntKind.i64 ((↑i : Int) + (1 : Int))) -
                                      Int.toNat (↑i : Int))
                                    (List.drop (Int.toNat (↑i : Int)) xs)))
                                (IntKind.wrap IntKind.i64 n) !=
                              (9 : Int)))),
                      AV.imm
                        (IV.bool
                          (check
                                (tys
                                  (List.take
                                    (Int.toNat (IntKind.wrap IntKind.i64 ((↑i : Int) + (1 : Int))) -
                                      Int.toNat (↑i : Int))
                                    (List.drop (Int.toNat (↑i : Int)) xs)))
                                (IntKind.wrap IntKind.i64 n) !=
                              (0 : Int) &&
                            check
                                (tys
                                  (List.take
                                    (Int.toNat (IntKind.wrap IntKind.i64 ((↑i : Int) + (1 : Int))) -
                                      Int.toNat (↑i : Int))
                                    (List.drop (Int.toNat (↑i : Int)) xs)))
                                (IntKind.wrap IntKind.i64 n) !=
                              (9 : Int))),
                      AV.imm
                        (IV.bool
                          (check
                                (tys
                                  (List.take
                                    (Int.toNat (IntKind.wrap IntKind.i64 ((↑i : Int) + (1 : Int))) -
                                      Int.toNat (↑i : Int))
                                    (List.drop (Int.toNat (↑i : Int)) xs)))
                                (IntKind.wrap IntKind.i64 n) !=
                              (0 : Int) &&
                            check
                                (tys
                                  (List.take
                                    (Int.toNat (IntKind.wrap IntKind.i64 ((↑i : Int) + (1 : Int))) -
                                      Int.toNat (↑i : Int))
                                    (List.drop (Int.toNat (↑i : Int)) xs)))
                                (IntKind.wrap IntKind.i64 n) !=
                              (9 : Int))),
                      AV.opt [((55 : Nat), true)]
                        (AV.imm
                          (IV.int IntKind.i64
                            (check
                              (tys
                                (List.take
                                  (Int.toNat (IntKind.wrap IntKind.i64 ((↑i : Int) + (1 : Int))) - Int.toNat (↑i : Int))
                                  (List.drop (Int.toNat (↑i : Int)) xs)))
                              (IntKind.wrap IntKind.i64 n)))),
                      AV.opt [((55 : Nat), true)]
                        (AV.imm
                          (IV.bool
                            (check
                                (tys
                                  (List.take
                                    (Int.toNat (IntKind.wrap IntKind.i64 ((↑i : Int) + (1 : Int))) -
                                      Int.toNat (↑i : Int))
                                    (List.drop (Int.toNat (↑i : Int)) xs)))
                                (IntKind.wrap IntKind.i64 n) !=
                              (8 : Int)))),
                      AV.imm
                        (IV.bool
                          (check
                                  (tys
                                    (List.take
                                      (Int.toNat (IntKind.wrap IntKind.i64 ((↑i : Int) + (1 : Int))) -
                                        Int.toNat (↑i : Int))
                                      (List.drop (Int.toNat (↑i : Int)) xs)))
                                  (IntKind.wrap IntKind.i64 n) !=
                                (0 : Int) &&
                              check
                                  (tys
                                    (List.take
                                      (Int.toNat (IntKind.wrap IntKind.i64 ((↑i : Int) + (1 : Int))) -
                                        Int.toNat (↑i : Int))
                                      (List.drop (Int.toNat (↑i : Int)) xs)))
                                  (IntKind.wrap IntKind.i64 n) !=
                                (9 : Int) &&
                            check
                                (tys
                                  (List.take
                                    (Int.toNat (IntKind.wrap IntKind.i64 ((↑i : Int) + (1 : Int))) -
                                      Int.toNat (↑i : Int))
                                    (List.drop (Int.toNat (↑i : Int)) xs)))
                                (IntKind.wrap IntKind.i64 n) !=
                              (8 : Int))),
                      AV.dead, AV.dead, AV.dead, AV.dead, AV.dead, AV.dead, AV.dead, AV.dead, AV.dead, AV.dead, AV.dead,
                      AV.dead, AV.dead, AV.dead, AV.dead, AV.dead, AV.dead, AV.dead, AV.dead, AV.dead, AV.dead, AV.dead,
                      AV.dead, AV.dead, AV.dead, AV.dead, AV.dead, AV.dead, AV.dead, AV.dead, AV.dead, AV.dead, AV.dead,
                      AV.dead, AV.dead, AV.dead, AV.dead, AV.dead, AV.dead]
                    [] (0 : Nat) [])))
              (brn
                (check
                        (tys
                          (List.take
                            (Int.toNat (IntKind.wrap IntKind.i64 ((↑i : Int) + (1 : Int))) - Int.toNat (↑i : Int))
                            (List.drop (Int.toNat (↑i : Int)) xs)))
                        (IntKind.wrap IntKind.i64 n) !=
                      (0 : Int) &&
                    check
                        (tys
                          (List.take
                            (Int.toNat (IntKind.wrap IntKind.i64 ((↑i : Int) + (1 : Int))) - Int.toNat (↑i : Int))
                            (List.drop (Int.toNat (↑i : Int)) xs)))
                        (IntKind.wrap IntKind.i64 n) !=
                      (9 : Int) &&
                  check
                      (tys
                        (List.take
                          (Int.toNat (IntKind.wrap IntKind.i64 ((↑i : Int) + (1 : Int))) - Int.toNat (↑i : Int))
                          (List.drop (Int.toNat (↑i : Int)) xs)))
                      (IntKind.wrap IntKind.i64 n) !=
                    (8 : Int))
                (k AX.ret
                  (St.mk
                    [AV.imm (IV.sl (3 : Nat) xs), AV.imm (IV.int IntKind.u8 n), AV.imm (IV.int IntKind.u8 m), AV.dead,
                      AV.dead, AV.dead, AV.imm (IV.bool false), AV.imm (IV.int IntKind.i64 e),
                      AV.imm (IV.int IntKind.i64 w), AV.imm (IV.int IntKind.i64 (↑i : Int)),
                      AV.imm
                        (IV.int IntKind.i64
                          (check
                            (tys
                              (List.take
                                (Int.toNat (IntKind.wrap IntKind.i64 ((↑i : Int) + (1 : Int))) - Int.toNat (↑i : Int))
                                (List.drop (Int.toNat (↑i : Int)) xs)))
                            (IntKind.wrap IntKind.i64 n))),
                      AV.dead, AV.dead, AV.dead, AV.dead, AV.dead, AV.dead, AV.dead, AV.dead, AV.dead, AV.dead, AV.dead,
                      AV.dead, AV.dead, AV.imm (IV.int IntKind.i64 (↑i : Int)), AV.imm (IV.sl (3 : Nat) xs),
                      AV.imm (IV.int IntKind.i64 (↑(List.length xs) : Int)),
                      AV.imm (IV.bool (decide ((↑i : Int) < (↑(List.length xs) : Int)))), AV.dead, AV.dead,
                      AV.imm (IV.sl (3 : Nat) xs), AV.imm (IV.int IntKind.i64 (↑i : Int)),
                      AV.imm (IV.int IntKind.i64 (↑i : Int)),
                      AV.imm (IV.int IntKind.i64 (IntKind.wrap IntKind.i64 ((↑i : Int) + (1 : Int)))),
                      AV.imm
                        (IV.sl (3 : Nat)
                          (List.take
                            (Int.toNat (IntKind.wrap IntKind.i64 ((↑i : Int) + (1 : Int))) - Int.toNat (↑i : Int))
                            (List.drop (Int.toNat (↑i : Int)) xs))),
                      AV.imm (IV.int IntKind.u8 n), AV.imm (IV.int IntKind.i64 (IntKind.wrap IntKind.i64 n)),
                      AV.imm
                        (IV.int IntKind.i64
                          (check
                            (tys
                              (List.take
                                (Int.toNat (IntKind.wrap IntKind.i64 ((↑i : Int) + (1 : Int))) - Int.toNat (↑i : Int))
                                (List.drop (Int.toNat (↑i : Int)) xs)))
                            (IntKind.wrap IntKind.i64 n))),
                      AV.imm
                        (IV.int IntKind.i64
                          (check
                            (tys
                              (List.take
                                (Int.toNat (IntKind.wrap IntKind.i64 ((↑i : Int) + (1 : Int))) - Int.toNat (↑i : Int))
                                (List.drop (Int.toNat (↑i : Int)) xs)))
                            (IntKind.wrap IntKind.i64 n))),
                      AV.imm
                        (IV.bool
                          (check
                              (tys
                                (List.take
                                  (Int.toNat (IntKind.wrap IntKind.i64 ((↑i : Int) + (1 : Int))) - Int.toNat (↑i : Int))
                                  (List.drop (Int.toNat (↑i : Int)) xs)))
                              (IntKind.wrap IntKind.i64 n) ==
                            (9 : Int))),
                      AV.imm
                        (IV.bool
                          (check
                              (tys
                                (List.take
                                  (Int.toNat (IntKind.wrap IntKind.i64 ((↑i : Int) + (1 : Int))) - Int.toNat (↑i : Int))
                                  (List.drop (Int.toNat (↑i : Int)) xs)))
                              (IntKind.wrap IntKind.i64 n) ==
                            (9 : Int))),
                      AV.dead, AV.dead, AV.dead, AV.dead, AV.dead, AV.dead,
                      AV.imm
                        (IV.bool
                          (check
                                (tys
                                  (List.take
                                    (Int.toNat (IntKind.wrap IntKind.i64 ((↑i : Int) + (1 : Int))) -
                                      Int.toNat (↑i : Int))
                                    (List.drop (Int.toNat (↑i : Int)) xs)))
                                (IntKind.wrap IntKind.i64 n) ==
                              (9 : Int) ||
                            check
                                  (tys
                                    (List.take
                                      (Int.toNat (IntKind.wrap IntKind.i64 ((↑i : Int) + (1 : Int))) -
                                        Int.toNat (↑i : Int))
                                      (List.drop (Int.toNat (↑i : Int)) xs)))
                                  (IntKind.wrap IntKind.i64 n) ==
                                (8 : Int) &&
                              w == (0 : Int))),
                      AV.dead,
                      AV.imm
                        (IV.int IntKind.i64
                          (check
                            (tys
                              (List.take
                                (Int.toNat (IntKind.wrap IntKind.i64 ((↑i : Int) + (1 : Int))) - Int.toNat (↑i : Int))
                                (List.drop (Int.toNat (↑i : Int)) xs)))
                            (IntKind.wrap IntKind.i64 n))),
                      AV.imm
                        (IV.bool
                          (check
                              (tys
                                (List.take
                                  (Int.toNat (IntKind.wrap IntKind.i64 ((↑i : Int) + (1 : Int))) - Int.toNat (↑i : Int))
                                  (List.drop (Int.toNat (↑i : Int)) xs)))
                              (IntKind.wrap IntKind.i64 n) !=
                            (0 : Int))),
                      AV.imm
                        (IV.bool
                          (check
                              (tys
                                (List.take
                                  (Int.toNat (IntKind.wrap IntKind.i64 ((↑i : Int) + (1 : Int))) - Int.toNat (↑i : Int))
                                  (List.drop (Int.toNat (↑i : Int)) xs)))
                              (IntKind.wrap IntKind.i64 n) !=
                            (0 : Int))),
                      AV.opt [((51 : Nat), true)]
                        (AV.imm
                          (IV.int IntKind.i64
                            (check
                              (tys
                                (List.take
                                  (Int.toNat (IntKind.wrap IntKind.i64 ((↑i : Int) + (1 : Int))) - Int.toNat (↑i : Int))
                                  (List.drop (Int.toNat (↑i : Int)) xs)))
                              (IntKind.wrap IntKind.i64 n)))),
                      AV.opt [((51 : Nat), true)]
                        (AV.imm
                          (IV.bool
                            (check
                                (tys
                                  (List.take
                                    (Int.toNat (IntKind.wrap IntKind.i64 ((↑i : Int) + (1 : Int))) -
                                      Int.toNat (↑i : Int))
                                    (List.drop (Int.toNat (↑i : Int)) xs)))
                                (IntKind.wrap IntKind.i64 n) !=
                              (9 : Int)))),
                      AV.imm
                        (IV.bool
                          (check
                                (tys
                                  (List.take
                                    (Int.toNat (IntKind.wrap IntKind.i64 ((↑i : Int) + (1 : Int))) -
                                      Int.toNat (↑i : Int))
                                    (List.drop (Int.toNat (↑i : Int)) xs)))
                                (IntKind.wrap IntKind.i64 n) !=
                              (0 : Int) &&
                            check
                                (tys
                                  (List.take
                                    (Int.toNat (IntKind.wrap IntKind.i64 ((↑i : Int) + (1 : Int))) -
                                      Int.toNat (↑i : Int))
                                    (List.drop (Int.toNat (↑i : Int)) xs)))
                                (IntKind.wrap IntKind.i64 n) !=
                              (9 : Int))),
                      AV.imm
                        (IV.bool
                          (check
                                (tys
                                  (List.take
                                    (Int.toNat (IntKind.wrap IntKind.i64 ((↑i : Int) + (1 : Int))) -
                                      Int.toNat (↑i : Int))
                                    (List.drop (Int.toNat (↑i : Int)) xs)))
                                (IntKind.wrap IntKind.i64 n) !=
                              (0 : Int) &&
                            check
                                (tys
                                  (List.take
                                    (Int.toNat (IntKind.wrap IntKind.i64 ((↑i : Int) + (1 : Int))) -
                                      Int.toNat (↑i : Int))
                                    (List.drop (Int.toNat (↑i : Int)) xs)))
                                (IntKind.wrap IntKind.i64 n) !=
                              (9 : Int))),
                      AV.opt [((55 : Nat), true)]
                        (AV.imm
                          (IV.int IntKind.i64
                            (check
                              (tys
                                (List.take
                                  (Int.toNat (IntKind.wrap IntKind.i64 ((↑i : Int) + (1 : Int))) - Int.toNat (↑i : Int))
                                  (List.drop (Int.toNat (↑i : Int)) xs)))
                              (IntKind.wrap IntKind.i64 n)))),
                      AV.opt [((55 : Nat), true)]
                        (AV.imm
                          (IV.bool
                            (check
                                (tys
                                  (List.take
                                    (Int.toNat (IntKind.wrap IntKind.i64 ((↑i : Int) + (1 : Int))) -
                                      Int.toNat (↑i : Int))
                                    (List.drop (Int.toNat (↑i : Int)) xs)))
                                (IntKind.wrap IntKind.i64 n) !=
                              (8 : Int)))),
                      AV.imm
                        (IV.bool
                          (check
                                  (tys
                                    (List.take
                                      (Int.toNat (IntKind.wrap IntKind.i64 ((↑i : Int) + (1 : Int))) -
                                        Int.toNat (↑i : Int))
                                      (List.drop (Int.toNat (↑i : Int)) xs)))
                                  (IntKind.wrap IntKind.i64 n) !=
                                (0 : Int) &&
                              check
                                  (tys
                                    (List.take
                                      (Int.toNat (IntKind.wrap IntKind.i64 ((↑i : Int) + (1 : Int))) -
                                        Int.toNat (↑i : Int))
                                      (List.drop (Int.toNat (↑i : Int)) xs)))
                                  (IntKind.wrap IntKind.i64 n) !=
                                (9 : Int) &&
                            check
                                (tys
                                  (List.take
                                    (Int.toNat (IntKind.wrap IntKind.i64 ((↑i : Int) + (1 : Int))) -
                                      Int.toNat (↑i : Int))
                                    (List.drop (Int.toNat (↑i : Int)) xs)))
                                (IntKind.wrap IntKind.i64 n) !=
                              (8 : Int))),
                      AV.dead, AV.dead, AV.dead, AV.dead, AV.dead, AV.dead, AV.dead, AV.dead, AV.dead, AV.dead, AV.dead,
                      AV.dead, AV.dead, AV.dead, AV.dead, AV.dead, AV.dead, AV.dead, AV.dead, AV.dead, AV.dead, AV.dead,
                      AV.dead, AV.dead, AV.dead, AV.dead, AV.dead, AV.dead, AV.dead, AV.dead, AV.dead, AV.dead, AV.dead,
                      AV.dead, AV.dead, AV.dead, AV.dead, AV.dead, AV.dead]
                    [] (0 : Nat) []))
                (k AX.normal
                  (St.mk
                    [AV.imm (IV.sl (3 : Nat) xs), AV.imm (IV.int IntKind.u8 n), AV.imm (IV.int IntKind.u8 m), AV.dead,
                      AV.dead, AV.dead, AV.dead, AV.imm (IV.int IntKind.i64 e), AV.imm (IV.int IntKind.i64 w),
                      AV.imm (IV.int IntKind.i64 (IntKind.wrap IntKind.i64 ((↑i : Int) + (1 : Int)))),
                      AV.imm
                        (IV.int IntKind.i64
                          (check
                            (tys
                              (List.take
                                (Int.toNat (IntKind.wrap IntKind.i64 ((↑i : Int) + (1 : Int))) - Int.toNat (↑i : Int))
                                (List.drop (Int.toNat (↑i : Int)) xs)))
                            (IntKind.wrap IntKind.i64 n))),
                      AV.dead, AV.dead, AV.dead, AV.dead, AV.dead, AV.dead, AV.dead, AV.dead, AV.dead, AV.dead, AV.dead,
                      AV.dead, AV.dead, AV.imm (IV.int IntKind.i64 (↑i : Int)), AV.imm (IV.sl (3 : Nat) xs),
                      AV.imm (IV.int IntKind.i64 (↑(List.length xs) : Int)),
                      AV.imm (IV.bool (decide ((↑i : Int) < (↑(List.length xs) : Int)))),
                      AV.imm (IV.int IntKind.i64 (↑i : Int)),
                      AV.imm (IV.int IntKind.i64 (IntKind.wrap IntKind.i64 ((↑i : Int) + (1 : Int)))),
                      AV.imm (IV.sl (3 : Nat) xs), AV.imm (IV.int IntKind.i64 (↑i : Int)),
                      AV.imm (IV.int IntKind.i64 (↑i : Int)),
                      AV.imm (IV.int IntKind.i64 (IntKind.wrap IntKind.i64 ((↑i : Int) + (1 : Int)))),
                      AV.imm
                        (IV.sl (3 : Nat)
                          (List.take
                            (Int.toNat (IntKind.wrap IntKind.i64 ((↑i : Int) + (1 : Int))) - Int.toNat (↑i : Int))
                            (List.drop (Int.toNat (↑i : Int)) xs))),
                      AV.imm (IV.int IntKind.u8 n), AV.imm (IV.int IntKind.i64 (IntKind.wrap IntKind.i64 n)),
                      AV.imm
                        (IV.int IntKind.i64
                          (check
                            (tys
                              (List.take
                                (Int.toNat (IntKind.wrap IntKind.i64 ((↑i : Int) + (1 : Int))) - Int.toNat (↑i : Int))
                                (List.drop (Int.toNat (↑i : Int)) xs)))
                            (IntKind.wrap IntKind.i64 n))),
                      AV.imm
                        (IV.int IntKind.i64
                          (check
                            (tys
                              (List.take
                                (Int.toNat (IntKind.wrap IntKind.i64 ((↑i : Int) + (1 : Int))) - Int.toNat (↑i : Int))
                                (List.drop (Int.toNat (↑i : Int)) xs)))
                            (IntKind.wrap IntKind.i64 n))),
                      AV.imm
                        (IV.bool
                          (check
                              (tys
                                (List.take
                                  (Int.toNat (IntKind.wrap IntKind.i64 ((↑i : Int) + (1 : Int))) - Int.toNat (↑i : Int))
                                  (List.drop (Int.toNat (↑i : Int)) xs)))
                              (IntKind.wrap IntKind.i64 n) ==
                            (9 : Int))),
                      AV.imm
                        (IV.bool
                          (check
                              (tys
                                (List.take
                                  (Int.toNat (IntKind.wrap IntKind.i64 ((↑i : Int) + (1 : Int))) - Int.toNat (↑i : Int))
                                  (List.drop (Int.toNat (↑i : Int)) xs)))
                              (IntKind.wrap IntKind.i64 n) ==
                            (9 : Int))),
                      AV.dead, AV.dead, AV.dead, AV.dead, AV.dead, AV.dead,
                      AV.imm
                        (IV.bool
                          (check
                                (tys
                                  (List.take
                                    (Int.toNat (IntKind.wrap IntKind.i64 ((↑i : Int) + (1 : Int))) -
                                      Int.toNat (↑i : Int))
                                    (List.drop (Int.toNat (↑i : Int)) xs)))
                                (IntKind.wrap IntKind.i64 n) ==
                              (9 : Int) ||
                            check
                                  (tys
                                    (List.take
                                      (Int.toNat (IntKind.wrap IntKind.i64 ((↑i : Int) + (1 : Int))) -
                                        Int.toNat (↑i : Int))
                                      (List.drop (Int.toNat (↑i : Int)) xs)))
                                  (IntKind.wrap IntKind.i64 n) ==
                                (8 : Int) &&
                              w == (0 : Int))),
                      AV.dead,
                      AV.imm
                        (IV.int IntKind.i64
                          (check
                            (tys
                              (List.take
                                (Int.toNat (IntKind.wrap IntKind.i64 ((↑i : Int) + (1 : Int))) - Int.toNat (↑i : Int))
                                (List.drop (Int.toNat (↑i : Int)) xs)))
                            (IntKind.wrap IntKind.i64 n))),
                      AV.imm
                        (IV.bool
                          (check
                              (tys
                                (List.take
                                  (Int.toNat (IntKind.wrap IntKind.i64 ((↑i : Int) + (1 : Int))) - Int.toNat (↑i : Int))
                                  (List.drop (Int.toNat (↑i : Int)) xs)))
                              (IntKind.wrap IntKind.i64 n) !=
                            (0 : Int))),
                      AV.imm
                        (IV.bool
                          (check
                              (tys
                                (List.take
                                  (Int.toNat (IntKind.wrap IntKind.i64 ((↑i : Int) + (1 : Int))) - Int.toNat (↑i : Int))
                                  (List.drop (Int.toNat (↑i : Int)) xs)))
                              (IntKind.wrap IntKind.i64 n) !=
                            (0 : Int))),
                      AV.opt [((51 : Nat), true)]
                        (AV.imm
                          (IV.int IntKind.i64
                            (check
                              (tys
                                (List.take
                                  (Int.toNat (IntKind.wrap IntKind.i64 ((↑i : Int) + (1 : Int))) - Int.toNat (↑i : Int))
                                  (List.drop (Int.toNat (↑i : Int)) xs)))
                              (IntKind.wrap IntKind.i64 n)))),
                      AV.opt [((51 : Nat), true)]
                        (AV.imm
                          (IV.bool
                            (check
                                (tys
                                  (List.take
                                    (Int.toNat (IntKind.wrap IntKind.i64 ((↑i : Int) + (1 : Int))) -
                                      Int.toNat (↑i : Int))
                                    (List.drop (Int.toNat (↑i : Int)) xs)))
                                (IntKind.wrap IntKind.i64 n) !=
                              (9 : Int)))),
                      AV.imm
                        (IV.bool
                          (check
                                (tys
                                  (List.take
                                    (Int.toNat (IntKind.wrap IntKind.i64 ((↑i : Int) + (1 : Int))) -
                                      Int.toNat (↑i : Int))
                                    (List.drop (Int.toNat (↑i : Int)) xs)))
                                (IntKind.wrap IntKind.i64 n) !=
                              (0 : Int) &&
                            check
                                (tys
                                  (List.take
                                    (Int.toNat (IntKind.wrap IntKind.i64 ((↑i : Int) + (1 : Int))) -
                                      Int.toNat (↑i : Int))
                                    (List.drop (Int.toNat (↑i : Int)) xs)))
                                (IntKind.wrap IntKind.i64 n) !=
                              (9 : Int))),
                      AV.imm
                        (IV.bool
                          (check
                                (tys
                                  (List.take
                                    (Int.toNat (IntKind.wrap IntKind.i64 ((↑i : Int) + (1 : Int))) -
                                      Int.toNat (↑i : Int))
                                    (List.drop (Int.toNat (↑i : Int)) xs)))
                                (IntKind.wrap IntKind.i64 n) !=
                              (0 : Int) &&
                            check
                                (tys
                                  (List.take
                                    (Int.toNat (IntKind.wrap IntKind.i64 ((↑i : Int) + (1 : Int))) -
                                      Int.toNat (↑i : Int))
                                    (List.drop (Int.toNat (↑i : Int)) xs)))
                                (IntKind.wrap IntKind.i64 n) !=
                              (9 : Int))),
                      AV.opt [((55 : Nat), true)]
                        (AV.imm
                          (IV.int IntKind.i64
                            (check
                              (tys
                                (List.take
                                  (Int.toNat (IntKind.wrap IntKind.i64 ((↑i : Int) + (1 : Int))) - Int.toNat (↑i : Int))
                                  (List.drop (Int.toNat (↑i : Int)) xs)))
                              (IntKind.wrap IntKind.i64 n)))),
                      AV.opt [((55 : Nat), true)]
                        (AV.imm
                          (IV.bool
                            (check
                                (tys
                                  (List.take
                                    (Int.toNat (IntKind.wrap IntKind.i64 ((↑i : Int) + (1 : Int))) -
                                      Int.toNat (↑i : Int))
                                    (List.drop (Int.toNat (↑i : Int)) xs)))
                                (IntKind.wrap IntKind.i64 n) !=
                              (8 : Int)))),
                      AV.imm
                        (IV.bool
                          (check
                                  (tys
                                    (List.take
                                      (Int.toNat (IntKind.wrap IntKind.i64 ((↑i : Int) + (1 : Int))) -
                                        Int.toNat (↑i : Int))
                                      (List.drop (Int.toNat (↑i : Int)) xs)))
                                  (IntKind.wrap IntKind.i64 n) !=
                                (0 : Int) &&
                              check
                                  (tys
                                    (List.take
                                      (Int.toNat (IntKind.wrap IntKind.i64 ((↑i : Int) + (1 : Int))) -
                                        Int.toNat (↑i : Int))
                                      (List.drop (Int.toNat (↑i : Int)) xs)))
                                  (IntKind.wrap IntKind.i64 n) !=
                                (9 : Int) &&
                            check
                                (tys
                                  (List.take
                                    (Int.toNat (IntKind.wrap IntKind.i64 ((↑i : Int) + (1 : Int))) -
                                      Int.toNat (↑i : Int))
                                    (List.drop (Int.toNat (↑i : Int)) xs)))
                                (IntKind.wrap IntKind.i64 n) !=
                              (8 : Int))),
                      AV.dead, AV.dead, AV.dead, AV.dead, AV.dead, AV.dead, AV.dead, AV.dead, AV.dead, AV.dead, AV.dead,
                      AV.dead, AV.dead, AV.dead, AV.dead, AV.dead, AV.dead, AV.dead, AV.dead, AV.dead, AV.dead, AV.dead,
                      AV.dead, AV.dead, AV.dead, AV.dead, AV.dead, AV.dead, AV.dead, AV.dead, AV.dead, AV.dead, AV.dead,
                      AV.dead, AV.dead, AV.dead, AV.dead, AV.dead, AV.dead]
                    [] (0 : Nat) []))))
  (k (AX.exit (0 : Nat))
    (St.mk
      [AV.imm (IV.sl (3 : Nat) xs), AV.imm (IV.int IntKind.u8 n), AV.imm (IV.int IntKind.u8 m), AV.dead, AV.dead,
        AV.dead, AV.dead, AV.imm (IV.int IntKind.i64 e), AV.imm (IV.int IntKind.i64 w),
        AV.imm (IV.int IntKind.i64 (↑i : Int)), AV.dead, AV.dead, AV.dead, AV.dead, AV.dead, AV.dead, AV.dead, AV.dead,
        AV.dead, AV.dead, AV.dead, AV.dead, AV.dead, AV.dead, AV.imm (IV.int IntKind.i64 (↑i : Int)),
        AV.imm (IV.sl (3 : Nat) xs), AV.imm (IV.int IntKind.i64 (↑(List.length xs) : Int)),
        AV.imm (IV.bool (decide ((↑i : Int) < (↑(List.length xs) : Int)))), AV.dead, AV.dead, AV.dead, AV.dead, AV.dead,
        AV.dead, AV.dead, AV.dead, AV.dead, AV.dead, AV.dead, AV.dead, AV.dead, AV.dead, AV.dead, AV.dead, AV.dead,
        AV.dead, AV.dead, AV.dead, AV.dead, AV.dead, AV.dead, AV.dead, AV.dead, AV.dead, AV.dead, AV.dead, AV.dead,
        AV.dead, AV.dead, AV.dead, AV.dead, AV.dead, AV.dead, AV.dead, AV.dead, AV.dead, AV.dead, AV.dead, AV.dead,
        AV.dead, AV.dead, AV.dead, AV.dead, AV.dead, AV.dead, AV.dead, AV.dead, AV.dead, AV.dead, AV.dead, AV.dead,
        AV.dead, AV.dead, AV.dead, AV.dead, AV.dead, AV.dead, AV.dead, AV.dead, AV.dead, AV.dead, AV.dead, AV.dead,
        AV.dead, AV.dead, AV.dead, AV.dead, AV.dead]
      [] (0 : Nat) []))) := by kernel_rfl
theorem f4_out (c : List
  UInt8) (fl : Bool) (i : Nat) (K : List AV →
  Prop) : loopK C5 (bodyOf Tryd.f4) (0 : Nat) (finK C5 Tryd.f4 K) (AX.exit (0 : Nat))
  (St.mk
    (let y :=
      let y :=
        let y :=
          let y := [AV.dead, AV.dead, AV.dead, AV.dead, AV.dead, AV.dead];
          AV.dead :: AV.dead :: AV.dead :: AV.dead :: AV.dead :: y;
        let y := AV.dead :: AV.dead :: AV.dead :: AV.dead :: AV.dead :: AV.dead :: y;
        AV.dead :: AV.dead :: AV.dead :: AV.dead :: AV.dead :: y;
      let y :=
        let y :=
          AV.imm (IV.bool (decide ((↑i : Int) < (↑(List.length c) : Int)))) ::
            AV.dead :: AV.dead :: AV.dead :: AV.dead :: AV.dead :: y;
        AV.dead ::
          AV.dead ::
            AV.imm (IV.int IntKind.i64 (↑i : Int)) ::
              AV.imm (IV.bytes c) :: AV.imm (IV.int IntKind.i64 (↑(List.length c) : Int)) :: y;
      let y := AV.dead :: AV.dead :: AV.dead :: AV.dead :: AV.dead :: y;
      AV.dead :: AV.dead :: AV.dead :: AV.dead :: AV.dead :: y;
    let y :=
      let y :=
        let y := AV.dead :: AV.dead :: AV.dead :: AV.dead :: AV.dead :: AV.dead :: y;
        AV.dead :: AV.dead :: AV.dead :: AV.dead :: AV.dead :: y;
      let y := AV.dead :: AV.dead :: AV.dead :: AV.dead :: AV.dead :: AV.dead :: y;
      AV.dead :: AV.dead :: AV.dead :: AV.dead :: AV.dead :: y;
    let y :=
      let y := AV.dead :: AV.dead :: AV.dead :: AV.dead :: AV.dead :: AV.dead :: y;
      AV.imm (IV.int IntKind.i64 (↑i : Int)) :: AV.dead :: AV.dead :: AV.dead :: AV.dead :: y;
    let y := AV.dead :: AV.dead :: AV.dead :: AV.imm (IV.bytes c) :: AV.imm (IV.bool fl) :: y;
    AV.dead :: AV.dead :: AV.dead :: AV.dead :: AV.dead :: y)
    [] (0 : Nat) []) =
  ((↑(List.length c) : Int) ≤ (1000000000000 : Int) ∧
  brn (!decOk c == fl) (K [AV.imm (IV.bool false)])
    (brn (!decOk c) (K [AV.imm (IV.bool ((↑(List.length (List.map cellsT (dec c))) : Int) == (0 : Int)))])
      (okT (List.map cellsT (dec c)) ∧
        (↑(List.length (List.map cellsT (dec c))) : Int) ≤ (100000000000 : Int) ∧
          (↑(List.length (enc (tys (List.map cellsT (dec c))))) : Int) ≤ big ∧
            (↑(List.length c) : Int) ≤ big ∧
              K [AV.imm (IV.bool (decide (enc (tys (List.map cellsT (dec c))) = c)))]))) := by kernel_rfl
theorem f5_out (xs : List
  (List
    IV)) (n : Int) (m : Int) (e : Int) (w : Int) (i : Nat) (K : List AV →
  Prop) : loopK C5 (bodyOf Tryd.f5) (0 : Nat) (finK C5 Tryd.f5 K) (AX.exit (0 : Nat))
  (St.mk
    (let y :=
      let y :=
        let y :=
          let y := [AV.dead, AV.dead, AV.dead, AV.dead, AV.dead, AV.dead, AV.dead];
          AV.dead :: AV.dead :: AV.dead :: AV.dead :: AV.dead :: AV.dead :: y;
        let y := AV.dead :: AV.dead :: AV.dead :: AV.dead :: AV.dead :: AV.dead :: y;
        AV.dead :: AV.dead :: AV.dead :: AV.dead :: AV.dead :: AV.dead :: y;
      let y :=
        let y := AV.dead :: AV.dead :: AV.dead :: AV.dead :: AV.dead :: AV.dead :: y;
        AV.dead :: AV.dead :: AV.dead :: AV.dead :: AV.dead :: AV.dead :: y;
      let y := AV.dead :: AV.dead :: AV.dead :: AV.dead :: AV.dead :: AV.dead :: y;
      AV.dead :: AV.dead :: AV.dead :: AV.dead :: AV.dead :: AV.dead :: y;
    let y :=
      let y :=
        let y := AV.dead :: AV.dead :: AV.dead :: AV.dead :: AV.dead :: AV.dead :: AV.dead :: y;
        AV.dead :: AV.dead :: AV.dead :: AV.dead :: AV.dead :: AV.dead :: y;
      let y := AV.dead :: AV.dead :: AV.dead :: AV.dead :: AV.dead :: AV.dead :: y;
      AV.imm (IV.int IntKind.i64 (↑i : Int)) ::
        AV.imm (IV.sl (3 : Nat) xs) ::
          AV.imm (IV.int IntKind.i64 (↑(List.length xs) : Int)) ::
            AV.imm (IV.bool (decide ((↑i : Int) < (↑(List.length xs) : Int)))) :: AV.dead :: AV.dead :: y;
    let y :=
      let y := AV.dead :: AV.dead :: AV.dead :: AV.dead :: AV.dead :: AV.dead :: y;
      AV.dead :: AV.dead :: AV.dead :: AV.dead :: AV.dead :: AV.dead :: y;
    let y :=
      AV.dead ::
        AV.imm (IV.int IntKind.i64 e) ::
          AV.imm (IV.int IntKind.i64 w) :: AV.imm (IV.int IntKind.i64 (↑i : Int)) :: AV.dead :: AV.dead :: y;
    AV.imm (IV.sl (3 : Nat) xs) ::
      AV.imm (IV.int IntKind.u8 n) :: AV.imm (IV.int IntKind.u8 m) :: AV.dead :: AV.dead :: AV.dead :: y)
    [] (0 : Nat) []) =
  (okT xs ∧
  (↑(List.length xs) : Int) ≤ big ∧
    ((e == w &&
            (e == (0 : Int) &&
                  check (tys xs) (IntKind.wrap IntKind.i64 (IntKind.wrap IntKind.i64 n + IntKind.wrap IntKind.i64 m)) ==
                    (0 : Int) ||
                e == (8 : Int) &&
                  check (tys xs) (IntKind.wrap IntKind.i64 (IntKind.wrap IntKind.i64 n + IntKind.wrap IntKind.i64 m)) !=
                    (9 : Int) ||
              e == (9 : Int) &&
                check (tys xs) (IntKind.wrap IntKind.i64 (IntKind.wrap IntKind.i64 n + IntKind.wrap IntKind.i64 m)) ==
                  (9 : Int))) =
          true →
        okT xs) ∧
      ((e == w &&
              (e == (0 : Int) &&
                    check (tys xs)
                        (IntKind.wrap IntKind.i64 (IntKind.wrap IntKind.i64 n + IntKind.wrap IntKind.i64 m)) ==
                      (0 : Int) ||
                  e == (8 : Int) &&
                    check (tys xs)
                        (IntKind.wrap IntKind.i64 (IntKind.wrap IntKind.i64 n + IntKind.wrap IntKind.i64 m)) !=
                      (9 : Int) ||
                e == (9 : Int) &&
                  check (tys xs) (IntKind.wrap IntKind.i64 (IntKind.wrap IntKind.i64 n + IntKind.wrap IntKind.i64 m)) ==
                    (9 : Int))) =
            true →
          (↑(List.length xs) : Int) ≤ big) ∧
        K
          [AV.imm
              (IV.bool
                (e == w &&
                    (e == (0 : Int) &&
                          check (tys xs)
                              (IntKind.wrap IntKind.i64 (IntKind.wrap IntKind.i64 n + IntKind.wrap IntKind.i64 m)) ==
                            (0 : Int) ||
                        e == (8 : Int) &&
                          check (tys xs)
                              (IntKind.wrap IntKind.i64 (IntKind.wrap IntKind.i64 n + IntKind.wrap IntKind.i64 m)) !=
                            (9 : Int) ||
                      e == (9 : Int) &&
                        check (tys xs)
                            (IntKind.wrap IntKind.i64 (IntKind.wrap IntKind.i64 n + IntKind.wrap IntKind.i64 m)) ==
                          (9 : Int)) &&
                  check (tys xs) (256 : Int) != (8 : Int)))]) := by kernel_rfl
end Z16

set_option maxRecDepth 100000
namespace Z16
open Go Go.AE Go.Proofs
attribute [local irreducible] loopK evCode evSpec loopB norm

/-! ### numbers -/
theorem wrap64 {n : Int} (h1 : -9223372036854775808 ≤ n) (h2 : n ≤ 9223372036854775807) : IntKind.wrap .i64 n = n := by
  have := IntKind.wrap_i64 n
  rw [show IntKind.wrap .i64 n = IntKind.i64.wrap n from rfl, this]; omega
theorem wrapU {n : Int} (h1 : 0 ≤ n) (h2 : n < 18446744073709551616) : IntKind.wrap .u64 n = n := by
  simp [IntKind.wrap, IntKind.min, IntKind.max, IntKind.signed, IntKind.bits]
  omega
theorem wrapU8 {n : Int} (h1 : 0 ≤ n) (h2 : n < 256) : IntKind.wrap .u8 n = n := by
  simp [IntKind.wrap, IntKind.min, IntKind.max, IntKind.signed, IntKind.bits]
  omega
theorem wrapUm (n : Int) : IntKind.wrap .u64 n = n % 18446744073709551616 := by
  simp [IntKind.wrap, IntKind.min, IntKind.max, IntKind.signed, IntKind.bits]
theorem wrapU8m (n : Int) : IntKind.wrap .u8 n = n % 256 := by
  simp [IntKind.wrap, IntKind.min, IntKind.max, IntKind.signed, IntKind.bits]
theorem or8 {m y : Nat} (hm : m * 256 + y < 18446744073709551616) (hy : y < 256) : bitsV .or .u64 (shlV .u64 (m : Int) 8) (y : Int) = ((m * 256 + y : Nat) : Int) := by
  have e1 : shlV .u64 (m : Int) 8 = ((m * 256 : Nat) : Int) := by
    unfold shlV
    have : min (Int.toNat 8) IntKind.u64.bits = 8 := rfl
    rw [this, show ((m : Int) * 2 ^ 8) = ((m * 256 : Nat) : Int) by omega, wrapU (by omega) (by omega)]
  rw [e1]
  unfold bitsV
  simp only
  have h1 : (BitVec.ofInt IntKind.u64.bits ((m * 256 : Nat) : Int) ||| BitVec.ofInt IntKind.u64.bits (y : Int)).toNat = m * 256 + y := by
    rw [BitVec.toNat_or, BitVec.ofInt_natCast, BitVec.ofInt_natCast, BitVec.toNat_ofNat, BitVec.toNat_ofNat]
    have hb : 2 ^ IntKind.u64.bits = 18446744073709551616 := rfl
    rw [hb, Nat.mod_eq_of_lt (by omega), Nat.mod_eq_of_lt (by omega)]
    have := Nat.shiftLeft_add_eq_or_of_lt (i := 8) (b := y) (by omega) m
    rw [Nat.shiftLeft_eq] at this
    exact this.symm
  rw [h1, wrapU (by omega) (by omega)]
theorem beN_app (l : List UInt8) (b : UInt8) : beN (l ++ [b]) = beN l * 256 + b.toNat := by simp [beN]
theorem beN_fold : ∀ (l : List UInt8) (v : Nat), l.foldl (fun v b => v * 256 + b.toNat) v + 1 ≤ (v + 1) * 256 ^ l.length
  | [], v => by simp
  | b :: l, v => by
    have h1 := beN_fold l (v * 256 + b.toNat)
    have h2 := b.toNat_lt
    rw [List.foldl_cons, List.length_cons, Nat.pow_succ]
    have h3 : (v * 256 + b.toNat + 1) * 256 ^ l.length ≤ ((v + 1) * 256) * 256 ^ l.length := Nat.mul_le_mul_right _ (by omega)
    have h4 : ((v + 1) * 256) * 256 ^ l.length = (v + 1) * (256 ^ l.length * 256) := by rw [Nat.mul_assoc, Nat.mul_comm 256]
    omega
theorem beN_lt (l : List UInt8) : beN l < 256 ^ l.length := by
  have := beN_fold l 0
  unfold beN
  omega
theorem beN_lt8 {l : List UInt8} (h : l.length ≤ 8) : beN l < 18446744073709551616 := by
  have h1 := beN_lt l
  have h2 : 256 ^ l.length ≤ 256 ^ 8 := Nat.pow_le_pow_right (by decide) h
  have : (256 : Nat) ^ 8 = 18446744073709551616 := rfl
  omega
theorem take_succ' {b : List UInt8} {i : Nat} (h : i < b.length) : b.take (i + 1) = b.take i ++ [b.getD i 0] := by
  rw [List.take_add_one, List.getElem?_eq_getElem h, List.getD_eq_getElem?_getD, List.getElem?_eq_getElem h]
  rfl
theorem getD_drop' (b : List UInt8) (o i : Nat) : (b.drop o).getD i 0 = b.getD (o + i) 0 := by
  simp only [List.getD_eq_getElem?_getD, List.getElem?_drop]

theorem mk {E : FuncId → List AV → Option (List Prop × List AV)} (hE : EOK Tryd.prog E G16) {f : FuncId} {fn : Func} {args res : List AV} {pres : List Prop} (hf : Tryd.prog.funcs[f]? = some fn) (hn : (fn.name == "runtime.NumGoroutine") = false) (hb : fn.body.isNone = false)
    (h : (∀ p, p ∈ pres → p) → ∀ K : List AV → Prop, K res → evSpec (cx E) fn args K) : SpecOK Tryd.prog G16 f args pres res :=
  spec_ok (C := cx E) hE noCall_ok hf hn hb (fun hp => h hp _ rfl)
theorem ok0 : EOK Tryd.prog noE G16 := noE_ok

/-! ### numbers out of bytes -/
theorem f31_ev (b : List UInt8) (off n : Int) (hb : (b.length : Int) ≤ big) (h0 : 0 ≤ off) (h1 : off ≤ big) (n0 : 0 ≤ n) (n8 : n ≤ 8) (K : List AV → Prop) (hK : K [.imm (.int .u64 (uintP b off.toNat n.toNat : Int)), bo (okR b off.toNat n.toNat)]) :
    evSpec C0 Tryd.f31 [.imm (.bytes b), i64 off, i64 n] K := by
  have hbig : big = 4611686018427387904 := rfl
  rw [f31_in]
  refine brn_intro (fun h => ?_) (fun h => ?_)
  · have hr : okR b off.toNat n.toNat = false := by
      rw [wrap64 (by omega) (by omega)] at h
      simp only [Bool.or_eq_true, decide_eq_true_eq] at h
      unfold okR
      simp only [decide_eq_false_iff_not]
      omega
    unfold uintP at hK
    rw [hr] at hK
    exact hK
  · rw [wrap64 (by omega) (by omega)] at h
    simp only [Bool.or_eq_false_iff, decide_eq_false_iff_not] at h
    have hr : okR b off.toNat n.toNat = true := by
      unfold okR
      simp only [decide_eq_true_eq]
      omega
    unfold uintP at hK
    rw [hr, if_pos rfl] at hK
    unfold LoopI
    refine loop_rule (fun i : Nat => h31 b off n (beN ((b.drop off.toNat).take i) : Int) i) (fun i => (i : Int) ≤ n) (fun i => n.toNat - i) (fun i hP K' hnorm hexit => ?_) rfl 0 p31 _ n0 (by kernel_rfl)
    rw [f31_lp]
    refine brn_intro (fun hi => ?_) (fun hi => ?_)
    · simp only [decide_eq_true_eq] at hi
      have e1 : IntKind.wrap .i64 (off + (i : Int)) = ((off.toNat + i : Nat) : Int) := by rw [wrap64 (by omega) (by omega)]; omega
      have e2 : IntKind.wrap .i64 ((i : Int) + 1) = ((i + 1 : Nat) : Int) := by rw [wrap64 (by omega) (by omega)]; rfl
      have hl : ((b.drop off.toNat).take (i + 1)) = (b.drop off.toNat).take i ++ [b.getD (off.toNat + i) 0] := by
        rw [take_succ' (by rw [List.length_drop]; omega), getD_drop']
      have hlt : beN ((b.drop off.toNat).take (i + 1)) < 18446744073709551616 := beN_lt8 (by rw [List.length_take]; omega)
      have hby := (b.getD (off.toNat + i) 0).toNat_lt
      rw [hl, beN_app] at hlt
      have e3 : IntKind.wrap .u64 (((b.getD (off.toNat + i) 0).toNat : Nat) : Int) = ((b.getD (off.toNat + i) 0).toNat : Int) := wrapU (by omega) (by omega)
      have e4 := or8 (m := beN ((b.drop off.toNat).take i)) (y := (b.getD (off.toNat + i) 0).toNat) hlt (by omega)
      rw [← beN_app, ← hl] at e4
      simp only [e1, e2, Int.toNat_natCast, e3, e4]
      refine ⟨by decide, by omega, by omega, hnorm (i + 1) p31 _ (by omega) (by omega) (by kernel_rfl)⟩
    · simp only [decide_eq_false_iff_not] at hi
      have hin : i = n.toNat := by omega
      subst hin
      exact hexit _ _ (by simp) (Eq.mp (by kernel_rfl) hK)
theorem f29_ev (b : List UInt8) (off n : Int) (hb : (b.length : Int) ≤ big) (h0 : 0 ≤ off) (h1 : off ≤ big) (n0 : 0 ≤ n) (n8 : n ≤ 8) (K : List AV → Prop) (hK : K [.imm (.int .u64 (uintP b off.toNat n.toNat : Int)), bo (okR b off.toNat n.toNat)]) :
    evSpec C0 Tryd.f29 [.imm (.bytes b), i64 off, i64 n] K := by
  have hbig : big = 4611686018427387904 := rfl
  rw [f29_in]
  refine brn_intro (fun h => ?_) (fun h => ?_)
  · have hr : okR b off.toNat n.toNat = false := by
      rw [wrap64 (by omega) (by omega)] at h
      simp only [Bool.or_eq_true, decide_eq_true_eq] at h
      unfold okR
      simp only [decide_eq_false_iff_not]
      omega
    unfold uintP at hK
    rw [hr] at hK
    exact hK
  · rw [wrap64 (by omega) (by omega)] at h
    simp only [Bool.or_eq_false_iff, decide_eq_false_iff_not] at h
    have hr : okR b off.toNat n.toNat = true := by
      unfold okR
      simp only [decide_eq_true_eq]
      omega
    unfold uintP at hK
    rw [hr, if_pos rfl] at hK
    unfold LoopI
    refine loop_rule (fun i : Nat => h29 b off n (beN ((b.drop off.toNat).take i) : Int) i) (fun i => (i : Int) ≤ n) (fun i => n.toNat - i) (fun i hP K' hnorm hexit => ?_) rfl 0 p29 _ n0 (by kernel_rfl)
    rw [f29_lp]
    refine brn_intro (fun hi => ?_) (fun hi => ?_)
    · simp only [decide_eq_true_eq] at hi
      have e1 : IntKind.wrap .i64 (off + (i : Int)) = ((off.toNat + i : Nat) : Int) := by rw [wrap64 (by omega) (by omega)]; omega
      have e2 : IntKind.wrap .i64 ((i : Int) + 1) = ((i + 1 : Nat) : Int) := by rw [wrap64 (by omega) (by omega)]; rfl
      have hl : ((b.drop off.toNat).take (i + 1)) = (b.drop off.toNat).take i ++ [b.getD (off.toNat + i) 0] := by
        rw [take_succ' (by rw [List.length_drop]; omega), getD_drop']
      have hlt : beN ((b.drop off.toNat).take (i + 1)) < 18446744073709551616 := beN_lt8 (by rw [List.length_take]; omega)
      have hby := (b.getD (off.toNat + i) 0).toNat_lt
      rw [hl, beN_app] at hlt
      have e3 : IntKind.wrap .u64 (((b.getD (off.toNat + i) 0).toNat : Nat) : Int) = ((b.getD (off.toNat + i) 0).toNat : Int) := wrapU (by omega) (by omega)
      have e5 : IntKind.wrap .u64 ((beN ((b.drop off.toNat).take i) : Int) * 256) = (beN ((b.drop off.toNat).take i) : Int) * 256 := wrapU (by omega) (by omega)
      have e4 : IntKind.wrap .u64 ((beN ((b.drop off.toNat).take i) : Int) * 256 + ((b.getD (off.toNat + i) 0).toNat : Int)) = (beN ((b.drop off.toNat).take (i + 1)) : Int) := by
        rw [hl, beN_app, wrapU (by omega) (by omega)]; omega
      simp only [e1, e2, Int.toNat_natCast, e3, e5, e4]
      refine ⟨by omega, by omega, hnorm (i + 1) p29 _ (by omega) (by omega) (by kernel_rfl)⟩
    · simp only [decide_eq_false_iff_not] at hi
      have hin : i = n.toNat := by omega
      subst hin
      exact hexit _ _ (by simp) (Eq.mp (by kernel_rfl) hK)
theorem f30_ev (n : Int) (n1 : 1 ≤ n) (n8 : n ≤ 8) (K : List AV → Prop) (hK : K [.imm (.int .u64 (2 ^ (8 * n.toNat - 1)))]) : evSpec C0 Tryd.f30 [i64 n] K := by
  rw [f30_in]
  unfold LoopI
  refine loop_rule (fun i : Nat => h30 n (2 ^ (8 * i - 1)) i) (fun i => 1 ≤ i ∧ (i : Int) ≤ n) (fun i => n.toNat - i) (fun i hP K' hnorm hexit => ?_) rfl 1 p30 _ ⟨Nat.le_refl _, n1⟩ (by kernel_rfl)
  rw [f30_lp]
  obtain ⟨hi1, hin⟩ := hP
  refine brn_intro (fun hi => ?_) (fun hi => ?_)
  · simp only [decide_eq_true_eq] at hi
    have e2 : IntKind.wrap .i64 ((i : Int) + 1) = ((i + 1 : Nat) : Int) := by rw [wrap64 (by omega) (by omega)]; rfl
    have ep : (2 : Int) ^ (8 * i - 1) * 256 = 2 ^ (8 * (i + 1) - 1) := by
      rw [show 8 * (i + 1) - 1 = (8 * i - 1) + 8 by omega, Int.pow_add]; rfl
    have hle : (2 : Int) ^ (8 * (i + 1) - 1) ≤ 2 ^ 63 := by
      have : (2 : Nat) ^ (8 * (i + 1) - 1) ≤ 2 ^ 63 := Nat.pow_le_pow_right (by decide) (by omega)
      exact_mod_cast this
    have h0 : (0 : Int) ≤ 2 ^ (8 * (i + 1) - 1) := Int.le_of_lt (Int.pow_pos (by decide))
    have e3 : IntKind.wrap .u64 ((2 : Int) ^ (8 * i - 1) * 256) = 2 ^ (8 * (i + 1) - 1) := by
      rw [ep, wrapU h0 (by have : (2 : Int) ^ 63 = 9223372036854775808 := rfl; omega)]
    simp only [e2, e3]
    exact hnorm (i + 1) p30 _ ⟨by omega, by omega⟩ (by omega) (by kernel_rfl)
  · simp only [decide_eq_false_iff_not] at hi
    have hin : i = n.toNat := by omega
    subst hin
    exact hexit _ _ (by simp) (Eq.mp (by kernel_rfl) hK)
end Z16

set_option maxRecDepth 100000
namespace Z16
open Go Go.AE Go.Proofs
attribute [local irreducible] loopK evCode evSpec loopB norm

/-! ### elements -/
def t0 : Ty := ⟨0, false, 0⟩
theorem getT {L : List Ty} {i : Nat} (h : i < L.length) : (L.map cellsT).getD i [] = cellsT (L.getD i t0) := by
  simp only [List.getD_eq_getElem?_getD, List.getElem?_map, List.getElem?_eq_getElem h]
  rfl
theorem kT (t : Ty) : kcells (cellsT t) 0 (lapp [CK.int .i32] (lapp [CK.bool] (lapp [CK.int .u8] []))) = cellsT t := rfl
theorem oT (t : Ty) : ivInt (ivNth (cellsT t) 0) = t.o := rfl
theorem dT (t : Ty) : ivBool (ivNth (cellsT t) (0 + 1)) = t.d := rfl
theorem gT (t : Ty) : ivInt (ivNth (cellsT t) (0 + 1 + 1)) = t.g := rfl
theorem tyOf_cells (t : Ty) : tyOf (cellsT t) = t := rfl
theorem tys_map (L : List Ty) : tys (L.map cellsT) = L := by
  unfold tys
  rw [List.map_map]
  have : tyOf ∘ cellsT = id := funext tyOf_cells
  rw [this, List.map_id]
theorem okT_map {L : List Ty} (h : ∀ t ∈ L, okTy t) : okT (L.map cellsT) := ⟨by rw [tys_map], by rw [tys_map]; exact h⟩
theorem okT_elim {xs : List (List IV)} (h : okT xs) : ∃ L : List Ty, xs = L.map cellsT ∧ tys xs = L ∧ ∀ t ∈ L, okTy t := ⟨tys xs, h.1, rfl, h.2⟩
theorem takeS {α : Type} {l : List α} {i : Nat} (d : α) (h : i < l.length) : l.take (i + 1) = l.take i ++ [l.getD i d] := by
  rw [List.take_add_one, List.getElem?_eq_getElem h, List.getD_eq_getElem?_getD, List.getElem?_eq_getElem h]
  rfl
theorem ne_of_at {α : Type} {a b : List α} {i : Nat} (d : α) (h : a.getD i d ≠ b.getD i d) : a ≠ b := fun e => h (by rw [e])
theorem memD {α : Type} {l : List α} {i : Nat} (d : α) (h : i < l.length) : l.getD i d ∈ l := by
  rw [List.getD_eq_getElem?_getD, List.getElem?_eq_getElem h]
  exact List.getElem_mem h

theorem f11_ev (a b : List UInt8) (ha : (a.length : Int) ≤ big) (hb : (b.length : Int) ≤ big) (K : List AV → Prop) (hK : K [bo (decide (a = b))]) : evSpec C0 Tryd.f11 [.imm (.bytes a), .imm (.bytes b)] K := by
  have hbig : big = 4611686018427387904 := rfl
  have no : a ≠ b → K [.imm (.bool false)] := fun h => by rw [decide_eq_false h] at hK; exact hK
  rw [f11_in]
  refine brn_intro (fun h => ?_) (fun h => ?_)
  · refine no (fun e => ?_)
    subst e
    simp at h
  · have hl : a.length = b.length := by simp at h; omega
    unfold LoopI
    refine loop_rule (fun i : Nat => h11 a b i) (fun i => i ≤ a.length ∧ a.take i = b.take i) (fun i => a.length - i) (fun i hP K' hnorm hexit => ?_) rfl 0 p11 _ ⟨Nat.zero_le _, by simp⟩ (by kernel_rfl)
    obtain ⟨hi, ht⟩ := hP
    rw [f11_lp]
    refine brn_intro (fun h1 => ?_) (fun h1 => ?_)
    · simp only [decide_eq_true_eq] at h1
      simp only [Int.toNat_natCast]
      refine ⟨by omega, by omega, by omega, by omega, brn_intro (fun h2 => ?_) (fun h2 => ?_)⟩
      · refine hexit _ _ (by simp) (Eq.mp (by kernel_rfl) (no (ne_of_at 0 (i := i) fun e => ?_)))
        rw [e] at h2
        simp at h2
      · have e2 : IntKind.wrap .i64 ((i : Int) + 1) = ((i + 1 : Nat) : Int) := by rw [wrap64 (by omega) (by omega)]; rfl
        have e3 : a.getD i 0 = b.getD i 0 := by
          simp only [bne_eq_false_iff_eq] at h2
          exact UInt8.toNat_inj.1 (by omega)
        simp only [e2]
        refine hnorm (i + 1) p11 _ ⟨by omega, ?_⟩ (by omega) (by kernel_rfl)
        rw [takeS 0 (by omega), takeS 0 (by omega), ht, e3]
    · simp only [decide_eq_false_iff_not] at h1
      have hil : i = a.length := by omega
      have e : a = b := by
        rw [hil, List.take_length, hl, List.take_length] at ht
        exact ht
      rw [decide_eq_true e] at hK
      exact hexit _ _ (by simp) (Eq.mp (by kernel_rfl) hK)
theorem f10_ev (L M : List Ty) (ha : (L.length : Int) ≤ big) (hb : (M.length : Int) ≤ big) (K : List AV → Prop) (hK : K [bo (decide (L = M))]) : evSpec C0 Tryd.f10 [.imm (slT L), .imm (slT M)] K := by
  have hbig : big = 4611686018427387904 := rfl
  have no : L ≠ M → K [.imm (.bool false)] := fun h => by rw [decide_eq_false h] at hK; exact hK
  unfold slT
  rw [f10_in]
  simp only [List.length_map]
  refine brn_intro (fun h => ?_) (fun h => ?_)
  · refine no (fun e => ?_)
    subst e
    simp at h
  · have hl : L.length = M.length := by simp at h; omega
    unfold LoopI
    refine loop_rule (fun i : Nat => h10 (L.map cellsT) (M.map cellsT) i) (fun i => i ≤ L.length ∧ L.take i = M.take i) (fun i => L.length - i) (fun i hP K' hnorm hexit => ?_) rfl 0 p11 _ ⟨Nat.zero_le _, by simp⟩ (by kernel_rfl)
    obtain ⟨hi, ht⟩ := hP
    rw [f10_lp]
    simp only [List.length_map]
    refine brn_intro (fun h1 => ?_) (fun h1 => ?_)
    · simp only [decide_eq_true_eq] at h1
      have hlt : i < L.length := by omega
      simp only [Int.toNat_natCast, getT hlt, getT (hl ▸ hlt : i < M.length), kT, oT, dT, gT]
      refine ⟨by omega, by omega, True.intro, by omega, by omega, True.intro, brn_intro (fun h2 => ?_) (fun h2 => ?_)⟩
      · refine hexit _ _ (by simp) (Eq.mp (by kernel_rfl) (no (ne_of_at t0 (i := i) fun e => ?_)))
        rw [e] at h2
        simp at h2
      · have e2 : IntKind.wrap .i64 ((i : Int) + 1) = ((i + 1 : Nat) : Int) := by rw [wrap64 (by omega) (by omega)]; rfl
        have e3 : L.getD i t0 = M.getD i t0 := by
          simp only [Bool.not_eq_false', Bool.and_eq_true, beq_iff_eq, and_true] at h2
          obtain ⟨q1, q2, q3⟩ := h2
          generalize L.getD i t0 = x at *
          generalize M.getD i t0 = y at *
          cases x; cases y
          simp only at q1 q2 q3
          rw [q1, q2, q3]
        simp only [e2]
        refine hnorm (i + 1) p11 _ ⟨by omega, ?_⟩ (by omega) (by kernel_rfl)
        rw [takeS t0 (by omega), takeS t0 (by omega), ht, e3]
    · simp only [decide_eq_false_iff_not] at h1
      have hil : i = L.length := by omega
      have e : L = M := by
        rw [hil, List.take_length, hl, List.take_length] at ht
        exact ht
      rw [decide_eq_true e] at hK
      exact hexit _ _ (by simp) (Eq.mp (by kernel_rfl) hK)

/-! ### numbers into bytes -/
theorem be_len : ∀ (n v : Nat), (be n v).length = n
  | 0, _ => rfl
  | n + 1, v => by rw [be, List.length_append, be_len n]; rfl
theorem be_front : ∀ (n v : Nat), be (n + 1) v = UInt8.ofNat (v / 256 ^ n % 256) :: be n v
  | 0, v => by simp [be]
  | n + 1, v => by
    rw [be, be_front n (v / 256), be, Nat.pow_succ, Nat.mul_comm, ← Nat.div_div_eq_div_mul, List.cons_append]
theorem be_take : ∀ (n v i : Nat), i < n → (be n v).take (i + 1) = (be n v).take i ++ [UInt8.ofNat (v / 256 ^ (n - 1 - i) % 256)]
  | 0, _, _, h => by omega
  | n + 1, v, i, h => by
    rw [be_front]
    cases i with
    | zero => simp
    | succ i =>
      rw [List.take_succ_cons, List.take_succ_cons, be_take n v i (by omega), List.cons_append, show n + 1 - 1 - (i + 1) = n - 1 - i by omega]
theorem shr8 {v k : Nat} (hk : k ≤ 7) : shrV .u64 (v : Int) ((8 * k : Nat) : Int) = ((v / 256 ^ k : Nat) : Int) := by
  unfold shrV
  have e : min (Int.toNat ((8 * k : Nat) : Int)) IntKind.u64.bits = 8 * k := by
    rw [Int.toNat_natCast]
    exact Nat.min_eq_left (by have : IntKind.u64.bits = 64 := rfl; omega)
  rw [e]
  have : ((2 : Int) ^ (8 * k)) = ((256 ^ k : Nat) : Int) := by
    rw [show (256 : Nat) = 2 ^ 8 from rfl, ← Nat.pow_mul]
    push_cast
    rfl
  rw [this, Int.fdiv_eq_ediv_of_nonneg _ (Int.natCast_nonneg _)]
  rfl
end Z16

set_option maxRecDepth 100000
namespace Z16
open Go Go.AE Go.Proofs
attribute [local irreducible] loopK evCode evSpec loopB norm

theorem f21_ev (b : List UInt8) (n v : Int) (hb : (b.length : Int) ≤ 1000000000000) (n0 : 0 ≤ n) (n8 : n ≤ 8) (v0 : 0 ≤ v) (v1 : v < 18446744073709551616) (K : List AV → Prop) (hK : K [.new (.bytes (b ++ be n.toNat v.toNat))]) :
    evSpec C0 Tryd.f21 [.imm (.bytes b), i64 n, .imm (.int .u64 v)] K := by
  rw [f21_in]
  have ew : IntKind.wrap .i64 ((b.length : Int) + n) = (b.length : Int) + n := wrap64 (by omega) (by omega)
  rw [ew]
  refine ⟨by omega, by omega, by omega, by omega, by simp; omega, by simp; omega, ?_⟩
  unfold LoopI
  refine loop_rule (fun s : Nat × List UInt8 => h21 n v s.2 s.1) (fun s => (s.1 : Int) ≤ n ∧ s.2 = b ++ (be n.toNat v.toNat).take s.1) (fun s => n.toNat - s.1) (fun s hP K' hnorm hexit => ?_) rfl (0, b) p21 _ ⟨n0, by simp⟩ (by kernel_rfl)
  obtain ⟨i, l⟩ := s
  obtain ⟨hi, hl⟩ := hP
  simp only at hi hl
  rw [f21_lp]
  have hlen : l.length ≤ 1000000000010 := by rw [hl, List.length_append, List.length_take, be_len]; omega
  refine brn_intro (fun h1 => ?_) (fun h1 => ?_)
  · simp only [decide_eq_true_eq] at h1
    have e1 : IntKind.wrap .u64 (IntKind.wrap .i64 ((8 : Int) * IntKind.wrap .i64 (IntKind.wrap .i64 (n - 1) - (i : Int)))) = ((8 * (n.toNat - 1 - i) : Nat) : Int) := by
      rw [wrap64 (n := n - 1) (by omega) (by omega), wrap64 (n := n - 1 - (i : Int)) (by omega) (by omega), wrap64 (by omega) (by omega), wrapU (by omega) (by omega)]; omega
    have e2 : IntKind.wrap .i64 ((i : Int) + 1) = ((i + 1 : Nat) : Int) := by rw [wrap64 (by omega) (by omega)]; rfl
    have hv : v = ((v.toNat : Nat) : Int) := by omega
    have e3 : IntKind.wrap .u8 (shrV .u64 v ((8 * (n.toNat - 1 - i) : Nat) : Int)) = ((v.toNat / 256 ^ (n.toNat - 1 - i) % 256 : Nat) : Int) := by
      rw [hv, shr8 (by omega), wrapU8m]; rfl
    simp only [e1, e2, e3, List.map_cons, List.map_nil, List.length_cons, List.length_nil]
    refine ⟨by omega, by omega, by omega, hnorm (i + 1, l ++ [u8 ((v.toNat / 256 ^ (n.toNat - 1 - i) % 256 : Nat) : Int)]) p21 _ ⟨by simp only; omega, ?_⟩ (by simp only; omega) (by kernel_rfl)⟩
    simp only
    rw [hl, be_take _ _ _ (by omega), List.append_assoc]
    rfl
  · simp only [decide_eq_false_iff_not] at h1
    have hin : i = n.toNat := by omega
    rw [hin, List.take_of_length_le (by rw [be_len]; exact Nat.le_refl _)] at hl
    rw [← hl] at hK
    exact hexit _ _ (by simp) (Eq.mp (by kernel_rfl) hK)
theorem tmodN (n : Nat) : Int.tmod (n : Int) 256 = ((n % 256 : Nat) : Int) := by simp [Int.tmod]
theorem tdivN (n : Nat) : Int.tdiv (n : Int) 256 = ((n / 256 : Nat) : Int) := by simp [Int.tdiv]
theorem f22_ev (b : List UInt8) (n v : Int) (hb : (b.length : Int) ≤ 1000000000000) (n0 : 0 ≤ n) (n8 : n ≤ 8) (v0 : 0 ≤ v) (v1 : v < 18446744073709551616) (K : List AV → Prop) (hK : K [.new (.bytes (b ++ be n.toNat v.toNat))]) :
    evSpec C0 Tryd.f22 [.imm (.bytes b), i64 n, .imm (.int .u64 v)] K := by
  rw [f22_in]
  unfold LoopI
  refine loop_rule (fun s : Nat × Int × Bool × List UInt8 => h22 b n s.2.1 s.2.2.1 s.2.2.2 s.1) (fun s => (s.1 : Int) ≤ n ∧ s.2.1 = ((v.toNat / 256 ^ s.1 : Nat) : Int) ∧ s.2.2.2 = be s.1 v.toNat) (fun s => n.toNat - s.1) (fun s hP K' hnorm hexit => ?_) rfl (0, v, true, []) p22i _ ⟨n0, by simp; omega, rfl⟩ (by kernel_rfl)
  obtain ⟨i, v', own, l⟩ := s
  obtain ⟨hi, hv, hl⟩ := hP
  simp only at hi hl hv
  have hlen : l.length ≤ 8 := by rw [hl, be_len]; omega
  rw [f22_lp]
  refine brn_intro (fun h1 => ?_) (fun h1 => ?_)
  · simp only [decide_eq_true_eq] at h1
    have e2 : IntKind.wrap .i64 ((i : Int) + 1) = ((i + 1 : Nat) : Int) := by rw [wrap64 (by omega) (by omega)]; rfl
    have e3 : IntKind.wrap .u8 (Int.tmod v' 256) = ((v.toNat / 256 ^ i % 256 : Nat) : Int) := by
      rw [hv, tmodN, wrapU8 (by omega) (by omega)]
    have e4 : IntKind.wrap .u64 (Int.tdiv v' 256) = ((v.toNat / 256 ^ (i + 1) : Nat) : Int) := by
      have hd : v.toNat / 256 ^ (i + 1) ≤ v.toNat := Nat.div_le_self _ _
      rw [hv, tdivN, Nat.div_div_eq_div_mul, ← Nat.pow_succ, Nat.succ_eq_add_one]
      generalize v.toNat / 256 ^ (i + 1) = q at hd ⊢
      rw [wrapU (by omega) (by omega)]
    simp only [e2, e3, e4, List.map_cons, List.map_nil, List.length_cons, List.length_nil]
    refine ⟨by decide, by omega, by omega, by decide, hnorm (i + 1, ((v.toNat / 256 ^ (i + 1) : Nat) : Int), someIV (.bytes l), [u8 ((v.toNat / 256 ^ i % 256 : Nat) : Int)] ++ l) p22 _ ⟨by simp only; omega, rfl, ?_⟩ (by simp only; omega) (by kernel_rfl)⟩
    simp only
    rw [be_front, hl]
    rfl
  · simp only [decide_eq_false_iff_not] at h1
    have hin : i = n.toNat := by omega
    rw [← hin, ← hl] at hK
    refine hexit _ _ (by simp) ?_
    rw [f22_out]
    refine ⟨by simp; omega, by simp; omega, by simp; omega, by simp; omega, ?_⟩
    simpa using hK

/-! ### signed numbers -/
theorem uintP_lt (b : List UInt8) (off n : Nat) : uintP b off n < 256 ^ n := by
  unfold uintP okR
  split
  · rename_i h
    simp only [decide_eq_true_eq] at h
    have := beN_lt ((b.drop off).take n)
    rw [List.length_take, List.length_drop, Nat.min_eq_left (by omega)] at this
    exact this
  · exact Nat.pow_pos (by decide)
theorem wrap64m (n : Int) : IntKind.wrap .i64 n = (n + 9223372036854775808) % 18446744073709551616 - 9223372036854775808 := by
  have := IntKind.wrap_i64 n
  rw [show IntKind.wrap .i64 n = IntKind.i64.wrap n from rfl, this]
theorem eight {n : Int} (n1 : 1 ≤ n) (n8 : n ≤ 8) : n = 1 ∨ n = 2 ∨ n = 3 ∨ n = 4 ∨ n = 5 ∨ n = 6 ∨ n = 7 ∨ n = 8 := by omega
theorem shl_eq {u s : Nat} (hs : s ≤ 64) : shlV .u64 (u : Int) (s : Int) = ((u : Int) * 2 ^ s) % 18446744073709551616 := by
  unfold shlV
  rw [Int.toNat_natCast, Nat.min_eq_left (by have : IntKind.u64.bits = 64 := rfl; omega), wrapUm]
theorem shr_eq {x : Int} {s : Nat} (hs : s ≤ 64) : shrV .i64 x (s : Int) = x / 2 ^ s := by
  unfold shrV
  rw [Int.toNat_natCast, Nat.min_eq_left (by have : IntKind.i64.bits = 64 := rfl; omega), Int.fdiv_eq_ediv_of_nonneg _ (Int.le_of_lt (Int.pow_pos (by decide)))]
theorem sgn_eq {u n : Nat} (hu : u < 256 ^ n) (n1 : 1 ≤ n) (n8 : n ≤ 8) : shrV .i64 (IntKind.wrap .i64 (shlV .u64 (u : Int) ((64 - 8 * n : Nat) : Int))) ((64 - 8 * n : Nat) : Int) = sgnN n u := by
  rw [shl_eq (by omega), shr_eq (by omega), wrap64m]
  unfold sgnN
  have : n = 1 ∨ n = 2 ∨ n = 3 ∨ n = 4 ∨ n = 5 ∨ n = 6 ∨ n = 7 ∨ n = 8 := by omega
  rcases this with rfl | rfl | rfl | rfl | rfl | rfl | rfl | rfl <;> simp at hu ⊢ <;> split <;> omega
theorem f23_ev (b : List UInt8) (off n : Int) (hb : (b.length : Int) ≤ big) (h0 : 0 ≤ off) (h1 : off ≤ big) (n1 : 1 ≤ n) (n8 : n ≤ 8) (K : List AV → Prop) (hK : K [.imm (.int .i64 (sgnN n.toNat (uintP b off.toNat n.toNat))), bo (okR b off.toNat n.toNat)]) :
    evSpec C1 Tryd.f23 [.imm (.bytes b), i64 off, i64 n] K := by
  rw [f23_in]
  have e1 : IntKind.wrap .u64 (IntKind.wrap .i64 ((64 : Int) - IntKind.wrap .i64 ((8 : Int) * n))) = ((64 - 8 * n.toNat : Nat) : Int) := by
    rw [wrap64 (n := 8 * n) (by omega) (by omega), wrap64 (by omega) (by omega), wrapU (by omega) (by omega)]; omega
  rw [e1, sgn_eq (uintP_lt _ _ _) (by omega) (by omega)]
  exact ⟨hb, h0, h1, by omega, n8, by omega, by omega, hK⟩
theorem f20_ev (b : List UInt8) (off n : Int) (hb : (b.length : Int) ≤ big) (h0 : 0 ≤ off) (h1 : off ≤ big) (n1 : 1 ≤ n) (n8 : n ≤ 8) (K : List AV → Prop) (hK : K [.imm (.int .i64 (sgnN n.toNat (uintP b off.toNat n.toNat))), bo (okR b off.toNat n.toNat)]) :
    evSpec C1 Tryd.f20 [.imm (.bytes b), i64 off, i64 n] K := by
  rw [f20_in]
  have hu := uintP_lt b off.toNat n.toNat
  generalize uintP b off.toNat n.toNat = u at hu hK
  generalize okR b off.toNat n.toNat = r at hK
  refine ⟨hb, h0, h1, by omega, n8, n1, n8, brn_intro (fun h => ⟨n1, n8, n1, n8, ?_⟩) (fun h => ?_)⟩
  · have e : IntKind.wrap .i64 (IntKind.wrap .i64 (IntKind.wrap .i64 (IntKind.wrap .u64 ((u : Int) - 2 ^ (8 * n.toNat - 1))) - IntKind.wrap .i64 (IntKind.wrap .u64 ((2 : Int) ^ (8 * n.toNat - 1) - 1))) - 1) = sgnN n.toNat u := by
      unfold sgnN
      simp only [wrap64m, wrapUm]
      simp only [decide_eq_true_eq] at h
      rcases eight n1 n8 with rfl | rfl | rfl | rfl | rfl | rfl | rfl | rfl <;> simp at hu h ⊢ <;> split <;> omega
    rw [e]
    exact hK
  · have e : IntKind.wrap .i64 (u : Int) = sgnN n.toNat u := by
      unfold sgnN
      simp only [wrap64m]
      simp only [decide_eq_false_iff_not] at h
      rcases eight n1 n8 with rfl | rfl | rfl | rfl | rfl | rfl | rfl | rfl <;> simp at hu h ⊢ <;> split <;> omega
    rw [e]
    exact hK
end Z16

set_option maxRecDepth 100000
namespace Z16
open Go Go.AE Go.Proofs
attribute [local irreducible] loopK evCode evSpec loopB norm

/-! ### Check, Placeholder -/
theorem any_take {α : Type} {l : List α} {i : Nat} (d : α) (p : α → Bool) (h : i < l.length) : (l.take (i + 1)).any p = ((l.take i).any p || p (l.getD i d)) := by
  rw [takeS d h, List.any_append]
  simp
theorem any_of_take {α : Type} {l : List α} {i : Nat} {p : α → Bool} (h : (l.take i).any p = true) : l.any p = true := by
  rw [List.any_eq_true] at h ⊢
  obtain ⟨x, hx, hp⟩ := h
  exact ⟨x, List.mem_of_mem_take hx, hp⟩
def pO (t : Ty) : Bool := t.o == -2147483648
def pG (n : Int) (t : Ty) : Bool := decide (n ≤ t.g)
theorem check_eq (L : List Ty) (n : Int) : check L n = if L.any pO then 9 else if L.any (pG n) then 8 else 0 := rfl
theorem f14_ev (L : List Ty) (n : Int) (hL : ∀ t ∈ L, okTy t) (hl : (L.length : Int) ≤ big) (K : List AV → Prop) (hK : K [i64 (check L n)]) : evSpec C0 Tryd.f14 [.imm (slT L), i64 n] K := by
  have hbig : big = 4611686018427387904 := rfl
  rw [check_eq] at hK
  unfold slT
  rw [f14_in]
  simp only [List.length_map]
  unfold LoopI
  refine loop_rule (fun s : Nat × Int => h14 (L.map cellsT) n s.2 s.1) (fun s => s.1 ≤ L.length ∧ s.2 = (if (L.take s.1).any (pG n) then 8 else 0) ∧ (L.take s.1).any pO = false) (fun s => L.length - s.1) (fun s hP K' hnorm hexit => ?_) rfl (0, 0) p14 _ ⟨Nat.zero_le _, rfl, rfl⟩ (by rw [show h14 (L.map cellsT) n (0, (0 : Int)).2 (0, (0 : Int)).1 = h14 (L.map cellsT) n 0 0 from rfl]; unfold h14; rw [List.length_map]; kernel_rfl)
  obtain ⟨i, why⟩ := s
  obtain ⟨hi, hw, ho⟩ := hP
  simp only at hi hw ho
  rw [f14_lp]
  simp only [List.length_map]
  have e2 : IntKind.wrap .i64 ((i : Int) + 1) = ((i + 1 : Nat) : Int) := by rw [wrap64 (by omega) (by omega)]; rfl
  refine brn_intro (fun h1 => ?_) (fun h1 => ?_)
  · simp only [decide_eq_true_eq] at h1
    have hlt : i < L.length := by omega
    have hok := hL _ (memD t0 hlt)
    have hat := any_take t0 (pG n) hlt
    have hao := any_take t0 pO hlt
    simp only [Int.toNat_natCast, getT hlt, kT, oT, dT, gT]
    generalize L.getD i t0 = t at hok hat hao
    obtain ⟨q1, q2, q3, q4⟩ := hok
    have e3 : IntKind.wrap .i64 t.g = t.g := wrap64 (by omega) (by omega)
    simp only [e2, e3]
    refine ⟨by omega, by omega, True.intro, brn_intro (fun h2 => ?_) (fun h2 => brn_intro (fun h3 => ?_) (fun h3 => ?_))⟩
    · have hp : pO t = true := h2
      rw [hp, Bool.or_true] at hao
      rw [any_of_take hao, if_pos rfl] at hK
      exact hexit _ _ (by simp) (Eq.mp (by kernel_rfl) hK)
    · have hp : pG n t = true := by simpa [pG] using h3
      have hq : pO t = false := h2
      refine hnorm (i + 1, 8) p14 _ ⟨hlt, ?_, ?_⟩ (by simp only; omega) (by unfold h14; rw [List.length_map]; kernel_rfl)
      · simp only; rw [hat, hp, Bool.or_true, if_pos rfl]
      · simp only; rw [hao, ho, hq]; rfl
    · have hp : pG n t = false := by simp [pG]; simpa using h3
      have hq : pO t = false := h2
      refine hnorm (i + 1, why) p14 _ ⟨hlt, ?_, ?_⟩ (by simp only; omega) (by unfold h14; rw [List.length_map]; kernel_rfl)
      · simp only; rw [hat, hp, Bool.or_false]; exact hw
      · simp only; rw [hao, ho, hq]; rfl
  · simp only [decide_eq_false_iff_not] at h1
    have hil : i = L.length := by omega
    rw [hil, List.take_length] at ho hw
    rw [ho, if_neg (by decide), ← hw] at hK
    exact hexit _ _ (by simp) (Eq.mp (by kernel_rfl) hK)
theorem f15_ev (L : List Ty) (n : Int) (hL : ∀ t ∈ L, okTy t) (hl : (L.length : Int) ≤ big) (K : List AV → Prop) (hK : K [i64 (check L n)]) : evSpec C0 Tryd.f15 [.imm (slT L), i64 n] K := by
  have hbig : big = 4611686018427387904 := rfl
  rw [check_eq] at hK
  unfold slT
  rw [f15_in]
  unfold LoopI
  refine loop_rule (fun i : Nat => h15a (L.map cellsT) n i) (fun i => i ≤ L.length ∧ (L.take i).any pO = false) (fun i => L.length - i) (fun i hP K' hnorm hexit => ?_) rfl 0 p15a _ ⟨Nat.zero_le _, rfl⟩ (by kernel_rfl)
  obtain ⟨hi, ho⟩ := hP
  rw [f15_lpa]
  simp only [List.length_map]
  have e2 : IntKind.wrap .i64 ((i : Int) + 1) = ((i + 1 : Nat) : Int) := by rw [wrap64 (by omega) (by omega)]; rfl
  refine brn_intro (fun h1 => ?_) (fun h1 => ?_)
  · simp only [decide_eq_true_eq] at h1
    have hlt : i < L.length := by omega
    have hao := any_take t0 pO hlt
    simp only [Int.toNat_natCast, getT hlt, kT, oT, dT, gT]
    generalize L.getD i t0 = t at hao
    simp only [e2]
    refine ⟨by omega, by omega, True.intro, brn_intro (fun h2 => ?_) (fun h2 => ?_)⟩
    · have hp : pO t = true := h2
      rw [hp, Bool.or_true] at hao
      rw [any_of_take hao, if_pos rfl] at hK
      exact hexit _ _ (by simp) (Eq.mp (by kernel_rfl) hK)
    · have hq : pO t = false := h2
      exact hnorm (i + 1) p15a _ ⟨hlt, by rw [hao, ho, hq]; rfl⟩ (by omega) (by kernel_rfl)
  · simp only [decide_eq_false_iff_not] at h1
    have hil : i = L.length := by omega
    rw [hil, List.take_length] at ho
    rw [ho, if_neg (by decide)] at hK
    refine hexit _ _ (by simp) ?_
    have eo := f15_out (L.map cellsT) n i K
    simp only [List.length_map] at eo
    rw [eo]
    clear hexit hnorm eo h1 e2 hil hi
    unfold LoopI
    refine loop_rule (fun i : Nat => h15b (L.map cellsT) n i) (fun i => i ≤ L.length ∧ (L.take i).any (pG n) = false) (fun i => L.length - i) (fun i hP K' hnorm hexit => ?_) rfl 0 p15b _ ⟨Nat.zero_le _, rfl⟩ (by kernel_rfl)
    obtain ⟨hi, ho⟩ := hP
    rw [f15_lpb]
    simp only [List.length_map]
    have e2 : IntKind.wrap .i64 ((i : Int) + 1) = ((i + 1 : Nat) : Int) := by rw [wrap64 (by omega) (by omega)]; rfl
    refine brn_intro (fun h1 => ?_) (fun h1 => ?_)
    · simp only [decide_eq_true_eq] at h1
      have hlt : i < L.length := by omega
      have hok := hL _ (memD t0 hlt)
      have hao := any_take t0 (pG n) hlt
      simp only [Int.toNat_natCast, getT hlt, kT, oT, dT, gT]
      generalize L.getD i t0 = t at hok hao
      obtain ⟨q1, q2, q3, q4⟩ := hok
      have e3 : IntKind.wrap .i64 t.g = t.g := wrap64 (by omega) (by omega)
      simp only [e2, e3]
      refine ⟨by omega, by omega, True.intro, brn_intro (fun h2 => ?_) (fun h2 => ?_)⟩
      · have hp : pG n t = true := by simpa [pG] using h2
        rw [hp, Bool.or_true] at hao
        rw [any_of_take hao, if_pos rfl] at hK
        exact hexit _ _ (by simp) (Eq.mp (by kernel_rfl) hK)
      · have hq : pG n t = false := by simp [pG]; simpa using h2
        exact hnorm (i + 1) p15b _ ⟨hlt, by rw [hao, ho, hq]; rfl⟩ (by omega) (by kernel_rfl)
    · simp only [decide_eq_false_iff_not] at h1
      have hil : i = L.length := by omega
      rw [hil, List.take_length] at ho
      rw [ho, if_neg (by decide)] at hK
      exact hexit _ _ (by simp) (Eq.mp (by kernel_rfl) hK)
theorem f16_ev (t : Ty) (s : List UInt8) (K : List AV → Prop) (hK : K [bo (hold t s)]) : evSpec C0 Tryd.f16 [tyAV t, st s] K := by
  rw [f16_in]; exact hK
theorem f17_ev (t : Ty) (s : List UInt8) (K : List AV → Prop) (hK : K [bo (hold t s)]) : evSpec C0 Tryd.f17 [tyAV t, st s] K := by
  rw [f17_in]
  have : (decide (s = [45, 48, 48]) && t.o == 0 && !t.d) = hold t s := by
    unfold hold
    rw [Bool.and_assoc, Bool.and_comm]
  rw [this]; exact hK
end Z16

set_option maxRecDepth 100000
namespace Z16
open Go Go.AE Go.Proofs
attribute [local irreducible] loopK evCode evSpec loopB norm

/-! ### Encode -/
theorem enc_app : ∀ (L M : List Ty), enc (L ++ M) = enc L ++ enc M
  | [], M => rfl
  | t :: L, M => by rw [List.cons_append, enc, enc, enc_app L M, List.append_assoc]
theorem enc1_len (t : Ty) : (enc1 t).length = 6 := by
  unfold enc1
  rw [List.length_append, be_len]
  rfl
theorem enc_len : ∀ L : List Ty, (enc L).length = 6 * L.length
  | [] => rfl
  | t :: L => by rw [enc, List.length_append, enc1_len, enc_len L, List.length_cons]; omega
theorem enc_take {L : List Ty} {i : Nat} (h : i < L.length) : enc (L.take (i + 1)) = enc (L.take i) ++ enc1 (L.getD i t0) := by
  rw [takeS t0 h, enc_app]
  congr 1
theorem u64_ok {o : Int} (h0 : -2147483648 ≤ o) (h1 : o ≤ 2147483647) : IntKind.wrap .u64 (IntKind.wrap .i64 o) = ((u64 o : Nat) : Int) := by
  rw [wrap64 (by omega) (by omega), wrapUm]
  unfold u64
  have := Int.emod_nonneg o (by decide : (18446744073709551616 : Int) ≠ 0)
  exact (Int.toNat_of_nonneg this).symm
theorem u64_lt (o : Int) : u64 o < 18446744073709551616 := by
  unfold u64
  have := Int.emod_lt_of_pos o (by decide : (0 : Int) < 18446744073709551616)
  have := Int.emod_nonneg o (by decide : (18446744073709551616 : Int) ≠ 0)
  omega
theorem f12_ev (L : List Ty) (hL : ∀ t ∈ L, okTy t) (hl : (L.length : Int) ≤ 100000000000) (K : List AV → Prop) (hK : K [.new (.bytes (enc L))]) : evSpec C3 Tryd.f12 [.imm (slT L)] K := by
  unfold slT
  rw [f12_in]
  simp only [List.length_map]
  have ew : IntKind.wrap .i64 ((6 : Int) * (L.length : Int)) = 6 * (L.length : Int) := wrap64 (by omega) (by omega)
  rw [ew]
  refine ⟨by omega, by omega, by omega, by omega, ?_⟩
  unfold LoopI
  refine loop_rule (fun s : Nat × List UInt8 => h12 (L.map cellsT) s.2 s.1) (fun s => s.1 ≤ L.length ∧ s.2 = enc (L.take s.1)) (fun s => L.length - s.1) (fun s hP K' hnorm hexit => ?_) rfl (0, []) p12i _ ⟨Nat.zero_le _, rfl⟩ (by unfold h12; rw [List.length_map]; kernel_rfl)
  obtain ⟨i, l⟩ := s
  obtain ⟨hi, hll⟩ := hP
  simp only at hi hll
  rw [f12_lp]
  simp only [List.length_map]
  have e2 : IntKind.wrap .i64 ((i : Int) + 1) = ((i + 1 : Nat) : Int) := by rw [wrap64 (by omega) (by omega)]; rfl
  have hlen : l.length = 6 * i := by rw [hll, enc_len, List.length_take, Nat.min_eq_left hi]
  refine brn_intro (fun h1 => ?_) (fun h1 => ?_)
  · simp only [decide_eq_true_eq] at h1
    have hlt : i < L.length := by omega
    have hok := hL _ (memD t0 hlt)
    have het := enc_take hlt
    simp only [Int.toNat_natCast, getT hlt, kT, oT, dT, gT]
    generalize L.getD i t0 = t at hok het
    obtain ⟨q1, q2, q3, q4⟩ := hok
    have hu := u64_lt t.o
    simp only [e2, u64_ok q1 q2, Int.toNat_natCast, List.length_append, be_len, List.map_cons, List.map_nil, List.length_cons, List.length_nil]
    rw [← hll] at het
    refine ⟨by omega, by omega, True.intro, by omega, by omega, by omega, by omega, by omega, brn_intro (fun h2 => ?_) (fun h2 => ?_)⟩
    · refine ⟨by simp; omega, by simp; omega, hnorm (i + 1, l ++ be 4 (u64 t.o) ++ [u8 1, u8 t.g]) ⟨[], msk [3, 11, 12, 13] 0 33, [2]⟩ _ ⟨hlt, ?_⟩ (by simp only; omega) (by unfold h12; rw [List.length_map]; kernel_rfl)⟩
      simp only
      rw [het]
      unfold enc1
      rw [h2, if_pos rfl, List.append_assoc]
      rfl
    · refine ⟨by simp; omega, by simp; omega, hnorm (i + 1, l ++ be 4 (u64 t.o) ++ [u8 0, u8 t.g]) ⟨[], msk [3, 11, 12, 13] 0 33, [2]⟩ _ ⟨hlt, ?_⟩ (by simp only; omega) (by unfold h12; rw [List.length_map]; kernel_rfl)⟩
      simp only
      rw [het]
      unfold enc1
      rw [h2, if_neg (by decide), List.append_assoc]
      rfl
  · simp only [decide_eq_false_iff_not] at h1
    have hil : i = L.length := by omega
    rw [hil, List.take_length] at hll
    rw [← hll] at hK
    exact hexit _ _ (by simp) (Eq.mp (by kernel_rfl) hK)
theorem f13_ev (L : List Ty) (hL : ∀ t ∈ L, okTy t) (hl : (L.length : Int) ≤ 100000000000) (K : List AV → Prop) (hK : K [.new (.bytes (enc L))]) : evSpec C3 Tryd.f13 [.imm (slT L)] K := by
  unfold slT
  rw [f13_in]
  unfold LoopI
  refine loop_rule (fun s : Nat × List UInt8 => h13 (L.map cellsT) s.2 s.1) (fun s => s.1 ≤ L.length ∧ s.2 = enc (L.take s.1)) (fun s => L.length - s.1) (fun s hP K' hnorm hexit => ?_) rfl (0, []) p13i _ ⟨Nat.zero_le _, rfl⟩ (by kernel_rfl)
  obtain ⟨i, l⟩ := s
  obtain ⟨hi, hll⟩ := hP
  simp only at hi hll
  rw [f13_lp]
  simp only [List.length_map]
  have e2 : IntKind.wrap .i64 ((i : Int) + 1) = ((i + 1 : Nat) : Int) := by rw [wrap64 (by omega) (by omega)]; rfl
  have hlen : l.length = 6 * i := by rw [hll, enc_len, List.length_take, Nat.min_eq_left hi]
  refine brn_intro (fun h1 => ?_) (fun h1 => ?_)
  · simp only [decide_eq_true_eq] at h1
    have hlt : i < L.length := by omega
    have hok := hL _ (memD t0 hlt)
    have het := enc_take hlt
    simp only [Int.toNat_natCast, getT hlt, kT, oT, dT, gT]
    generalize L.getD i t0 = t at hok het
    obtain ⟨q1, q2, q3, q4⟩ := hok
    have hu := u64_lt t.o
    simp only [e2, u64_ok q1 q2, Int.toNat_natCast, List.length_append, be_len, List.map_cons, List.map_nil, List.length_cons, List.length_nil]
    rw [← hll] at het
    refine ⟨by omega, by omega, True.intro, by omega, by omega, by omega, by omega, by omega, by omega, by omega, True.intro, brn_intro (fun h2 => ?_) (fun h2 => ?_)⟩
    · refine ⟨by omega, by omega, True.intro, by simp; omega, by simp; omega, hnorm (i + 1, l ++ be 4 (u64 t.o) ++ [u8 1, u8 t.g]) ⟨[], msk [0, 3, 4] 0 36, [1]⟩ _ ⟨hlt, ?_⟩ (by simp only; omega) (by kernel_rfl)⟩
      simp only
      rw [het]
      unfold enc1
      rw [h2, if_pos rfl, List.append_assoc]
      rfl
    · refine ⟨by omega, by omega, True.intro, by simp; omega, by simp; omega, hnorm (i + 1, l ++ be 4 (u64 t.o) ++ [u8 0, u8 t.g]) ⟨[], msk [0, 3, 4] 0 36, [1]⟩ _ ⟨hlt, ?_⟩ (by simp only; omega) (by kernel_rfl)⟩
      simp only
      rw [het]
      unfold enc1
      rw [h2, if_neg (by decide), List.append_assoc]
      rfl
  · simp only [decide_eq_false_iff_not] at h1
    have hil : i = L.length := by omega
    rw [hil, List.take_length] at hll
    rw [← hll] at hK
    exact hexit _ _ (by simp) (Eq.mp (by kernel_rfl) hK)
end Z16

set_option maxRecDepth 100000
namespace Z16
open Go Go.AE Go.Proofs
attribute [local irreducible] loopK evCode evSpec loopB norm

/-! ### Decode -/
theorem flags_false {b : List UInt8} {i : Nat} (h : flags b i = false) : ∀ k, i ≤ k → flags b k = false
  | 0, hk => by have : i = 0 := by omega
                subst this; exact h
  | k + 1, hk => by
    by_cases he : i = k + 1
    · rw [← he]; exact h
    · rw [flags, flags_false h k (by omega)]; rfl
theorem recs_len (b : List UInt8) : ∀ k, (recs b k).length = k
  | 0 => rfl
  | k + 1 => by rw [recs, List.length_append, recs_len b k]; rfl
theorem tdiv6 (n : Nat) : IntKind.wrap .i64 (Int.tdiv (n : Int) 6) = ((n / 6 : Nat) : Int) ∨ ¬ n ≤ 1000000000000 := by
  by_cases h : n ≤ 1000000000000
  · left
    have : Int.tdiv (n : Int) 6 = ((n / 6 : Nat) : Int) := by simp [Int.tdiv]
    rw [this, wrap64 (by omega) (by omega)]
  · exact .inr h
theorem sgn4 {u : Nat} (h : u < 256 ^ 4) : -2147483648 ≤ sgnN 4 u ∧ sgnN 4 u ≤ 2147483647 := by
  unfold sgnN
  simp at h ⊢
  split <;> omega
theorem wrap32 {n : Int} (h1 : -2147483648 ≤ n) (h2 : n ≤ 2147483647) : IntKind.wrap .i32 n = n := by
  simp [IntKind.wrap, IntKind.min, IntKind.max, IntKind.signed, IntKind.bits]
  omega
theorem beq1 (x : UInt8) : (((x.toNat : Nat) : Int) == 1) = (x == 1) := by
  cases h : x == 1 with
  | true =>
    have : x = 1 := by simpa using h
    subst this; rfl
  | false =>
    have h1 : x ≠ 1 := by simpa using h
    simp only [beq_eq_false_iff_ne]
    intro e
    exact h1 (UInt8.toNat_inj.1 (by have : (1 : UInt8).toNat = 1 := rfl; omega))
theorem recB_eq {b : List UInt8} {o : Nat} (h : o + 6 ≤ b.length) : cellsT (recB (b.drop o)) = [.int .i32 (sgnN 4 (uintP b o 4)), .bool (b.getD (o + 4) 0 == 1), .int .u8 ((b.getD (o + 5) 0).toNat : Int)] := by
  have hr : okR b o 4 = true := by unfold okR; simp only [decide_eq_true_eq]; omega
  unfold recB cellsT uintP
  rw [hr, if_pos rfl, getD_drop', getD_drop']
theorem recB_ok {b : List UInt8} : okTy (recB b) := by
  have h := sgn4 (u := beN (b.take 4)) (by
    have := beN_lt (b.take 4)
    have h2 : 256 ^ (b.take 4).length ≤ 256 ^ 4 := Nat.pow_le_pow_right (by decide) (by rw [List.length_take]; omega)
    omega)
  have := (b.getD 5 0).toNat_lt
  exact ⟨h.1, h.2, by unfold recB; simp only; omega, by unfold recB; simp only; omega⟩
theorem recs_ok {b : List UInt8} : ∀ k, ∀ t ∈ recs b k, okTy t
  | 0, t, h => by cases h
  | k + 1, t, h => by
    rw [recs, List.mem_append] at h
    rcases h with h | h
    · exact recs_ok k t h
    · rw [List.mem_singleton.1 h]; exact recB_ok
theorem dec_ok {b : List UInt8} : ∀ t ∈ dec b, okTy t := by
  unfold dec
  split
  · exact recs_ok _
  · intro t h; cases h
theorem dec_len (b : List UInt8) : (dec b).length ≤ b.length / 6 := by
  unfold dec
  split
  · rw [recs_len]; exact Nat.le_refl _
  · exact Nat.zero_le _
theorem gt1 (x : UInt8) : decide (((x.toNat : Nat) : Int) > 1) = !decide (x.toNat ≤ 1) := by
  by_cases h : x.toNat ≤ 1
  · rw [decide_eq_true h, decide_eq_false (by omega)]; rfl
  · rw [decide_eq_false h, decide_eq_true (by omega)]; rfl
theorem f9_ev (b : List UInt8) (hb : (b.length : Int) ≤ 1000000000000) (K : List AV → Prop) (hK : K [.new (slT (dec b)), bo (decOk b)]) : evSpec C2 Tryd.f9 [.imm (.bytes b)] K := by
  have hbig : big = 4611686018427387904 := rfl
  have e6 : IntKind.wrap .i64 (Int.tdiv (b.length : Int) 6) = ((b.length / 6 : Nat) : Int) := by
    rcases tdiv6 b.length with h | h
    · exact h
    · omega
  rw [f9_in]
  unfold LoopI
  refine loop_rule (fun i : Nat => h9a b i) (fun i => i ≤ b.length / 6 ∧ flags b i = true) (fun i => b.length / 6 - i) (fun i hP K' hnorm hexit => ?_) rfl 0 p9a _ ⟨Nat.zero_le _, rfl⟩ (by kernel_rfl)
  obtain ⟨hi, hf⟩ := hP
  rw [f9_lpa, e6]
  have e2 : IntKind.wrap .i64 ((i : Int) + 1) = ((i + 1 : Nat) : Int) := by rw [wrap64 (by omega) (by omega)]; rfl
  have e3 : IntKind.wrap .i64 (IntKind.wrap .i64 ((6 : Int) * (i : Int)) + 4) = ((6 * i + 4 : Nat) : Int) := by rw [wrap64 (n := 6 * (i : Int)) (by omega) (by omega), wrap64 (by omega) (by omega)]; omega
  refine ⟨by decide, brn_intro (fun h1 => ?_) (fun h1 => ?_)⟩
  · simp only [decide_eq_true_eq] at h1
    simp only [e2, e3, Int.toNat_natCast, gt1]
    refine ⟨by omega, by omega, brn_intro (fun h2 => ?_) (fun h2 => ?_)⟩
    · have hff : flags b (i + 1) = false := by
        rw [flags, hf]
        simpa using h2
      have h0 := flags_false hff (b.length / 6) (by omega)
      unfold dec decOk at hK
      rw [h0] at hK
      exact hexit _ _ (by simp) (Eq.mp (by kernel_rfl) hK)
    · refine hnorm (i + 1) p9a _ ⟨by omega, ?_⟩ (by omega) (by kernel_rfl)
      rw [flags, hf]
      simpa using h2
  · simp only [decide_eq_false_iff_not] at h1
    have hil : i = b.length / 6 := by omega
    rw [hil] at hf
    unfold dec decOk at hK
    rw [hf, if_pos rfl] at hK
    refine hexit _ _ (by simp) ?_
    have eo := f9_out b i K
    rw [e6] at eo
    rw [eo]
    clear hexit hnorm eo h1 e2 e3 hil hi hf
    unfold LoopI
    refine loop_rule (fun s : Nat => h9b b (recs b s) s) (fun i => i ≤ b.length / 6) (fun i => b.length / 6 - i) (fun i hi K' hnorm hexit => ?_) rfl 0 p9bi _ (Nat.zero_le _) (by kernel_rfl)
    rw [f9_lpb, e6]
    have e2 : IntKind.wrap .i64 ((i : Int) + 1) = ((i + 1 : Nat) : Int) := by rw [wrap64 (by omega) (by omega)]; rfl
    have e3 : IntKind.wrap .i64 (((6 * i : Nat) : Int) + 4) = ((6 * i + 4 : Nat) : Int) := by rw [wrap64 (by omega) (by omega)]; omega
    have e4 : IntKind.wrap .i64 (((6 * i : Nat) : Int) + 5) = ((6 * i + 5 : Nat) : Int) := by rw [wrap64 (by omega) (by omega)]; omega
    have e5 : IntKind.wrap .i64 ((6 : Int) * (i : Int)) = ((6 * i : Nat) : Int) := by rw [wrap64 (by omega) (by omega)]; omega
    have el := recs_len b i
    refine ⟨by decide, brn_intro (fun h1 => ?_) (fun h1 => ?_)⟩
    · simp only [decide_eq_true_eq] at h1
      have hu := sgn4 (uintP_lt b (6 * i) 4)
      have e7 := wrap32 hu.1 hu.2
      have e8 : Int.toNat (4 : Int) = 4 := rfl
      have hc := recB_eq (b := b) (o := 6 * i) (by omega)
      have hm : (recs b (i + 1)).map cellsT = (recs b i).map cellsT ++ [cellsT (recB (b.drop (6 * i)))] := by rw [recs, List.map_append]; rfl
      rw [hc] at hm
      simp only [e2, e3, e4, e5, Int.toNat_natCast, e8, e7, beq1, ← hm]
      refine ⟨by omega, by omega, by omega, by decide, by decide, by omega, by omega, by omega, by omega, by simp [el]; omega, by simp [el]; omega, hnorm (i + 1) ⟨[], msk [0, 5, 6] 0 57, [0]⟩ _ (by omega) (by omega) (by kernel_rfl)⟩
    · simp only [decide_eq_false_iff_not] at h1
      have hil : i = b.length / 6 := by omega
      rw [← hil] at hK
      exact hexit _ _ (by simp) (Eq.mp (by kernel_rfl) hK)
end Z16

