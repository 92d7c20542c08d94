/- The walk's evaluator and its laws (over whatever program), and contracts of the program's functions. -/
import Derived.Test.YtgadloeechbkkaaDoorAe2
import Derived.KernelRfl
import Derived.Laws.BitsLemmas
import Derived.Shelf.LaysM
import Derived.Shelf.Strconv.Itoa3
import Derived.Test.YtgadloeechbkkaaDoorProg
import Derived.Lib.Bytealg
import Derived.Shelf.Strings.Search1
import Derived.Shelf.Small.Strs
import Derived.Lib.RuneCount
set_option linter.all false
set_option maxRecDepth 100000
namespace B8
open Go Go.AE Go.Proofs
attribute [local irreducible] loopK evCode evSpec loopB norm
theorem f10_out (s : List
  UInt8) (i : Int) (n : Int) (h : Int) (K : List AV →
  Prop) : loopK C3 (bodyOf Tryd.f44) (0 : Nat) (finK C3 Tryd.f44 K) (AX.exit (0 : Nat))
  (St.mk
    (let y :=
      let y :=
        let y :=
          let y := [AV.dead, AV.dead, AV.dead, AV.dead, AV.dead, AV.dead];
          AV.dead :: AV.dead :: AV.dead :: AV.dead :: AV.dead :: y;
        let y := AV.dead :: AV.dead :: AV.dead :: AV.dead :: AV.dead :: AV.dead :: y;
        AV.dead :: AV.dead :: AV.dead :: AV.dead :: AV.dead :: y;
      let y :=
        let y := AV.dead :: AV.dead :: AV.dead :: AV.dead :: AV.dead :: AV.dead :: y;
        AV.dead :: AV.dead :: AV.dead :: AV.dead :: AV.dead :: y;
      let y := AV.dead :: AV.dead :: AV.dead :: AV.dead :: AV.dead :: AV.dead :: y;
      AV.dead :: AV.dead :: AV.dead :: AV.dead :: AV.dead :: y;
    let y :=
      let y :=
        let y := AV.dead :: AV.dead :: AV.dead :: AV.dead :: AV.dead :: AV.dead :: y;
        AV.dead :: AV.dead :: AV.dead :: AV.dead :: AV.dead :: y;
      let y :=
        AV.imm (IV.int IntKind.i64 i) ::
          AV.imm (IV.int IntKind.i64 n) ::
            AV.imm (IV.int IntKind.i64 (IntKind.wrap IntKind.i64 (i + n))) ::
              AV.imm (IV.bool (Prod.snd (digit s (Int.toNat (IntKind.wrap IntKind.i64 (i + n)))))) ::
                AV.dead :: AV.dead :: y;
      AV.dead :: AV.dead :: AV.dead :: AV.dead :: AV.imm (IV.str s) :: y;
    let y :=
      let y := AV.dead :: AV.dead :: AV.dead :: AV.dead :: AV.dead :: AV.dead :: y;
      AV.dead :: AV.dead :: AV.dead :: AV.dead :: AV.dead :: y;
    let y :=
      AV.imm (IV.int IntKind.i64 i) ::
        AV.imm (IV.int IntKind.i64 n) :: AV.imm (IV.int IntKind.i64 h) :: AV.dead :: AV.dead :: y;
    AV.imm (IV.str s) ::
      AV.dead ::
        AV.imm (IV.int IntKind.i64 (0 : Int)) :: AV.imm (IV.int IntKind.i64 (0 : Int)) :: AV.imm (IV.bool false) :: y)
    [] (0 : Nat) []) =
  (brn (decide (n < (1 : Int)) || decide (n > (3 : Int)) || decide (h > (167 : Int)))
  (K [AV.imm (IV.int IntKind.i64 (0 : Int)), AV.imm (IV.int IntKind.i64 (0 : Int)), AV.imm (IV.bool false)])
  ((0 : Int) ≤ IntKind.wrap IntKind.i64 (i + n) ∧
    IntKind.wrap IntKind.i64 (i + n) ≤ (↑(List.length s) : Int) ∧
      (↑(List.length s) : Int) ≤ big ∧
        brn (decide (fieldR s (Int.toNat (IntKind.wrap IntKind.i64 (i + n))) ≥ (0 : Int)))
          ((0 : Int) ≤ IntKind.wrap IntKind.i64 (IntKind.wrap IntKind.i64 (i + n) + (3 : Int)) ∧
            IntKind.wrap IntKind.i64 (IntKind.wrap IntKind.i64 (i + n) + (3 : Int)) ≤ (↑(List.length s) : Int) ∧
              (↑(List.length s) : Int) ≤ big ∧
                brn
                  (decide
                    (fieldR s (Int.toNat (IntKind.wrap IntKind.i64 (IntKind.wrap IntKind.i64 (i + n) + (3 : Int)))) ≥
                      (0 : Int)))
                  ((0 : Int) ≤ (0 : Int) ∧
                    (0 : Int) < (↑(List.length s) : Int) ∧
                      brn ((↑(UInt8.toNat (List.getD s (Int.toNat (0 : Int)) (0 : UInt8))) : Int) == (45 : Int))
                        (K
                          [AV.imm
                              (IV.int IntKind.i64
                                (IntKind.wrap IntKind.i64
                                  ((0 : Int) -
                                    IntKind.wrap IntKind.i64
                                      (IntKind.wrap IntKind.i64
                                          (IntKind.wrap IntKind.i64 (h * (3600 : Int)) +
                                            IntKind.wrap IntKind.i64
                                              ((60 : Int) * fieldR s (Int.toNat (IntKind.wrap IntKind.i64 (i + n))))) +
                                        fieldR s
                                          (Int.toNat
                                            (IntKind.wrap IntKind.i64
                                              (IntKind.wrap IntKind.i64 (i + n) + (3 : Int)))))))),
                            AV.imm
                              (IV.int IntKind.i64
                                (IntKind.wrap IntKind.i64
                                  (IntKind.wrap IntKind.i64 (IntKind.wrap IntKind.i64 (i + n) + (3 : Int)) +
                                    (3 : Int)))),
                            AV.imm (IV.bool true)])
                        (K
                          [AV.imm
                              (IV.int IntKind.i64
                                (IntKind.wrap IntKind.i64
                                  (IntKind.wrap IntKind.i64
                                      (IntKind.wrap IntKind.i64 (h * (3600 : Int)) +
                                        IntKind.wrap IntKind.i64
                                          ((60 : Int) * fieldR s (Int.toNat (IntKind.wrap IntKind.i64 (i + n))))) +
                                    fieldR s
                                      (Int.toNat
                                        (IntKind.wrap IntKind.i64 (IntKind.wrap IntKind.i64 (i + n) + (3 : Int))))))),
                            AV.imm
                              (IV.int IntKind.i64
                                (IntKind.wrap IntKind.i64
                                  (IntKind.wrap IntKind.i64 (IntKind.wrap IntKind.i64 (i + n) + (3 : Int)) +
                                    (3 : Int)))),
                            AV.imm (IV.bool true)]))
                  ((0 : Int) ≤ (0 : Int) ∧
                    (0 : Int) < (↑(List.length s) : Int) ∧
                      brn ((↑(UInt8.toNat (List.getD s (Int.toNat (0 : Int)) (0 : UInt8))) : Int) == (45 : Int))
                        (K
                          [AV.imm
                              (IV.int IntKind.i64
                                (IntKind.wrap IntKind.i64
                                  ((0 : Int) -
                                    IntKind.wrap IntKind.i64
                                      (IntKind.wrap IntKind.i64 (h * (3600 : Int)) +
                                        IntKind.wrap IntKind.i64
                                          ((60 : Int) * fieldR s (Int.toNat (IntKind.wrap IntKind.i64 (i + n)))))))),
                            AV.imm
                              (IV.int IntKind.i64
                                (IntKind.wrap IntKind.i64 (IntKind.wrap IntKind.i64 (i + n) + (3 : Int)))),
                            AV.imm (IV.bool true)])
                        (K
                          [AV.imm
                              (IV.int IntKind.i64
                                (IntKind.wrap IntKind.i64
                                  (IntKind.wrap IntKind.i64 (h * (3600 : Int)) +
                                    IntKind.wrap IntKind.i64
                                      ((60 : Int) * fieldR s (Int.toNat (IntKind.wrap IntKind.i64 (i + n))))))),
                            AV.imm
                              (IV.int IntKind.i64
                                (IntKind.wrap IntKind.i64 (IntKind.wrap IntKind.i64 (i + n) + (3 : Int)))),
                            AV.imm (IV.bool true)])))
          ((0 : Int) ≤ (0 : Int) ∧
            (0 : Int) < (↑(List.length s) : Int) ∧
              brn ((↑(UInt8.toNat (List.getD s (Int.toNat (0 : Int)) (0 : UInt8))) : Int) == (45 : Int))
                (K
                  [AV.imm
                      (IV.int IntKind.i64
                        (IntKind.wrap IntKind.i64 ((0 : Int) - IntKind.wrap IntKind.i64 (h * (3600 : Int))))),
                    AV.imm (IV.int IntKind.i64 (IntKind.wrap IntKind.i64 (i + n))), AV.imm (IV.bool true)])
                (K
                  [AV.imm (IV.int IntKind.i64 (IntKind.wrap IntKind.i64 (h * (3600 : Int)))),
                    AV.imm (IV.int IntKind.i64 (IntKind.wrap IntKind.i64 (i + n))),
                    AV.imm (IV.bool true)])))) := by kernel_rfl
end B8
set_option maxRecDepth 100000
namespace B8
open Go Go.AE Go.Proofs
attribute [local irreducible] loopK evCode evSpec loopB norm
theorem at9 : Tryd.prog.funcs[40]? = some Tryd.f40 := by kernel_rfl
theorem at10 : Tryd.prog.funcs[44]? = some Tryd.f44 := by kernel_rfl
theorem at13 : Tryd.prog.funcs[30]? = some Tryd.f30 := by kernel_rfl
theorem at14 : Tryd.prog.funcs[25]? = some Tryd.f25 := by kernel_rfl
theorem at16 : Tryd.prog.funcs[61]? = some Tryd.f61 := by kernel_rfl
theorem at17 : Tryd.prog.funcs[62]? = some Tryd.f62 := by kernel_rfl
theorem at18 : Tryd.prog.funcs[63]? = some Tryd.f63 := by kernel_rfl
theorem at19 : Tryd.prog.funcs[64]? = some Tryd.f64 := by kernel_rfl
theorem at20 : Tryd.prog.funcs[65]? = some Tryd.f65 := by kernel_rfl
theorem at21 : Tryd.prog.funcs[51]? = some Tryd.f51 := by kernel_rfl
theorem at22 : Tryd.prog.funcs[52]? = some Tryd.f52 := by kernel_rfl
theorem at23 : Tryd.prog.funcs[47]? = some Tryd.f47 := by kernel_rfl
theorem at24 : Tryd.prog.funcs[73]? = some Tryd.f73 := by kernel_rfl
theorem at25 : Tryd.prog.funcs[74]? = some Tryd.f74 := by kernel_rfl
theorem mk {E : FuncId → List AV → Option (List Prop × List AV)} (hE : EOK Tryd.prog E G8) {f : FuncId} {fn : Func} {args res : List AV} {pres : List Prop} (hf : Tryd.prog.funcs[f]? = some fn) (hn : (fn.name == "runtime.NumGoroutine") = false) (hb : fn.body.isNone = false)
    (h : (∀ p, p ∈ pres → p) → ∀ K : List AV → Prop, K res → evSpec (cx E) fn args K) : SpecOK Tryd.prog G8 f args pres res :=
  spec_ok (C := cx E) hE noCall_ok hf hn hb (fun hp => h hp _ rfl)
theorem mku {E : FuncId → List AV → Option (List Prop × List AV)} (hE : EOK Tryd.prog E G8) {f : FuncId} {fn : Func} {args res : List AV} {pres : List Prop} (hf : Tryd.prog.funcs[f]? = some fn) (hn : (fn.name == "runtime.NumGoroutine") = false) (hb : fn.body.isNone = false)
    (h : (∀ p, p ∈ pres → p) → ∀ K : List AV → Prop, K res → evSpec (cxu E) fn args K) : SpecOK Tryd.prog G8 f args pres res :=
  spec_ok (C := cxu E) hE noCall_ok hf hn hb (fun hp => h hp _ rfl)
theorem ok0 : EOK Tryd.prog noE G8 := noE_ok
theorem wrap64 {n : Int} (h1 : -9223372036854775808 ≤ n) (h2 : n ≤ 9223372036854775807) : IntKind.wrap .i64 n = n := by
  have := IntKind.wrap_i64 n
  rw [show IntKind.wrap .i64 n = IntKind.i64.wrap n from rfl, this]; omega
theorem wrap8 {n : Int} (h1 : 0 ≤ n) (h2 : n ≤ 255) : IntKind.wrap .u8 n = n := by
  have := IntKind.wrap_u8 n
  rw [show IntKind.wrap .u8 n = IntKind.u8.wrap n from rfl, this]; omega
theorem getD_drop {s : List UInt8} {n : Nat} (h : n < s.length) : s.drop n = s.getD n 0 :: s.drop (n + 1) := by
  rw [List.drop_eq_getElem_cons h]
  simp [List.getD_eq_getElem?_getD, List.getElem?_eq_getElem h]
theorem digit_eq (s : List UInt8) (i : Nat) : digit s i = if i < s.length then (if isD (s.getD i 0) = true then (dv (s.getD i 0), true) else (0, false)) else (0, false) := by
  unfold digit
  by_cases h : i < s.length
  · rw [List.getElem?_eq_getElem h, if_pos h]
    simp [List.getD_eq_getElem?_getD, List.getElem?_eq_getElem h]
  · rw [List.getElem?_eq_none (by omega), if_neg h]
theorem isD_iff (b : UInt8) : isD b = true ↔ 48 ≤ b.toNat ∧ b.toNat ≤ 57 := by
  unfold isD
  simp
theorem nat_of {n : Int} (h : 0 ≤ n) : ∃ i : Nat, n = (i : Int) := ⟨n.toNat, by omega⟩
theorem f25_ev (s : List UInt8) (i : Nat) (K : List AV → Prop) (hK : K [i64 (digit s i).1, bo (digit s i).2]) : evSpec C0 Tryd.f74 [.imm (.str s), .imm (.int .i64 i)] K := by
  rw [f25_in]
  simp only [Int.toNat_natCast]
  rw [digit_eq] at hK
  have hb := isD_iff (s.getD i 0)
  refine ⟨fun h => by omega, fun h => by simpa using h, fun h => by omega, fun h => by simp at h; omega, brn_intro (fun h => ?_) (fun h => ?_)⟩
  · have : ¬ (i < s.length ∧ isD (s.getD i 0) = true) := by
      rw [hb]
      simp only [Bool.or_eq_true, decide_eq_true_eq] at h
      omega
    by_cases h1 : i < s.length
    · rw [if_pos h1, if_neg (fun h2 => this ⟨h1, h2⟩)] at hK; exact hK
    · rw [if_neg h1] at hK; exact hK
  · simp only [Bool.or_eq_false_iff, decide_eq_false_iff_not] at h
    have h1 : i < s.length := by omega
    have h2 : isD (s.getD i 0) = true := hb.2 (by omega)
    rw [if_pos h1, if_pos h2] at hK
    have e : IntKind.wrap .i64 (IntKind.wrap .u8 (((s.getD i 0).toNat : Int) - 48)) = ((dv (s.getD i 0) : Nat) : Int) := by
      have := hb.1 h2
      rw [wrap8 (by omega) (by omega), wrap64 (by omega) (by omega)]
      unfold dv
      omega
    rw [e]
    exact ⟨by omega, by omega, hK⟩
theorem ok25 : ∀ args pres res, sDigit args = some (pres, res) → SpecOK Tryd.prog G8 74 args pres res := by
  intro args pres res h
  unfold sDigit at h
  split at h
  case h_2 => cases h
  cases h
  rename_i s n
  refine mk ok0 at25 (by decide) rfl (fun hp K hK => ?_)
  have h0 := hp _ (List.mem_singleton.2 rfl)
  obtain ⟨i, rfl⟩ := nat_of h0
  exact f25_ev s i K (by simpa only [Int.toNat_natCast] using hK)
theorem f19_ev (s : List UInt8) (i : Nat) (K : List AV → Prop) (hK : K [bo (digit s i).2]) : evSpec C0 Tryd.f64 [.imm (.str s), .imm (.int .i64 i)] K := by
  rw [f19_in]
  simp only [Int.toNat_natCast]
  have e : (digit s i).2 = (decide ((i : Int) < (s.length : Int)) && decide (((s.getD i 0).toNat : Int) ≥ 48) && decide (((s.getD i 0).toNat : Int) ≤ 57)) := by
    rw [digit_eq, Bool.eq_iff_iff]
    have hb := isD_iff (s.getD i 0)
    simp only [Bool.and_eq_true, decide_eq_true_eq]
    by_cases h1 : i < s.length
    · rw [if_pos h1]
      by_cases h2 : isD (s.getD i 0) = true
      · rw [if_pos h2]; simp only [true_iff]; have := hb.1 h2; omega
      · rw [if_neg h2]; simp only [Bool.false_eq_true, false_iff]; rw [hb] at h2; omega
    · rw [if_neg h1]; simp only [Bool.false_eq_true, false_iff]; omega
  rw [e] at hK
  exact ⟨fun h => by omega, fun h => by simpa using h, fun h => by omega, fun h => by simp at h; omega, hK⟩
theorem ok19 : ∀ args pres res, sIsDigit args = some (pres, res) → SpecOK Tryd.prog G8 64 args pres res := by
  intro args pres res h
  unfold sIsDigit at h
  split at h
  case h_2 => cases h
  cases h
  rename_i s n
  refine mk ok0 at19 (by decide) rfl (fun hp K hK => ?_)
  have h0 := hp _ (List.mem_singleton.2 rfl)
  obtain ⟨i, rfl⟩ := nat_of h0
  exact f19_ev s i K (by simpa only [Int.toNat_natCast] using hK)
theorem pfx_eq (s t : List UInt8) : pfx s t = (decide (t.length ≤ s.length) && decide (s.take t.length = t)) := by
  unfold pfx
  rw [Bool.eq_iff_iff]
  simp only [List.isPrefixOf_iff_prefix, Bool.and_eq_true, decide_eq_true_eq]
  constructor
  · intro h
    exact ⟨h.length_le, (List.prefix_iff_eq_take.1 h).symm⟩
  · rintro ⟨_, h⟩
    rw [← h]
    exact List.take_prefix _ _
theorem ok24 : ∀ args pres res, sPfx args = some (pres, res) → SpecOK Tryd.prog G8 73 args pres res := by
  intro args pres res h
  unfold sPfx at h
  split at h
  case h_2 => cases h
  cases h
  rename_i s t
  refine mk ok0 at24 (by decide) rfl (fun _ K hK => ?_)
  rw [show cx noE = C0 from rfl, f24_in]
  refine ⟨fun _ => by omega, fun h => by simpa using h, ?_⟩
  simp only [Int.toNat_natCast, Nat.sub_zero, List.drop_zero]
  rw [pfx_eq] at hK
  have e : decide ((s.length : Int) ≥ (t.length : Int)) = decide (t.length ≤ s.length) := by
    rw [Bool.eq_iff_iff]; simp only [decide_eq_true_eq]; omega
  rw [e]
  exact hK
theorem tdiv10 (n : Nat) : Int.tdiv (n : Int) 10 = ((n / 10 : Nat) : Int) := by simp [Int.tdiv]
theorem tmod10 (n : Nat) : Int.tmod (n : Int) 10 = ((n % 10 : Nat) : Int) := by simp [Int.tmod]
theorem tdivN (n m : Nat) : Int.tdiv (n : Int) (m : Int) = ((n / m : Nat) : Int) := by simp [Int.tdiv]
theorem tmodN (n m : Nat) : Int.tmod (n : Int) (m : Int) = ((n % m : Nat) : Int) := by simp [Int.tmod]
theorem u8_dg {n : Nat} (h : n < 10) : u8 (((48 + n : Nat) : Int)) = dg n := by
  unfold u8 dg
  rw [Int.toNat_natCast]
theorem ok23 : ∀ args pres res, sPair args = some (pres, res) → SpecOK Tryd.prog G8 47 args pres res := by
  intro args pres res h
  unfold sPair at h
  split at h
  case h_2 => cases h
  cases h
  rename_i n
  refine mk ok0 at23 (by decide) rfl (fun hp K hK => ?_)
  have h0 := hp _ (List.mem_cons_self ..)
  have h1 := hp _ (List.mem_cons_of_mem _ (List.mem_cons_self ..))
  obtain ⟨i, rfl⟩ := nat_of h0
  rw [show cx noE = C0 from rfl, f23_in]
  refine ⟨by decide, by decide, ?_⟩
  rw [tdiv10, tmod10]
  have hi : i < 100 := by omega
  have e1 : IntKind.wrap .u8 (IntKind.wrap .i64 (48 + IntKind.wrap .i64 ((i / 10 : Nat) : Int))) = ((48 + i / 10 : Nat) : Int) := by
    rw [wrap64 (n := ((i / 10 : Nat) : Int)) (by omega) (by omega), wrap64 (by omega) (by omega), wrap8 (by omega) (by omega)]
    omega
  have e2 : IntKind.wrap .u8 (IntKind.wrap .i64 (48 + ((i % 10 : Nat) : Int))) = ((48 + i % 10 : Nat) : Int) := by
    rw [wrap64 (by omega) (by omega), wrap8 (by omega) (by omega)]
    omega
  rw [e1, e2, List.map_cons, List.map_cons, List.map_nil, u8_dg (by omega), u8_dg (by omega)]
  simp only [Int.toNat_natCast] at hK
  exact hK
end B8
namespace Go.Proofs
open Go.Shelf
def Tryd.laysM171_ren : Go.Shelf.Ren := ⟨fun | 171 => 51 | 243 => 69 | 246 => 75 | 283 => 78 | 284 => 79 | 285 => 80 | 286 => 81 | 129 => 84 | 317 => 83 | 318 => 85 | 319 => 86 | 320 => 87 | 337 => 88 | 338 => 89 | n => n, fun | 3 => 3 | 9 => 9 | 2 => 2 | 4 => 4 | 171 => 99 | 0 => 0 | 53 => 100 | 37 => 47 | 5 => 5 | 173 => 103 | 212 => 107 | 51 => 42 | 20 => 20 | 213 => 108 | 46 => 109 | 232 => 112 | 233 => 113 | n => n, fun | 17 => 0 | 18 => 2 | 19 => 3 | n => n⟩
theorem Tryd.laysM171 : Go.Proofs.LaysM.n171 Tryd.prog Tryd.laysM171_ren := {
  mixed := by kernel_rfl
  f129 := Tryd.func84.trans (congrArg some (by kernel_rfl))
  f171 := Tryd.func51.trans (congrArg some (by kernel_rfl))
  f243 := Tryd.func69.trans (congrArg some (by kernel_rfl))
  f246 := Tryd.func75.trans (congrArg some (by kernel_rfl))
  f283 := Tryd.func78.trans (congrArg some (by kernel_rfl))
  f284 := Tryd.func79.trans (congrArg some (by kernel_rfl))
  f285 := Tryd.func80.trans (congrArg some (by kernel_rfl))
  f286 := Tryd.func81.trans (congrArg some (by kernel_rfl))
  f317 := Tryd.func83.trans (congrArg some (by kernel_rfl))
  f318 := Tryd.func85.trans (congrArg some (by kernel_rfl))
  f319 := Tryd.func86.trans (congrArg some (by kernel_rfl))
  f320 := Tryd.func87.trans (congrArg some (by kernel_rfl))
  f337 := Tryd.func88.trans (congrArg some (by kernel_rfl))
  f338 := Tryd.func89.trans (congrArg some (by kernel_rfl))
  t0 := Tryd.underlying0
  a0 := Tryd.isAgg0
  z0 := Tryd.sizeOf0
  v0 := Tryd.zeroValue0
  t2 := Tryd.underlying2
  a2 := Tryd.isAgg2
  z2 := Tryd.sizeOf2
  v2 := Tryd.zeroValue2
  t3 := Tryd.underlying3
  a3 := Tryd.isAgg3
  z3 := Tryd.sizeOf3
  v3 := Tryd.zeroValue3
  t4 := Tryd.underlying4
  a4 := Tryd.isAgg4
  z4 := Tryd.sizeOf4
  v4 := Tryd.zeroValue4
  t5 := Tryd.underlying5
  a5 := Tryd.isAgg5
  z5 := Tryd.sizeOf5
  v5 := Tryd.zeroValue5
  t9 := Tryd.underlying9
  a9 := Tryd.isAgg9
  z9 := Tryd.sizeOf9
  v9 := Tryd.zeroValue9
  t20 := Tryd.underlying20
  a20 := Tryd.isAgg20
  z20 := Tryd.sizeOf20
  v20 := Tryd.zeroValue20
  t37 := Tryd.underlying47
  a37 := Tryd.isAgg47
  z37 := Tryd.sizeOf47
  v37 := Tryd.zeroValue47
  t46 := Tryd.underlying109
  a46 := Tryd.isAgg109
  z46 := Tryd.sizeOf109
  v46 := Tryd.zeroValue109
  t51 := Tryd.underlying42
  a51 := Tryd.isAgg42
  z51 := Tryd.sizeOf42
  v51 := Tryd.zeroValue42
  t53 := Tryd.underlying100
  a53 := Tryd.isAgg100
  z53 := Tryd.sizeOf100
  v53 := Tryd.zeroValue100
  t171 := Tryd.underlying99
  a171 := Tryd.isAgg99
  z171 := Tryd.sizeOf99
  v171 := Tryd.zeroValue99
  t173 := Tryd.underlying103
  a173 := Tryd.isAgg103
  z173 := Tryd.sizeOf103
  v173 := Tryd.zeroValue103
  t212 := Tryd.underlying107
  a212 := Tryd.isAgg107
  z212 := Tryd.sizeOf107
  v212 := Tryd.zeroValue107
  t213 := Tryd.underlying108
  a213 := Tryd.isAgg108
  z213 := Tryd.sizeOf108
  t232 := Tryd.underlying112
  a232 := Tryd.isAgg112
  z232 := Tryd.sizeOf112
  v232 := Tryd.zeroValue112
  t233 := Tryd.underlying113
  a233 := Tryd.isAgg113
  z233 := Tryd.sizeOf113
  v233 := Tryd.zeroValue113
  g17 := by kernel_rfl
  g18 := by kernel_rfl
  g19 := by kernel_rfl
  i0 := by kernel_rfl
  i2 := by kernel_rfl
  i3 := by kernel_rfl
  i4 := by kernel_rfl
  i5 := by kernel_rfl
  i9 := by kernel_rfl
  i20 := by kernel_rfl
  i37 := by kernel_rfl
  i46 := by kernel_rfl
  i51 := by kernel_rfl
  i53 := by kernel_rfl
  i171 := by kernel_rfl
  i173 := by kernel_rfl
  i212 := by kernel_rfl
  i232 := by kernel_rfl
  i233 := by kernel_rfl
  m17 := by kernel_rfl
  m18 := by kernel_rfl
  m19 := by kernel_rfl }
end Go.Proofs
namespace B8
open Go Go.AE Go.Proofs Go.Shelf
theorem gName : Tryd.prog.globalNamed "internal/strconv.uint64pow10" = some 0 := by kernel_rfl
theorem itoa_dd (i : Nat) (h : i < 1000) : Lib.itoa (i : Int) = dd i := by
  unfold Lib.itoa dd
  rw [if_neg (by omega), Int.toNat_natCast]
  by_cases h1 : i < 10
  · rw [if_pos h1, Lib.decDigits, dif_pos h1]; rfl
  · rw [if_neg h1, Lib.decDigits, dif_neg h1]
    by_cases h2 : i < 100
    · rw [if_pos h2, Lib.decDigits, dif_pos (by omega)]; rfl
    · rw [if_neg h2, Lib.decDigits, dif_neg (by omega), Lib.decDigits, dif_pos (by omega)]
      rw [show i / 10 / 10 = i / 100 from by omega]
      rfl
theorem tab_is {w : World} {own : Nat → Prop} (hG : GOK G8 w own) : Lib.TabIs Tryd.prog w "internal/strconv.uint64pow10" .u64 Lib.pow10Tab := by
  obtain ⟨_, c, T, fr, h1, h2, h3, _⟩ := hG 0 tab10 rfl
  unfold Lib.TabIs World.var?
  rw [gName]
  simp only [Option.bind_some, h1, Option.some.injEq]
  have hl : tab10.length = 20 := by decide
  have hp : Lib.pow10Tab.length = 20 := Lib.pow10Tab_length
  apply Array.ext
  · simp [h2, hl, hp]
  · intro j hj1 hj2
    have hj : j < 20 := by rw [h2, hl] at hj1; exact hj1
    have e : tab10[j]? = some (.imm (.int .u64 (Lib.pow10Tab.getD j 0))) := by
      rw [Lib.pow10Tab_at j hj]
      have : ∀ j, j < 20 → ([1, 10, 100, 1000, 10000, 100000, 1000000, 10000000, 100000000, 1000000000, 10000000000, 100000000000, 1000000000000, 10000000000000, 100000000000000, 1000000000000000, 10000000000000000, 100000000000000000, 1000000000000000000, 10000000000000000000] : List Int)[j]? = some ((10 ^ j : Nat) : Int) := by decide
      unfold tab10
      rw [List.getElem?_map, this j hj]
      rfl
    have := h3 j _ e
    have hv := (rep_int (show Rep w own _ _ from this)).1
    rw [Array.getD_eq_getD_getElem?, Array.getElem?_eq_getElem hj1, Option.getD_some] at hv
    rw [hv]
    simp [List.getD_eq_getElem?_getD, List.getElem?_eq_getElem (show j < Lib.pow10Tab.length by omega)]
theorem ok21 : ∀ args pres res, sItoa args = some (pres, res) → SpecOK Tryd.prog G8 51 args pres res := by
  intro args pres res h
  unfold sItoa at h
  split at h
  case h_2 => cases h
  cases h
  rename_i n
  refine ⟨⟨Tryd.f51, at21, by decide, rfl⟩, fun hp w own vals _ hsz hargs hG => ?_⟩
  have h0 := hp _ (List.mem_cons_self ..)
  have h1 := hp _ (List.mem_cons_of_mem _ (List.mem_cons_self ..))
  obtain ⟨i, rfl⟩ := nat_of h0
  obtain ⟨e0, _⟩ := arep_int (hargs 0 _ rfl)
  have hv : vals = #[.int .i64 (i : Int)] := by
    apply Array.ext
    · simpa using hsz
    · intro j h1' h2'
      have hj : j < 1 := by simpa using h2'
      match j, hj with
      | 0, _ => rw [Array.getD_eq_getD_getElem?, Array.getElem?_eq_getElem h1'] at e0; exact e0
  subst hv
  have hi : i < 1000 := by omega
  have hcl := Any.strconv_Itoa Tryd.laysM171 (i : Int) (by omega) (by omega) w (tab_is hG)
  refine Calls.mono hcl ?_
  rintro e w' ⟨rfl, k, os, rfl⟩
  rw [itoa_dd i hi]
  have hl : (dd i).length ≤ 3 := by unfold dd; split <;> (try split) <;> simp
  refine ⟨[.string ⟨(dd i).toArray⟩], [], rfl, ?_, ?_, fun b hb => by cases hb⟩
  · refine ⟨rfl, rfl, rfl, ?_, fun k' hk' => ?_⟩
    · simp [Sort.grow, World.drewN]
    · simp only [Sort.grow, World.drewN]
      rw [Array.getElem?_append_left hk']
  · rw [Int.toNat_natCast]
    exact .one (fun cs h => by cases h) (.imm (.str (by simp [bytesOf]) (by omega)) .nil) (fun b hb => by cases hb) .nil
theorem okE1 : EOK Tryd.prog E1 G8 := addE_ok (addE_ok (addE_ok (addE_ok (addE_ok ok0 ok25) ok19) ok21) ok24) ok23
end B8
set_option maxRecDepth 100000
namespace B8
open Go Go.AE Go.Proofs
attribute [local irreducible] loopK evCode evSpec loopB norm
theorem digit_le (s : List UInt8) (i : Nat) : (digit s i).1 ≤ 9 := by
  rw [digit_eq]
  have hb := isD_iff (s.getD i 0)
  split
  · split
    · rename_i h
      have := hb.1 h
      show dv _ ≤ 9
      unfold dv
      omega
    · exact Nat.zero_le _
  · exact Nat.zero_le _
theorem digit_drop (s : List UInt8) (i j : Nat) : digit s (i + j) = digit (s.drop i) j := by
  unfold digit
  rw [List.getElem?_drop]
theorem field_spec (s : List UInt8) (i : Nat) :
    (field (s.drop i) = none ∧ (!pfx (s.drop i) [58] || !(digit s (i + 1)).2 || !(digit s (i + 2)).2 || decide (((digit s (i + 1)).1 : Int) * 10 + ((digit s (i + 2)).1 : Int) ≥ 60)) = true) ∨
    (∃ m : Nat, field (s.drop i) = some m ∧ (!pfx (s.drop i) [58] || !(digit s (i + 1)).2 || !(digit s (i + 2)).2 || decide (((digit s (i + 1)).1 : Int) * 10 + ((digit s (i + 2)).1 : Int) ≥ 60)) = false ∧
      ((digit s (i + 1)).1 : Int) * 10 + ((digit s (i + 2)).1 : Int) = (m : Int) ∧ m < 60 ∧ i + 3 ≤ s.length) := by
  rw [digit_drop, digit_drop]
  have hl : (s.drop i).length = s.length - i := List.length_drop
  generalize s.drop i = l at hl
  match l, hl with
  | [], _ => left; simp [field, pfx]
  | [c], _ => left; simp [field, digit]
  | [c, a], _ => left; simp [field, digit]
  | c :: a :: b :: r, hl =>
    simp only [List.length_cons] at hl
    have ha := isD_iff a
    have hb := isD_iff b
    unfold field digit pfx
    simp only [List.getElem?_cons_succ, List.getElem?_cons_zero]
    by_cases h1 : c = 58
    · subst h1
      by_cases h2 : isD a = true
      · by_cases h3 : isD b = true
        · by_cases h4 : dv a * 10 + dv b < 60
          · right
            refine ⟨dv a * 10 + dv b, by simp [h2, h3, h4], ?_, by simp [h2, h3], h4, by omega⟩
            simp [h2, h3]
            omega
          · left
            simp [h2, h3]
            omega
        · left; simp [h3]
      · left; simp [h2]
    · left
      have : ¬ (58 = c) := fun h => h1 h.symm
      have h2 : [58].isPrefixOf (c :: a :: b :: r) = false := by simp [List.isPrefixOf, this]
      rw [h2]
      simp [h1]
theorem ok16 : ∀ args pres res, sPfx args = some (pres, res) → SpecOK Tryd.prog G8 61 args pres res := by
  intro args pres res h
  unfold sPfx at h
  split at h
  case h_2 => cases h
  cases h
  exact mk okE1 at16 (by decide) rfl (fun _ K hK => by rw [show cx E1 = C1 from rfl, f16_in]; exact hK)
theorem dd_small {n : Nat} (h : n < 10) : dd n = [dg n] := by unfold dd; rw [if_pos h]
theorem ok22 : ∀ args pres res, sTwo args = some (pres, res) → SpecOK Tryd.prog G8 52 args pres res := by
  intro args pres res h
  unfold sTwo at h
  split at h
  case h_2 => cases h
  cases h
  rename_i n
  refine mk okE1 at22 (by decide) rfl (fun hp K hK => ?_)
  have h0 := hp _ (List.mem_cons_self ..)
  have h1 := hp _ (List.mem_cons_of_mem _ (List.mem_cons_self ..))
  obtain ⟨i, rfl⟩ := nat_of h0
  rw [show cx E1 = C1 from rfl, f22_in, tdiv10, tmod10, wrap64 (n := ((i / 10 : Nat) : Int)) (by omega) (by omega)]
  simp only [Int.toNat_natCast] at hK ⊢
  rw [dd_small (show i / 10 < 10 by omega), dd_small (show i % 10 < 10 by omega)]
  exact ⟨by decide, by omega, by omega, by simp, by decide, by omega, by omega, by simp, hK⟩
theorem okE2 : EOK Tryd.prog E2 G8 := addE_ok (addE_ok okE1 ok16) ok22
theorem take_rest (s : List UInt8) (i : Nat) : (s.drop i).take (s.length - i) = s.drop i := by
  rw [List.take_of_length_le]; simp
theorem f18_ev (s : List UInt8) (i : Nat) (hi : i ≤ s.length) (hs : (s.length : Int) ≤ big) (K : List AV → Prop) (hK : K [i64 (fieldsP s i).1, i64 (fieldsP s i).2]) :
    evSpec D2 Tryd.f63 [.imm (.str s), .imm (.int .i64 i), .imm (.ints .i64 [60, 1])] K := by
  unfold big at hs
  have hs' : s.length ≤ 9223372036854775000 := by omega
  rw [f18_in]
  have e1 : IntKind.wrap .i64 ((i : Int) + 1) = ((i + 1 : Nat) : Int) := by rw [wrap64 (by omega) (by omega)]; rfl
  have e2 : IntKind.wrap .i64 ((i : Int) + 2) = ((i + 2 : Nat) : Int) := by rw [wrap64 (by omega) (by omega)]; rfl
  have e3 : IntKind.wrap .i64 ((i : Int) + 3) = ((i + 3 : Nat) : Int) := by rw [wrap64 (by omega) (by omega)]; rfl
  have e4 : IntKind.wrap .i64 (((i + 3 : Nat) : Int) + 1) = ((i + 3 + 1 : Nat) : Int) := by rw [wrap64 (by omega) (by omega)]; rfl
  have e5 : IntKind.wrap .i64 (((i + 3 : Nat) : Int) + 2) = ((i + 3 + 2 : Nat) : Int) := by rw [wrap64 (by omega) (by omega)]; rfl
  have e6 : IntKind.wrap .i64 (((i + 3 : Nat) : Int) + 3) = ((i + 6 : Nat) : Int) := by rw [wrap64 (by omega) (by omega)]; rfl
  have e7 : IntKind.wrap .i64 ((0 : Int) + 1) = 1 := by decide
  have m1 : (if (s.length : Int) < (i : Int) then (s.length : Int) else (i : Int)) = (i : Int) := by rw [if_neg (by omega)]
  have dd1 : ∀ j k, IntKind.wrap .i64 (IntKind.wrap .i64 (((digit s j).1 : Int) * 10) + ((digit s k).1 : Int)) = ((digit s j).1 : Int) * 10 + ((digit s k).1 : Int) := by
    intro j k
    have := digit_le s j
    have := digit_le s k
    rw [wrap64 (n := ((digit s j).1 : Int) * 10) (by omega) (by omega), wrap64 (by omega) (by omega)]
  rw [e1, e2, e3, e4, e5, e6, e7, m1]
  simp only [dd1, Int.toNat_natCast, take_rest]
  refine ⟨by decide, by decide, by omega, by omega, by omega, by omega, ?_⟩
  unfold fieldsP at hK
  rcases field_spec s i with ⟨hf, hc⟩ | ⟨m, hf, hc, hm, hm60, hl⟩
  · rw [hf] at hK
    rw [hc]
    exact hK
  · rw [hf] at hK
    rw [hc]
    have m2 : (if (s.length : Int) < ((i + 3 : Nat) : Int) then (s.length : Int) else ((i + 3 : Nat) : Int)) = ((i + 3 : Nat) : Int) := by rw [if_neg (by omega)]
    rw [m2, hm]
    simp only [Int.toNat_natCast, take_rest]
    refine ⟨by decide, by decide, by omega, by omega, by omega, by omega, ?_⟩
    have w1 : IntKind.wrap .i64 (0 + IntKind.wrap .i64 (List.getD [(60 : Int), 1] (Int.toNat 0) 0 * (m : Int))) = 60 * (m : Int) := by
      rw [show List.getD [(60 : Int), 1] (Int.toNat 0) 0 = 60 from rfl, wrap64 (n := 60 * (m : Int)) (by omega) (by omega), wrap64 (by omega) (by omega)]
      omega
    rw [w1]
    rcases field_spec s (i + 3) with ⟨hf2, hc2⟩ | ⟨c, hf2, hc2, hc3, hc60, hl2⟩
    · rw [hf2] at hK
      rw [hc2]
      exact hK
    · rw [hf2] at hK
      rw [hc2, hc3]
      have w2 : IntKind.wrap .i64 (60 * (m : Int) + IntKind.wrap .i64 (List.getD [(60 : Int), 1] (Int.toNat 1) 0 * (c : Int))) = 60 * (m : Int) + c := by
        rw [show List.getD [(60 : Int), 1] (Int.toNat 1) 0 = 1 from rfl, wrap64 (n := 1 * (c : Int)) (by omega) (by omega), wrap64 (by omega) (by omega)]
        omega
      rw [w2]
      exact hK
theorem ok18 : ∀ args pres res, sFields args = some (pres, res) → SpecOK Tryd.prog G8 63 args pres res := by
  intro args pres res h
  unfold sFields at h
  split at h
  case h_2 => cases h
  cases h
  rename_i s n
  refine mku okE2 at18 (by decide) rfl (fun hp K hK => ?_)
  have h0 := hp _ (List.mem_cons_self ..)
  have h1 := hp _ (List.mem_cons_of_mem _ (List.mem_cons_self ..))
  have h2 := hp _ (List.mem_cons_of_mem _ (List.mem_cons_of_mem _ (List.mem_cons_self ..)))
  obtain ⟨i, rfl⟩ := nat_of h0
  simp only [Int.toNat_natCast] at hK
  exact f18_ev s i (by omega) h2 K hK
theorem w10 {x y : Int} (h1 : 48 ≤ x) (h2 : x ≤ 57) (h3 : 48 ≤ y) (h4 : y ≤ 57) : IntKind.wrap .i64 (IntKind.wrap .i64 (IntKind.wrap .i64 (10 * IntKind.wrap .i64 (IntKind.wrap .i64 x - 48)) + IntKind.wrap .i64 y) - 48) = 10 * (x - 48) + (y - 48) := by
  rw [wrap64 (n := x) (by omega) (by omega), wrap64 (n := y) (by omega) (by omega), wrap64 (n := x - 48) (by omega) (by omega), wrap64 (n := 10 * (x - 48)) (by omega) (by omega), wrap64 (n := 10 * (x - 48) + y) (by omega) (by omega), wrap64 (by omega) (by omega)]
  omega
theorem f20_ev (s : List UInt8) (i : Nat) (hi : i ≤ s.length) (hs : (s.length : Int) ≤ big) (K : List AV → Prop) (hK : K [i64 (fieldR s i)]) : evSpec C2 Tryd.f65 [.imm (.str s), .imm (.int .i64 i)] K := by
  unfold big at hs
  have hs' : s.length ≤ 9223372036854775000 := by omega
  rw [f20_in]
  have e1 : IntKind.wrap .i64 ((i : Int) + 1) = ((i + 1 : Nat) : Int) := by rw [wrap64 (by omega) (by omega)]; rfl
  have e2 : IntKind.wrap .i64 ((i : Int) + 2) = ((i + 2 : Nat) : Int) := by rw [wrap64 (by omega) (by omega)]; rfl
  rw [e1, e2]
  simp only [Int.toNat_natCast]
  refine ⟨fun h => by omega, fun h => by simpa using h, fun h => by omega, fun h => by omega, ?_⟩
  have hp : pfx (s.drop i) [58] = !(decide ((i : Int) ≥ (s.length : Int)) || ((s.getD i 0).toNat : Int) != 58) := by
    by_cases hlt : i < s.length
    · rw [getD_drop hlt]
      unfold pfx
      have : ¬ ((i : Int) ≥ (s.length : Int)) := by omega
      simp only [List.isPrefixOf, List.isPrefixOf, Bool.and_true, decide_eq_false this, Bool.false_or]
      rw [Bool.eq_iff_iff]
      simp only [beq_iff_eq, Bool.not_eq_true', bne_eq_false_iff_eq]
      constructor
      · rintro h; rw [← h]; rfl
      · intro h
        have : (s.getD i 0).toNat = 58 := by omega
        exact (UInt8.toNat_inj.1 (by rw [this]; rfl))
    · rw [List.drop_eq_nil_of_le (by omega)]
      have : ((i : Int) ≥ (s.length : Int)) := by omega
      simp [pfx, this]
  have val : ∀ j, (digit s j).2 = true → j < s.length ∧ ((s.getD j 0).toNat : Int) = ((digit s j).1 : Int) + 48 := by
    intro j hj
    rw [digit_eq] at hj ⊢
    have hb := isD_iff (s.getD j 0)
    by_cases h1 : j < s.length
    · rw [if_pos h1] at hj ⊢
      by_cases h2 : isD (s.getD j 0) = true
      · rw [if_pos h2]
        have := hb.1 h2
        refine ⟨h1, ?_⟩
        show _ = ((dv _ : Nat) : Int) + 48
        unfold dv
        omega
      · rw [if_neg h2] at hj; cases hj
    · rw [if_neg h1] at hj; cases hj
  unfold fieldR at hK
  rcases field_spec s i with ⟨hf, hc⟩ | ⟨m, hf, hc, hm, hm60, hl⟩
  · rw [hf] at hK
    rw [hp] at hc
    refine brn_intro (fun _ => hK) (fun h => ?_)
    have hh := h
    rw [Bool.or_eq_false_iff, Bool.or_eq_false_iff] at h
    obtain ⟨⟨ha, hb⟩, hd⟩ := h
    have hb' : (digit s (i + 1)).2 = true := by simpa using hb
    have hd' : (digit s (i + 2)).2 = true := by simpa using hd
    obtain ⟨l1, v1⟩ := val _ hb'
    obtain ⟨l2, v2⟩ := val _ hd'
    have g1 := digit_le s (i + 1)
    have g2 := digit_le s (i + 2)
    refine ⟨by omega, by omega, by omega, by omega, brn_intro (fun _ => hK) (fun h3 => ?_)⟩
    exfalso
    simp only [w10 (show (48 : Int) ≤ ((s.getD (i + 1) 0).toNat : Int) by omega) (by omega) (show (48 : Int) ≤ ((s.getD (i + 2) 0).toNat : Int) by omega) (by omega)] at h3
    rw [ha, hb', hd'] at hc
    simp only [Bool.not_false, Bool.not_true, Bool.false_or, decide_eq_true_eq] at hc
    simp only [decide_eq_false_iff_not] at h3
    omega
  · rw [hf] at hK
    rw [hp] at hc
    simp only [Bool.or_eq_false_iff, Bool.not_eq_false', Bool.not_not] at hc
    obtain ⟨⟨⟨ha, hb⟩, hd⟩, _⟩ := hc
    obtain ⟨l1, v1⟩ := val _ hb
    obtain ⟨l2, v2⟩ := val _ hd
    have g1 := digit_le s (i + 1)
    have g2 := digit_le s (i + 2)
    have hcond : (decide ((i : Int) ≥ (s.length : Int)) || ((s.getD i 0).toNat : Int) != 58 || !(digit s (i + 1)).2 || !(digit s (i + 2)).2) = false := by
      rw [hb, hd]
      simp only [Bool.or_eq_false_iff]
      refine ⟨⟨?_, rfl⟩, rfl⟩
      simpa using ha
    rw [hcond]
    refine ⟨by omega, by omega, by omega, by omega, ?_⟩
    have e : 10 * (((s.getD (i + 1) 0).toNat : Int) - 48) + (((s.getD (i + 2) 0).toNat : Int) - 48) = (m : Int) := by omega
    simp only [w10 (show (48 : Int) ≤ ((s.getD (i + 1) 0).toNat : Int) by omega) (by omega) (show (48 : Int) ≤ ((s.getD (i + 2) 0).toNat : Int) by omega) (by omega), e]
    refine brn_intro (fun h => ?_) (fun _ => hK)
    simp only [decide_eq_true_eq] at h
    omega
theorem ok20 : ∀ args pres res, sField args = some (pres, res) → SpecOK Tryd.prog G8 65 args pres res := by
  intro args pres res h
  unfold sField at h
  split at h
  case h_2 => cases h
  cases h
  rename_i s n
  refine mk okE2 at20 (by decide) rfl (fun hp K hK => ?_)
  have h0 := hp _ (List.mem_cons_self ..)
  have h1 := hp _ (List.mem_cons_of_mem _ (List.mem_cons_self ..))
  have h2 := hp _ (List.mem_cons_of_mem _ (List.mem_cons_of_mem _ (List.mem_cons_self ..)))
  obtain ⟨i, rfl⟩ := nat_of h0
  simp only [Int.toNat_natCast] at hK
  exact f20_ev s i (by omega) h2 K hK
end B8
set_option maxRecDepth 100000
namespace B8
open Go Go.AE Go.Proofs
attribute [local irreducible] loopK evCode evSpec loopB norm
theorem run_digit : ∀ (l : List UInt8) (j : Nat), j ≤ (runD l).length → digit l j = if j < (runD l).length then (dv ((runD l).getD j 0), true) else (0, false)
  | [], j, _ => by simp [runD, digit]
  | b :: l, j, h => by
    unfold runD at h ⊢
    rw [List.takeWhile_cons] at h ⊢
    by_cases hb : isD b = true
    · rw [if_pos hb] at h ⊢
      cases j with
      | zero => simp [digit, hb]
      | succ j =>
        have ih := run_digit l j (by simpa [runD] using h)
        have e : digit (b :: l) (j + 1) = digit l j := by unfold digit; simp
        rw [e, ih]
        simp [runD]
    · rw [if_neg hb] at h ⊢
      have : j = 0 := by simpa using h
      subst this
      simp [digit, hb]
theorem run_le (l : List UInt8) : (runD l).length ≤ l.length := (List.takeWhile_sublist _).length_le
theorem num_succ (ds : List UInt8) (j : Nat) (h : j < ds.length) : num (ds.take (j + 1)) = num (ds.take j) * 10 + dv (ds.getD j 0) := by
  unfold num
  rw [List.take_succ, List.foldl_append]
  simp [List.getD_eq_getElem?_getD, List.getElem?_eq_getElem h]
theorem dv_run {l : List UInt8} {j : Nat} (h : j < (runD l).length) : dv ((runD l).getD j 0) ≤ 9 := by
  have := digit_le l j
  rw [run_digit l j (by omega), if_pos h] at this
  exact this
theorem num_le (l : List UInt8) : ∀ j, j ≤ (runD l).length → num ((runD l).take j) < 10 ^ j
  | 0, _ => by simp [num]
  | j + 1, h => by
    have ih := num_le l j (by omega)
    have := dv_run (l := l) (j := j) (by omega)
    rw [num_succ _ _ (by omega), Nat.pow_succ]
    omega
def p17 : Plan := ⟨[], [true, true, false, false, true, true, true, true, true, true, true], []⟩
theorem f17_ev (s : List UInt8) (i : Nat) (hi : i ≤ 1) (hs : (s.length : Int) ≤ big) (K : List AV → Prop) (hK : K [i64 (hoursP s i).1, i64 (hoursP s i).2.1, bo (hoursP s i).2.2]) :
    evSpec C2 Tryd.f62 [.imm (.str s), .imm (.int .i64 i)] K := by
  unfold big at hs
  rw [f17_in]
  refine ⟨by omega, ?_⟩
  unfold LoopI
  have hrl := run_le (s.drop i)
  have hdl : (s.drop i).length = s.length - i := List.length_drop
  refine loop_rule (fun j : Nat => h17 s i (num ((runD (s.drop i)).take j)) ((i + j : Nat) : Int) (digit s (i + j)).1 (digit s (i + j)).2) (fun j => j ≤ 3 ∧ j ≤ (runD (s.drop i)).length) (fun j => (runD (s.drop i)).length - j)
    (fun j hP K' hnorm hexit => ?_) rfl 0 p17 _ ⟨by omega, by omega⟩ (by kernel_rfl)
  obtain ⟨h3, hle⟩ := hP
  have en : IntKind.wrap .i64 (((i + j : Nat) : Int) + 1) = ((i + (j + 1) : Nat) : Int) := by rw [wrap64 (by omega) (by omega)]; omega
  have ei : IntKind.wrap .i64 (((i + (j + 1) : Nat) : Int) - i) = ((j + 1 : Nat) : Int) := by rw [wrap64 (by omega) (by omega)]; omega
  have hd := run_digit (s.drop i) j hle
  rw [← digit_drop] at hd
  have hnl := num_le (s.drop i) j hle
  have hn9 : num ((runD (s.drop i)).take j) < 1000 := by
    have : 10 ^ j ≤ 10 ^ 3 := Nat.pow_le_pow_right (by decide) h3
    omega
  have hdle := digit_le s (i + j)
  have eh : IntKind.wrap .i64 (IntKind.wrap .i64 ((num ((runD (s.drop i)).take j) : Int) * 10) + ((digit s (i + j)).1 : Int)) = ((num ((runD (s.drop i)).take j) * 10 + (digit s (i + j)).1 : Nat) : Int) := by
    rw [wrap64 (n := (num ((runD (s.drop i)).take j) : Int) * 10) (by omega) (by omega), wrap64 (by omega) (by omega)]
    omega
  rw [f17_lp]
  simp only [en, ei, eh, Int.toNat_natCast]
  unfold hoursP at hK
  by_cases hlt : j < (runD (s.drop i)).length
  · rw [if_pos hlt] at hd
    refine brn_intro (fun _ => ?_) (fun h => by rw [hd] at h; cases h)
    refine brn_intro (fun h => ?_) (fun h => ?_)
    · have h' : ¬ (runD (s.drop i)).length ≤ 3 := by simp at h; omega
      rw [if_neg h'] at hK
      refine hexit _ _ (by simp) ?_
      exact Eq.mp (by kernel_rfl) hK
    · refine ⟨by omega, hnorm (j + 1) p17 _ ⟨by simp at h; omega, by omega⟩ (by omega) ?_⟩
      have e2 : num ((runD (s.drop i)).take (j + 1)) = num ((runD (s.drop i)).take j) * 10 + (digit s (i + j)).1 := by
        rw [num_succ _ _ hlt, hd]
      rw [e2]
      show _ = _
      kernel_rfl
  · rw [if_neg hlt] at hd
    have hj : j = (runD (s.drop i)).length := by omega
    refine brn_intro (fun h => by rw [hd] at h; cases h) (fun _ => ?_)
    refine hexit _ _ (by simp) ?_
    rw [if_pos (by omega), ← hj] at hK
    have e1 : num (runD (s.drop i)) = num ((runD (s.drop i)).take j) := by rw [hj, List.take_length]
    rw [e1] at hK
    have e2 : (decide (0 < j) && decide (num ((runD (s.drop i)).take j) ≤ 167)) = (decide (((i + j : Nat) : Int) > (i : Int)) && decide (((num ((runD (s.drop i)).take j) : Nat) : Int) ≤ 167)) := by
      rw [Bool.eq_iff_iff]
      simp only [Bool.and_eq_true, decide_eq_true_eq]
      omega
    rw [e2] at hK
    exact Eq.mp (by kernel_rfl) hK
theorem ok17 : ∀ args pres res, sHours args = some (pres, res) → SpecOK Tryd.prog G8 62 args pres res := by
  intro args pres res h
  unfold sHours at h
  split at h
  case h_2 => cases h
  cases h
  rename_i s n
  refine mk okE2 at17 (by decide) rfl (fun hp K hK => ?_)
  have h0 := hp _ (List.mem_cons_self ..)
  have h1 := hp _ (List.mem_cons_of_mem _ (List.mem_cons_self ..))
  have h2 := hp _ (List.mem_cons_of_mem _ (List.mem_cons_of_mem _ (List.mem_cons_self ..)))
  obtain ⟨i, rfl⟩ := nat_of h0
  simp only [Int.toNat_natCast] at hK
  exact f17_ev s i (by omega) h2 K hK
theorem okE3 : EOK Tryd.prog E3 G8 := addE_ok (addE_ok (addE_ok okE2 ok17) ok18) ok20
end B8
set_option maxRecDepth 100000
namespace B8
open Go Go.AE Go.Proofs
attribute [local irreducible] loopK evCode evSpec loopB norm
theorem off_le (s : List UInt8) : off s ≤ 1 := by
  unfold off
  split
  · split <;> omega
  · omega
theorem off_le_len (s : List UInt8) : off s ≤ s.length := by
  unfold off
  split
  · simp only [List.length_cons]; split <;> omega
  · omega
theorem sgn_eq {s : List UInt8} (h : 0 < s.length) : sgn s = if ((s.getD 0 0).toNat : Int) = 45 then -1 else 1 := by
  cases s with
  | nil => simp at h
  | cons b r =>
    simp only [sgn, List.getD_cons_zero]
    by_cases hb : b = 45
    · subst hb; rfl
    · rw [if_neg hb, if_neg]
      intro h2
      exact hb (UInt8.toNat_inj.1 (by show b.toNat = 45; omega))
theorem fieldsP_of (s : List UInt8) (i : Nat) (hi : i ≤ s.length) : (fieldR s i = -1 ∧ fieldsP s i = (0, (i : Int))) ∨
    (∃ m : Nat, m < 60 ∧ fieldR s i = m ∧ i + 3 ≤ s.length ∧ ((fieldR s (i + 3) = -1 ∧ fieldsP s i = (60 * (m : Int), ((i + 3 : Nat) : Int))) ∨
      ∃ c : Nat, c < 60 ∧ fieldR s (i + 3) = c ∧ i + 6 ≤ s.length ∧ fieldsP s i = (60 * (m : Int) + c, ((i + 6 : Nat) : Int)))) := by
  unfold fieldR fieldsP
  rcases field_spec s i with ⟨hf, _⟩ | ⟨m, hf, _, _, hm, hl⟩
  · left; rw [hf]; exact ⟨rfl, rfl⟩
  · right
    rw [hf]
    refine ⟨m, hm, rfl, hl, ?_⟩
    rcases field_spec s (i + 3) with ⟨hf2, _⟩ | ⟨c, hf2, _, _, hc, hl2⟩
    · left; rw [hf2]; exact ⟨rfl, rfl⟩
    · right; rw [hf2]; exact ⟨c, hc, rfl, by omega, rfl⟩
theorem hours_of (s : List UInt8) (i : Nat) : (hoursP s i = (0, 0, false) ∧ ¬ (runD (s.drop i)).length ≤ 3) ∨
    ((runD (s.drop i)).length ≤ 3 ∧ hoursP s i = ((num (runD (s.drop i)) : Int), ((i + (runD (s.drop i)).length : Nat) : Int), decide (0 < (runD (s.drop i)).length) && decide (num (runD (s.drop i)) ≤ 167))) := by
  unfold hoursP
  by_cases h : (runD (s.drop i)).length ≤ 3
  · rw [if_pos h]; exact Or.inr ⟨h, rfl⟩
  · rw [if_neg h]; exact Or.inl ⟨rfl, h⟩
def p10 : Plan := ⟨[], [true, false, true, true, true, true, true, true], []⟩
theorem w10' {h b : Int} (h0 : 0 ≤ h) (h1 : h < 10000) (h3 : 48 ≤ b) (h4 : b ≤ 57) : IntKind.wrap .i64 (IntKind.wrap .i64 (IntKind.wrap .i64 (10 * h) + IntKind.wrap .i64 b) - 48) = 10 * h + (b - 48) := by
  rw [wrap64 (n := b) (by omega) (by omega), wrap64 (n := 10 * h) (by omega) (by omega), wrap64 (n := 10 * h + b) (by omega) (by omega), wrap64 (by omega) (by omega)]
  omega
theorem tail10 (s : List UInt8) (i : Nat) (hi : i = off s) (hs : s.length ≤ 9223372036854775000) (K : List AV → Prop) (hK : K [i64 (parse s).1, i64 (parse s).2.1, bo (parse s).2.2])
    (h3 : (runD (s.drop i)).length ≤ 3) (h0 : 0 < (runD (s.drop i)).length) (h167 : num (runD (s.drop i)) ≤ 167) :
    K [i64 (sgn s * ((num (runD (s.drop i)) : Int) * 3600 + (fieldsP s (i + (runD (s.drop i)).length)).1)), i64 (fieldsP s (i + (runD (s.drop i)).length)).2, bo true] := by
  unfold parse at hK
  rw [← hi] at hK
  rcases hours_of s i with ⟨_, h⟩ | ⟨_, e⟩
  · exact absurd h3 h
  · have e2 : (hoursP s i).2.2 = true := by rw [e]; simp [h0, h167]
    rw [if_pos e2] at hK
    rw [e] at hK
    simpa only [Int.toNat_natCast] using hK
theorem f10_loop (s : List UInt8) (hs : s.length ≤ 9223372036854775000) (i : Nat) (hi : i = off s) (st0 : St) (hn0 : norm p10 st0 = some (h10 s i 0 0)) (K : List AV → Prop) (hK : K [i64 (parse s).1, i64 (parse s).2.1, bo (parse s).2.2]) :
    LoopI C3 (bodyOf Tryd.f44) 0 st0 (finK C3 Tryd.f44 K) := by
  have hi1 : i ≤ 1 := by rw [hi]; exact off_le s
  have hil : i ≤ s.length := by rw [hi]; exact off_le_len s
  have hrl := run_le (s.drop i)
  have hdl : (s.drop i).length = s.length - i := List.length_drop
  unfold LoopI
  refine loop_rule (fun j : Nat => h10 s i (j : Int) (num ((runD (s.drop i)).take (min j 4)))) (fun j => j ≤ (runD (s.drop i)).length) (fun j => (runD (s.drop i)).length - j)
    (fun j hP K' hnorm hexit => ?_) rfl 0 p10 _ (by omega) (hn0.trans (by kernel_rfl))
  have en : IntKind.wrap .i64 ((i : Int) + (j : Int)) = ((i + j : Nat) : Int) := by rw [wrap64 (by omega) (by omega)]; omega
  have ej : IntKind.wrap .i64 ((j : Int) + 1) = ((j + 1 : Nat) : Int) := by rw [wrap64 (by omega) (by omega)]; omega
  have hd := run_digit (s.drop i) j hP
  rw [← digit_drop] at hd
  rw [f10_lp]
  simp only [en, ej]
  refine ⟨by omega, ?_⟩
  by_cases hlt : j < (runD (s.drop i)).length
  · rw [if_pos hlt] at hd
    refine brn_intro (fun _ => ?_) (fun h => by rw [Int.toNat_natCast, hd] at h; cases h)
    have hbd : isD (s.getD (i + j) 0) = true ∧ dv (s.getD (i + j) 0) = (digit s (i + j)).1 := by
      have h2 := digit_eq s (i + j)
      rw [hd] at h2
      rw [hd]
      by_cases a1 : i + j < s.length
      · rw [if_pos a1] at h2
        by_cases a2 : isD (s.getD (i + j) 0) = true
        · rw [if_pos a2] at h2; exact ⟨a2, (congrArg Prod.fst h2).symm⟩
        · rw [if_neg a2] at h2; cases (congrArg Prod.snd h2)
      · rw [if_neg a1] at h2; cases (congrArg Prod.snd h2)
    have hb := (isD_iff _).1 hbd.1
    refine brn_intro (fun h4 => ?_) (fun h4 => ?_)
    · have hj4 : j < 4 := by simp only [decide_eq_true_eq] at h4; omega
      have hm : min j 4 = j := by omega
      have hm1 : min (j + 1) 4 = j + 1 := by omega
      have hnl := num_le (s.drop i) j hP
      have hn9 : num ((runD (s.drop i)).take j) < 1000 := by
        have : 10 ^ j ≤ 10 ^ 3 := Nat.pow_le_pow_right (by decide) (by omega)
        omega
      refine ⟨by omega, by omega, hnorm (j + 1) p10 _ (by omega) (by omega) ?_⟩
      have e2 : (num ((runD (s.drop i)).take (min (j + 1) 4)) : Int) = 10 * (num ((runD (s.drop i)).take (min j 4)) : Int) + (((s.getD (i + j) 0).toNat : Int) - 48) := by
        rw [hm, hm1, num_succ _ _ hlt]
        have : dv ((runD (s.drop i)).getD j 0) = dv (s.getD (i + j) 0) := by rw [hbd.2, hd]
        rw [this]
        unfold dv
        omega
      have e3 := w10' (h := (num ((runD (s.drop i)).take (min j 4)) : Int)) (b := ((s.getD (i + j) 0).toNat : Int)) (by omega) (by rw [hm]; omega) (by omega) (by omega)
      rw [e2, ← e3]
      show _ = _
      kernel_rfl
    · have hj4 : ¬ j < 4 := by simp only [decide_eq_false_iff_not] at h4; omega
      have hm : min (j + 1) 4 = min j 4 := by omega
      refine hnorm (j + 1) p10 _ (by omega) (by omega) ?_
      rw [hm]
      show _ = _
      kernel_rfl
  · rw [if_neg hlt] at hd
    have hj : j = (runD (s.drop i)).length := by omega
    refine brn_intro (fun h => by rw [Int.toNat_natCast, hd] at h; cases h) (fun _ => ?_)
    refine hexit _ _ (by simp) ?_
    rw [← en]
    refine Eq.mpr (f10_out s (i : Int) (j : Int) (num ((runD (s.drop i)).take (min j 4))) K) ?_
    simp only [en, Int.toNat_natCast]
    refine brn_intro (fun h => ?_) (fun h => ?_)
    · have hf : parse s = (0, 0, false) := by
        unfold parse
        rw [← hi]
        rcases hours_of s i with ⟨e, _⟩ | ⟨h3, e⟩
        · rw [e]; rfl
        · have : (hoursP s i).2.2 = false := by
            rw [e]
            have hm : min j 4 = j := by omega
            rw [hm, hj, List.take_length] at h
            simp only [Bool.or_eq_true, decide_eq_true_eq] at h
            simp only [Bool.and_eq_false_iff, decide_eq_false_iff_not]
            omega
          rw [if_neg (by rw [this]; simp)]
      rw [hf] at hK
      exact hK
    · simp only [Bool.or_eq_false_iff, decide_eq_false_iff_not] at h
      have hm : min j 4 = j := by omega
      rw [hm, hj, List.take_length] at h
      have ht : num ((runD (s.drop i)).take (min j 4)) = num (runD (s.drop i)) := by rw [hm, hj, List.take_length]
      rw [ht]
      have hK' := tail10 s i hi hs K hK (by omega) (by omega) (by omega)
      rw [← hj] at hK'
      have hlen : i + j ≤ s.length := by omega
      have hpos : 0 < s.length := by omega
      rw [sgn_eq hpos] at hK'
      have h167 : num (runD (s.drop i)) ≤ 167 := by omega
      generalize num (runD (s.drop i)) = hh at h167 hK'
      have w1 : IntKind.wrap .i64 ((hh : Int) * 3600) = (hh : Int) * 3600 := wrap64 (by omega) (by omega)
      have e3 : IntKind.wrap .i64 (((i + j : Nat) : Int) + 3) = ((i + j + 3 : Nat) : Int) := by rw [wrap64 (by omega) (by omega)]; omega
      simp only [w1, e3, Int.toNat_natCast]
      refine ⟨by omega, by omega, by show (s.length : Int) ≤ 9223372036854775000; omega, ?_⟩
      have sg : ∀ (b : Int) (X Y : Prop), (b = 45 → X) → (b ≠ 45 → Y) → brn (b == 45) X Y := fun b X Y hx hy => brn_intro (fun h => hx (by simpa using h)) (fun h => hy (by simpa using h))
      rcases fieldsP_of s (i + j) hlen with ⟨q1, q2⟩ | ⟨m, m60, q1, q0, q2⟩
      · rw [q1]
        rw [q2] at hK'
        refine brn_intro (fun h => by simp at h) (fun _ => ⟨by omega, by omega, sg _ _ _ (fun hb => ?_) (fun hb => ?_)⟩)
        · rw [if_pos (by simpa using hb)] at hK'
          have : IntKind.wrap .i64 (0 - (hh : Int) * 3600) = -1 * ((hh : Int) * 3600 + 0) := by rw [wrap64 (by omega) (by omega)]; omega
          rw [this]; exact hK'
        · rw [if_neg (by simpa using hb)] at hK'
          have : (hh : Int) * 3600 = 1 * ((hh : Int) * 3600 + 0) := by omega
          rw [this]; exact hK'
      · rw [q1]
        have w2 : IntKind.wrap .i64 (60 * (m : Int)) = 60 * (m : Int) := wrap64 (by omega) (by omega)
        have w3 : IntKind.wrap .i64 ((hh : Int) * 3600 + 60 * (m : Int)) = (hh : Int) * 3600 + 60 * (m : Int) := wrap64 (by omega) (by omega)
        simp only [w2, w3]
        refine brn_intro (fun _ => ⟨by omega, by omega, by show (s.length : Int) ≤ 9223372036854775000; omega, ?_⟩) (fun h => by simp at h)
        rcases q2 with ⟨q3, q4⟩ | ⟨c, c60, q3, q5, q4⟩
        · rw [q3]
          rw [q4] at hK'
          refine brn_intro (fun h => by simp at h) (fun _ => ⟨by omega, by omega, sg _ _ _ (fun hb => ?_) (fun hb => ?_)⟩)
          · rw [if_pos (by simpa using hb)] at hK'
            have : IntKind.wrap .i64 (0 - ((hh : Int) * 3600 + 60 * (m : Int))) = -1 * ((hh : Int) * 3600 + 60 * (m : Int)) := by rw [wrap64 (by omega) (by omega)]; omega
            rw [this]; exact hK'
          · rw [if_neg (by simpa using hb)] at hK'
            have : (hh : Int) * 3600 + 60 * (m : Int) = 1 * ((hh : Int) * 3600 + 60 * (m : Int)) := by omega
            rw [this]; exact hK'
        · rw [q3]
          rw [q4] at hK'
          have w4 : IntKind.wrap .i64 ((hh : Int) * 3600 + 60 * (m : Int) + (c : Int)) = (hh : Int) * 3600 + 60 * (m : Int) + (c : Int) := wrap64 (by omega) (by omega)
          have e6 : IntKind.wrap .i64 (((i + j + 3 : Nat) : Int) + 3) = ((i + j + 6 : Nat) : Int) := by rw [wrap64 (by omega) (by omega)]; omega
          simp only [w4, e6]
          refine brn_intro (fun _ => ⟨by omega, by omega, sg _ _ _ (fun hb => ?_) (fun hb => ?_)⟩) (fun h => by simp at h)
          · rw [if_pos (by simpa using hb)] at hK'
            have : IntKind.wrap .i64 (0 - ((hh : Int) * 3600 + 60 * (m : Int) + (c : Int))) = -1 * ((hh : Int) * 3600 + (60 * (m : Int) + c)) := by rw [wrap64 (by omega) (by omega)]; omega
            rw [this]; exact hK'
          · rw [if_neg (by simpa using hb)] at hK'
            have : (hh : Int) * 3600 + 60 * (m : Int) + (c : Int) = 1 * ((hh : Int) * 3600 + (60 * (m : Int) + c)) := by omega
            rw [this]; exact hK'
end B8
set_option maxRecDepth 100000
namespace B8
open Go Go.AE Go.Proofs
attribute [local irreducible] loopK evCode evSpec loopB norm
theorem ok10 : ∀ args pres res, sParse args = some (pres, res) → SpecOK Tryd.prog G8 44 args pres res := by
  intro args pres res h
  unfold sParse at h
  split at h
  case h_2 => cases h
  cases h
  rename_i s
  refine mk okE3 at10 (by decide) rfl (fun hp K hK => ?_)
  have h0 := hp _ (List.mem_cons_self ..)
  unfold big at h0
  have hs : s.length ≤ 9223372036854775000 := by omega
  rw [show cx E3 = C3 from rfl, f10_in]
  refine ⟨fun h => by omega, fun h => by simpa using h, fun _ _ => by omega, fun h _ => by simpa using h, brn_intro (fun h => ?_) (fun h => ?_)⟩
  · refine f10_loop s hs 1 ?_ _ (by kernel_rfl) K hK
    cases s with
    | nil => simp at h
    | cons b r =>
      simp only [off]
      simp only [List.getD_cons_zero, Bool.and_eq_true, Bool.or_eq_true, beq_iff_eq, Int.toNat_zero] at h
      rw [if_pos]
      rcases h.2 with h | h
      · exact Or.inr (UInt8.toNat_inj.1 (by show b.toNat = 43; omega))
      · exact Or.inl (UInt8.toNat_inj.1 (by show b.toNat = 45; omega))
  · refine f10_loop s hs 0 ?_ _ (by kernel_rfl) K hK
    cases s with
    | nil => rfl
    | cons b r =>
      simp only [off]
      rw [if_neg]
      intro hb
      have : (decide (((b :: r).length : Int) > 0) && (((b.toNat : Int) == 43) || ((b.toNat : Int) == 45))) = true := by
        rcases hb with rfl | rfl <;> simp <;> omega
      have h' : (decide (((b :: r).length : Int) > 0) && (((b.toNat : Int) == 43) || ((b.toNat : Int) == 45))) = false := h
      rw [this] at h'
      cases h'
theorem pfx1 (s : List UInt8) (c : UInt8) : pfx s [c] = true ↔ ∃ r, s = c :: r := by
  unfold pfx
  cases s with
  | nil => simp
  | cons b r =>
    simp only [List.isPrefixOf_cons₂, List.isPrefixOf_nil_left, Bool.and_true, beq_iff_eq, List.cons.injEq, exists_eq_right']
    exact eq_comm
theorem hours_le (s : List UInt8) (i : Nat) (hi : i ≤ s.length) (h : (hoursP s i).2.2 = true) : ∃ n : Nat, (hoursP s i).2.1 = (n : Int) ∧ n ≤ s.length ∧ i < n ∧ 0 ≤ (hoursP s i).1 ∧ (hoursP s i).1 ≤ 167 := by
  have hrl := run_le (s.drop i)
  have hdl : (s.drop i).length = s.length - i := List.length_drop
  rcases hours_of s i with ⟨e, _⟩ | ⟨h3, e⟩
  · rw [e] at h; cases h
  · rw [e] at h ⊢
    simp only [Bool.and_eq_true, decide_eq_true_eq] at h
    exact ⟨i + (runD (s.drop i)).length, rfl, by omega, by omega, by show (0 : Int) ≤ _; omega, by show (_ : Int) ≤ 167; omega⟩
theorem fields_b (s : List UInt8) (i : Nat) (hi : i ≤ s.length) : 0 ≤ (fieldsP s i).1 ∧ (fieldsP s i).1 < 3600 ∧ ∃ n : Nat, (fieldsP s i).2 = (n : Int) ∧ i ≤ n ∧ n ≤ s.length := by
  rcases fieldsP_of s i hi with ⟨_, e⟩ | ⟨m, hm, _, hl, ⟨_, e⟩ | ⟨c, hc, _, hl2, e⟩⟩
  · rw [e]; exact ⟨by show (0 : Int) ≤ 0; omega, by show (0 : Int) < 3600; omega, i, rfl, by omega, hi⟩
  · rw [e]; exact ⟨by show (0 : Int) ≤ _; omega, by show (_ : Int) < 3600; omega, i + 3, rfl, by omega, hl⟩
  · rw [e]; exact ⟨by show (0 : Int) ≤ _; omega, by show (_ : Int) < 3600; omega, i + 6, rfl, by omega, hl2⟩
theorem f9_tail (s : List UInt8) (hs : (s.length : Int) ≤ big) (g : Int) (i : Nat) (hi : i = off s) (hg : g = sgn s) (K : List AV → Prop) (hK : K [i64 (parse s).1, i64 (parse s).2.1, bo (parse s).2.2]) :
    brn (!(hoursP s i).2.2) (K [i64 0, i64 0, bo false])
      ((0 : Int) ≤ (hoursP s i).2.1 ∧ (hoursP s i).2.1 ≤ (s.length : Int) ∧ (s.length : Int) ≤ big ∧
        K [i64 (IntKind.wrap .i64 (g * IntKind.wrap .i64 (IntKind.wrap .i64 ((hoursP s i).1 * 3600) + (fieldsP s (hoursP s i).2.1.toNat).1))), i64 (fieldsP s (hoursP s i).2.1.toNat).2, bo true]) := by
  subst hi
  have hil := off_le_len s
  unfold parse at hK
  refine brn_intro (fun h => ?_) (fun h => ?_)
  · have h' : (hoursP s (off s)).2.2 = false := by simpa using h
    rw [if_neg (by rw [h']; simp)] at hK
    exact hK
  · have h' : (hoursP s (off s)).2.2 = true := by simpa using h
    rw [if_pos h'] at hK
    obtain ⟨n, e, hn, hin, b0, b1⟩ := hours_le s (off s) hil h'
    obtain ⟨c0, c1, _⟩ := fields_b s n hn
    rw [e, Int.toNat_natCast] at hK ⊢
    refine ⟨by omega, by omega, hs, ?_⟩
    have w : IntKind.wrap .i64 (g * IntKind.wrap .i64 (IntKind.wrap .i64 ((hoursP s (off s)).1 * 3600) + (fieldsP s n).1)) = sgn s * ((hoursP s (off s)).1 * 3600 + (fieldsP s n).1) := by
      rw [wrap64 (n := (hoursP s (off s)).1 * 3600) (by omega) (by omega), wrap64 (n := (hoursP s (off s)).1 * 3600 + (fieldsP s n).1) (by omega) (by omega), hg]
      have : sgn s = 1 ∨ sgn s = -1 := by
        unfold sgn
        split
        · split
          · exact Or.inr rfl
          · exact Or.inl rfl
        · exact Or.inl rfl
      rcases this with h | h <;> rw [h] <;> rw [wrap64 (by omega) (by omega)]
    rw [w]
    exact hK
theorem ok9 : ∀ args pres res, sParse args = some (pres, res) → SpecOK Tryd.prog G8 40 args pres res := by
  intro args pres res h
  unfold sParse at h
  split at h
  case h_2 => cases h
  cases h
  rename_i s
  refine mk okE3 at9 (by decide) rfl (fun hp K hK => ?_)
  have h0 := hp _ (List.mem_cons_self ..)
  rw [show cx E3 = C3 from rfl, f9_in]
  refine brn_intro (fun h => ?_) (fun h => ?_)
  · have hc : ∃ c r, s = c :: r ∧ (c = 45 ∨ c = 43) := by
      rw [Bool.or_eq_true, pfx1, pfx1] at h
      rcases h with ⟨r, rfl⟩ | ⟨r, rfl⟩
      · exact ⟨_, _, rfl, Or.inl rfl⟩
      · exact ⟨_, _, rfl, Or.inr rfl⟩
    obtain ⟨c, r, rfl, hc⟩ := hc
    have ho : off (c :: r) = 1 := by simp only [off]; rw [if_pos hc]
    refine ⟨by omega, by simp, brn_intro (fun hb => ?_) (fun hb => ?_)⟩
    · have : c = 45 := by
        have : (c.toNat : Int) = 45 := by simpa using hb
        exact UInt8.toNat_inj.1 (by show c.toNat = 45; omega)
      subst this
      exact ⟨by decide, by decide, h0, f9_tail _ h0 (-1) 1 ho.symm rfl K hK⟩
    · have : c ≠ 45 := by rintro rfl; simp at hb
      have hg : sgn (c :: r) = 1 := by simp only [sgn]; rw [if_neg this]
      exact ⟨by decide, by decide, h0, f9_tail _ h0 1 1 ho.symm hg.symm K hK⟩
  · have hx : off s = 0 ∧ sgn s = 1 := by
      rw [Bool.or_eq_false_iff] at h
      cases s with
      | nil => exact ⟨rfl, rfl⟩
      | cons c r =>
        have h1 : c ≠ 45 := by rintro rfl; simp [pfx] at h
        have h2 : c ≠ 43 := by rintro rfl; simp [pfx] at h
        simp only [off, sgn]
        rw [if_neg (by simp [h1, h2]), if_neg h1]
        exact ⟨rfl, rfl⟩
    exact ⟨by decide, by decide, h0, f9_tail _ h0 1 0 hx.1.symm hx.2.symm K hK⟩
theorem two_len (n : Nat) : (two n).length = 3 := rfl
theorem dd_len (n : Nat) : 1 ≤ (dd n).length ∧ (dd n).length ≤ 3 := by unfold dd; split <;> (try split) <;> simp
end B8
set_option maxRecDepth 100000
namespace B8
open Go Go.AE Go.Proofs
attribute [local irreducible] loopK evCode evSpec loopB norm
theorem f14_b (n : Int) (t : Nat → AV) (k : AX → St → Prop) : evCode C3 (c14 [Dir.r, Dir.r, Dir.l]) (S14 n [] AV.dead t) k = (brn (decide (n < 0)) (k AX.normal (St.mk [.imm (.int .i64 (IntKind.wrap .i64 ((0 : Int) - n))), .dead, .imm (.str []), .imm (.str [(45 : UInt8)]), .dead, .imm (.int .i64 n), .imm (.bool (decide (n < 0))), .imm (.int .i64 n), .imm (.int .i64 (IntKind.wrap .i64 ((0 : Int) - n))), t 9, t 10, t 11, t 12, t 13, t 14, t 15, t 16, t 17, t 18, t 19, t 20, t 21, t 22, t 23, t 24, t 25, t 26, t 27, t 28, t 29, t 30, t 31, t 32, t 33, t 34, t 35, t 36, t 37, t 38, t 39, t 40, t 41, t 42, t 43, t 44, t 45, t 46, t 47, t 48, t 49, t 50, t 51, t 52, t 53] [] (0 : Nat) [])) (k AX.normal (St.mk [.imm (.int .i64 n), .dead, .imm (.str []), .imm (.str []), .dead, .imm (.int .i64 n), .imm (.bool (decide (n < 0))), t 7, t 8, t 9, t 10, t 11, t 12, t 13, t 14, t 15, t 16, t 17, t 18, t 19, t 20, t 21, t 22, t 23, t 24, t 25, t 26, t 27, t 28, t 29, t 30, t 31, t 32, t 33, t 34, t 35, t 36, t 37, t 38, t 39, t 40, t 41, t 42, t 43, t 44, t 45, t 46, t 47, t 48, t 49, t 50, t 51, t 52, t 53] [] (0 : Nat) []))) := by kernel_rfl
theorem f14_a (n : Int) (s : List UInt8) (t : Nat → AV) (k : AX → St → Prop) : evCode C3 a14 (S14 n s AV.dead t) k = ((3600 : Int) ≠ 0 ∧ brn (decide (IntKind.wrap .i64 (Int.tdiv n (3600 : Int)) ≥ 100)) (s.length + List.length [(49 : UInt8)] ≤ 9223372036854775807 ∧ brn (decide (IntKind.wrap .i64 (Int.tdiv n (3600 : Int)) ≥ 10)) ((10 : Int) ≠ 0 ∧ (10 : Int) ≠ 0 ∧ (s ++ [(49 : UInt8)]).length + (List.map u8 [IntKind.wrap IntKind.u8 (IntKind.wrap .i64 ((48 : Int) + Int.tmod (IntKind.wrap .i64 (Int.tdiv (IntKind.wrap .i64 (Int.tdiv n (3600 : Int))) (10 : Int))) (10 : Int)))]).length ≤ 9223372036854775807 ∧ (10 : Int) ≠ 0 ∧ (s ++ [(49 : UInt8)] ++ List.map u8 [IntKind.wrap IntKind.u8 (IntKind.wrap .i64 ((48 : Int) + Int.tmod (IntKind.wrap .i64 (Int.tdiv (IntKind.wrap .i64 (Int.tdiv n (3600 : Int))) (10 : Int))) (10 : Int)))]).length + (List.map u8 [IntKind.wrap IntKind.u8 (IntKind.wrap .i64 ((48 : Int) + Int.tmod (IntKind.wrap .i64 (Int.tdiv n (3600 : Int))) (10 : Int)))]).length ≤ 9223372036854775807 ∧ k AX.normal (St.mk [.imm (.int .i64 n), .dead, .imm (.str []), .imm (.str (s ++ [(49 : UInt8)] ++ List.map u8 [IntKind.wrap IntKind.u8 (IntKind.wrap .i64 ((48 : Int) + Int.tmod
 (IntKind.wrap .i64 (Int.tdiv (IntKind.wrap .i64 (Int.tdiv n (3600 : Int))) (10 : Int))) (10 : Int)))] ++ List.map u8 [IntKind.wrap IntKind.u8 (IntKind.wrap .i64 ((48 : Int) + Int.tmod (IntKind.wrap .i64 (Int.tdiv n (3600 : Int))) (10 : Int)))])), .imm (.int .i64 (IntKind.wrap .i64 (Int.tdiv n (3600 : Int)))), t 5, t 6, t 7, t 8, .imm (.int .i64 n), .imm (.int .i64 (IntKind.wrap .i64 (Int.tdiv n (3600 : Int)))), .imm (.int .i64 (IntKind.wrap .i64 (Int.tdiv n (3600 : Int)))), .imm (.bool (decide (IntKind.wrap .i64 (Int.tdiv n (3600 : Int)) ≥ 100))), .imm (.str s), .imm (.str (s ++ [(49 : UInt8)])), .imm (.int .i64 (IntKind.wrap .i64 (Int.tdiv n (3600 : Int)))), .imm (.bool (decide (IntKind.wrap .i64 (Int.tdiv n (3600 : Int)) ≥ 10))), .imm (.str (s ++ [(49 : UInt8)])), .imm (.int .i64 (IntKind.wrap .i64 (Int.tdiv n (3600 : Int)))), .imm (.int .i64 (IntKind.wrap .i64 (Int.tdiv (IntKind.wrap .i64 (Int.tdiv n (3600 : Int))) (10 : Int)))), .imm (.int .i64 (Int.tmod (IntKind.wrap .i64 (Int.tdiv (IntKind.wrap .i64 (Int.tdiv n (3600 : Int))) (10 : Int))) (10 : Int))), .imm (.int .i64 (IntKind.wrap .i64 ((48 : Int) + Int.tmod (IntKind.wrap .i64 (Int.tdiv (IntKind.wrap .i64 (Int.tdiv n (3600 :
 Int))) (10 : Int))) (10 : Int)))), .imm (.int .u8 (IntKind.wrap IntKind.u8 (IntKind.wrap .i64 ((48 : Int) + Int.tmod (IntKind.wrap .i64 (Int.tdiv (IntKind.wrap .i64 (Int.tdiv n (3600 : Int))) (10 : Int))) (10 : Int))))), .full (IV.bytes (List.map u8 [IntKind.wrap IntKind.u8 (IntKind.wrap .i64 ((48 : Int) + Int.tmod (IntKind.wrap .i64 (Int.tdiv (IntKind.wrap .i64 (Int.tdiv n (3600 : Int))) (10 : Int))) (10 : Int)))])), .imm (.str (List.map u8 [IntKind.wrap IntKind.u8 (IntKind.wrap .i64 ((48 : Int) + Int.tmod (IntKind.wrap .i64 (Int.tdiv (IntKind.wrap .i64 (Int.tdiv n (3600 : Int))) (10 : Int))) (10 : Int)))])), .imm (.str (s ++ [(49 : UInt8)] ++ List.map u8 [IntKind.wrap IntKind.u8 (IntKind.wrap .i64 ((48 : Int) + Int.tmod (IntKind.wrap .i64 (Int.tdiv (IntKind.wrap .i64 (Int.tdiv n (3600 : Int))) (10 : Int))) (10 : Int)))])), .imm (.str (s ++ [(49 : UInt8)] ++ List.map u8 [IntKind.wrap IntKind.u8 (IntKind.wrap .i64 ((48 : Int) + Int.tmod (IntKind.wrap .i64 (Int.tdiv (IntKind.wrap .i64 (Int.tdiv n (3600 : Int))) (10 : Int))) (10 : Int)))])), .imm (.int .i64 (IntKind.wrap .i64 (Int.tdiv n (3600 : Int)))), .imm (.int .i64 (Int.tmod (IntKind.wrap .i64 (Int.tdiv n (3600 : Int))) (10 :
 Int))), .imm (.int .i64 (IntKind.wrap .i64 ((48 : Int) + Int.tmod (IntKind.wrap .i64 (Int.tdiv n (3600 : Int))) (10 : Int)))), .imm (.int .u8 (IntKind.wrap IntKind.u8 (IntKind.wrap .i64 ((48 : Int) + Int.tmod (IntKind.wrap .i64 (Int.tdiv n (3600 : Int))) (10 : Int))))), .full (IV.bytes (List.map u8 [IntKind.wrap IntKind.u8 (IntKind.wrap .i64 ((48 : Int) + Int.tmod (IntKind.wrap .i64 (Int.tdiv n (3600 : Int))) (10 : Int)))])), .imm (.str (List.map u8 [IntKind.wrap IntKind.u8 (IntKind.wrap .i64 ((48 : Int) + Int.tmod (IntKind.wrap .i64 (Int.tdiv n (3600 : Int))) (10 : Int)))])), .imm (.str (s ++ [(49 : UInt8)] ++ List.map u8 [IntKind.wrap IntKind.u8 (IntKind.wrap .i64 ((48 : Int) + Int.tmod (IntKind.wrap .i64 (Int.tdiv (IntKind.wrap .i64 (Int.tdiv n (3600 : Int))) (10 : Int))) (10 : Int)))] ++ List.map u8 [IntKind.wrap IntKind.u8 (IntKind.wrap .i64 ((48 : Int) + Int.tmod (IntKind.wrap .i64 (Int.tdiv n (3600 : Int))) (10 : Int)))])), t 34, t 35, t 36, t 37, t 38, t 39, t 40, t 41, t 42, t 43, t 44, t 45, t 46, t 47, t 48, t 49, t 50, t 51, t 52, t 53] [] (0 : Nat) [])) ((10 : Int) ≠ 0 ∧ (s ++ [(49 : UInt8)]).length + (List.map u8 [IntKind.wrap IntKind.u8 (IntKind.wrap .i64 ((48 : Int)
 + Int.tmod (IntKind.wrap .i64 (Int.tdiv n (3600 : Int))) (10 : Int)))]).length ≤ 9223372036854775807 ∧ k AX.normal (St.mk [.imm (.int .i64 n), .dead, .imm (.str []), .imm (.str (s ++ [(49 : UInt8)] ++ List.map u8 [IntKind.wrap IntKind.u8 (IntKind.wrap .i64 ((48 : Int) + Int.tmod (IntKind.wrap .i64 (Int.tdiv n (3600 : Int))) (10 : Int)))])), .imm (.int .i64 (IntKind.wrap .i64 (Int.tdiv n (3600 : Int)))), t 5, t 6, t 7, t 8, .imm (.int .i64 n), .imm (.int .i64 (IntKind.wrap .i64 (Int.tdiv n (3600 : Int)))), .imm (.int .i64 (IntKind.wrap .i64 (Int.tdiv n (3600 : Int)))), .imm (.bool (decide (IntKind.wrap .i64 (Int.tdiv n (3600 : Int)) ≥ 100))), .imm (.str s), .imm (.str (s ++ [(49 : UInt8)])), .imm (.int .i64 (IntKind.wrap .i64 (Int.tdiv n (3600 : Int)))), .imm (.bool (decide (IntKind.wrap .i64 (Int.tdiv n (3600 : Int)) ≥ 10))), t 17, t 18, t 19, t 20, t 21, t 22, t 23, t 24, t 25, .imm (.str (s ++ [(49 : UInt8)])), .imm (.int .i64 (IntKind.wrap .i64 (Int.tdiv n (3600 : Int)))), .imm (.int .i64 (Int.tmod (IntKind.wrap .i64 (Int.tdiv n (3600 : Int))) (10 : Int))), .imm (.int .i64 (IntKind.wrap .i64 ((48 : Int) + Int.tmod (IntKind.wrap .i64 (Int.tdiv n (3600 : Int))) (10 : Int)))), .imm
 (.int .u8 (IntKind.wrap IntKind.u8 (IntKind.wrap .i64 ((48 : Int) + Int.tmod (IntKind.wrap .i64 (Int.tdiv n (3600 : Int))) (10 : Int))))), .full (IV.bytes (List.map u8 [IntKind.wrap IntKind.u8 (IntKind.wrap .i64 ((48 : Int) + Int.tmod (IntKind.wrap .i64 (Int.tdiv n (3600 : Int))) (10 : Int)))])), .imm (.str (List.map u8 [IntKind.wrap IntKind.u8 (IntKind.wrap .i64 ((48 : Int) + Int.tmod (IntKind.wrap .i64 (Int.tdiv n (3600 : Int))) (10 : Int)))])), .imm (.str (s ++ [(49 : UInt8)] ++ List.map u8 [IntKind.wrap IntKind.u8 (IntKind.wrap .i64 ((48 : Int) + Int.tmod (IntKind.wrap .i64 (Int.tdiv n (3600 : Int))) (10 : Int)))])), t 34, t 35, t 36, t 37, t 38, t 39, t 40, t 41, t 42, t 43, t 44, t 45, t 46, t 47, t 48, t 49, t 50, t 51, t 52, t 53] [] (0 : Nat) []))) (brn (decide (IntKind.wrap .i64 (Int.tdiv n (3600 : Int)) ≥ 10)) ((10 : Int) ≠ 0 ∧ (10 : Int) ≠ 0 ∧ s.length + (List.map u8 [IntKind.wrap IntKind.u8 (IntKind.wrap .i64 ((48 : Int) + Int.tmod (IntKind.wrap .i64 (Int.tdiv (IntKind.wrap .i64 (Int.tdiv n (3600 : Int))) (10 : Int))) (10 : Int)))]).length ≤ 9223372036854775807 ∧ (10 : Int) ≠ 0 ∧ (s ++ List.map u8 [IntKind.wrap IntKind.u8 (IntKind.wrap .i64 ((48 : Int) + Int.tmod
 (IntKind.wrap .i64 (Int.tdiv (IntKind.wrap .i64 (Int.tdiv n (3600 : Int))) (10 : Int))) (10 : Int)))]).length + (List.map u8 [IntKind.wrap IntKind.u8 (IntKind.wrap .i64 ((48 : Int) + Int.tmod (IntKind.wrap .i64 (Int.tdiv n (3600 : Int))) (10 : Int)))]).length ≤ 9223372036854775807 ∧ k AX.normal (St.mk [.imm (.int .i64 n), .dead, .imm (.str []), .imm (.str (s ++ List.map u8 [IntKind.wrap IntKind.u8 (IntKind.wrap .i64 ((48 : Int) + Int.tmod (IntKind.wrap .i64 (Int.tdiv (IntKind.wrap .i64 (Int.tdiv n (3600 : Int))) (10 : Int))) (10 : Int)))] ++ List.map u8 [IntKind.wrap IntKind.u8 (IntKind.wrap .i64 ((48 : Int) + Int.tmod (IntKind.wrap .i64 (Int.tdiv n (3600 : Int))) (10 : Int)))])), .imm (.int .i64 (IntKind.wrap .i64 (Int.tdiv n (3600 : Int)))), t 5, t 6, t 7, t 8, .imm (.int .i64 n), .imm (.int .i64 (IntKind.wrap .i64 (Int.tdiv n (3600 : Int)))), .imm (.int .i64 (IntKind.wrap .i64 (Int.tdiv n (3600 : Int)))), .imm (.bool (decide (IntKind.wrap .i64 (Int.tdiv n (3600 : Int)) ≥ 100))), t 13, t 14, .imm (.int .i64 (IntKind.wrap .i64 (Int.tdiv n (3600 : Int)))), .imm (.bool (decide (IntKind.wrap .i64 (Int.tdiv n (3600 : Int)) ≥ 10))), .imm (.str s), .imm (.int .i64 (IntKind.wrap .i64
 (Int.tdiv n (3600 : Int)))), .imm (.int .i64 (IntKind.wrap .i64 (Int.tdiv (IntKind.wrap .i64 (Int.tdiv n (3600 : Int))) (10 : Int)))), .imm (.int .i64 (Int.tmod (IntKind.wrap .i64 (Int.tdiv (IntKind.wrap .i64 (Int.tdiv n (3600 : Int))) (10 : Int))) (10 : Int))), .imm (.int .i64 (IntKind.wrap .i64 ((48 : Int) + Int.tmod (IntKind.wrap .i64 (Int.tdiv (IntKind.wrap .i64 (Int.tdiv n (3600 : Int))) (10 : Int))) (10 : Int)))), .imm (.int .u8 (IntKind.wrap IntKind.u8 (IntKind.wrap .i64 ((48 : Int) + Int.tmod (IntKind.wrap .i64 (Int.tdiv (IntKind.wrap .i64 (Int.tdiv n (3600 : Int))) (10 : Int))) (10 : Int))))), .full (IV.bytes (List.map u8 [IntKind.wrap IntKind.u8 (IntKind.wrap .i64 ((48 : Int) + Int.tmod (IntKind.wrap .i64 (Int.tdiv (IntKind.wrap .i64 (Int.tdiv n (3600 : Int))) (10 : Int))) (10 : Int)))])), .imm (.str (List.map u8 [IntKind.wrap IntKind.u8 (IntKind.wrap .i64 ((48 : Int) + Int.tmod (IntKind.wrap .i64 (Int.tdiv (IntKind.wrap .i64 (Int.tdiv n (3600 : Int))) (10 : Int))) (10 : Int)))])), .imm (.str (s ++ List.map u8 [IntKind.wrap IntKind.u8 (IntKind.wrap .i64 ((48 : Int) + Int.tmod (IntKind.wrap .i64 (Int.tdiv (IntKind.wrap .i64 (Int.tdiv n (3600 : Int))) (10 : Int))) (10 :
 Int)))])), .imm (.str (s ++ List.map u8 [IntKind.wrap IntKind.u8 (IntKind.wrap .i64 ((48 : Int) + Int.tmod (IntKind.wrap .i64 (Int.tdiv (IntKind.wrap .i64 (Int.tdiv n (3600 : Int))) (10 : Int))) (10 : Int)))])), .imm (.int .i64 (IntKind.wrap .i64 (Int.tdiv n (3600 : Int)))), .imm (.int .i64 (Int.tmod (IntKind.wrap .i64 (Int.tdiv n (3600 : Int))) (10 : Int))), .imm (.int .i64 (IntKind.wrap .i64 ((48 : Int) + Int.tmod (IntKind.wrap .i64 (Int.tdiv n (3600 : Int))) (10 : Int)))), .imm (.int .u8 (IntKind.wrap IntKind.u8 (IntKind.wrap .i64 ((48 : Int) + Int.tmod (IntKind.wrap .i64 (Int.tdiv n (3600 : Int))) (10 : Int))))), .full (IV.bytes (List.map u8 [IntKind.wrap IntKind.u8 (IntKind.wrap .i64 ((48 : Int) + Int.tmod (IntKind.wrap .i64 (Int.tdiv n (3600 : Int))) (10 : Int)))])), .imm (.str (List.map u8 [IntKind.wrap IntKind.u8 (IntKind.wrap .i64 ((48 : Int) + Int.tmod (IntKind.wrap .i64 (Int.tdiv n (3600 : Int))) (10 : Int)))])), .imm (.str (s ++ List.map u8 [IntKind.wrap IntKind.u8 (IntKind.wrap .i64 ((48 : Int) + Int.tmod (IntKind.wrap .i64 (Int.tdiv (IntKind.wrap .i64 (Int.tdiv n (3600 : Int))) (10 : Int))) (10 : Int)))] ++ List.map u8 [IntKind.wrap IntKind.u8 (IntKind.wrap .i64 ((48 :
 Int) + Int.tmod (IntKind.wrap .i64 (Int.tdiv n (3600 : Int))) (10 : Int)))])), t 34, t 35, t 36, t 37, t 38, t 39, t 40, t 41, t 42, t 43, t 44, t 45, t 46, t 47, t 48, t 49, t 50, t 51, t 52, t 53] [] (0 : Nat) [])) ((10 : Int) ≠ 0 ∧ s.length + (List.map u8 [IntKind.wrap IntKind.u8 (IntKind.wrap .i64 ((48 : Int) + Int.tmod (IntKind.wrap .i64 (Int.tdiv n (3600 : Int))) (10 : Int)))]).length ≤ 9223372036854775807 ∧ k AX.normal (St.mk [.imm (.int .i64 n), .dead, .imm (.str []), .imm (.str (s ++ List.map u8 [IntKind.wrap IntKind.u8 (IntKind.wrap .i64 ((48 : Int) + Int.tmod (IntKind.wrap .i64 (Int.tdiv n (3600 : Int))) (10 : Int)))])), .imm (.int .i64 (IntKind.wrap .i64 (Int.tdiv n (3600 : Int)))), t 5, t 6, t 7, t 8, .imm (.int .i64 n), .imm (.int .i64 (IntKind.wrap .i64 (Int.tdiv n (3600 : Int)))), .imm (.int .i64 (IntKind.wrap .i64 (Int.tdiv n (3600 : Int)))), .imm (.bool (decide (IntKind.wrap .i64 (Int.tdiv n (3600 : Int)) ≥ 100))), t 13, t 14, .imm (.int .i64 (IntKind.wrap .i64 (Int.tdiv n (3600 : Int)))), .imm (.bool (decide (IntKind.wrap .i64 (Int.tdiv n (3600 : Int)) ≥ 10))), t 17, t 18, t 19, t 20, t 21, t 22, t 23, t 24, t 25, .imm (.str s), .imm (.int .i64 (IntKind.wrap .i64
 (Int.tdiv n (3600 : Int)))), .imm (.int .i64 (Int.tmod (IntKind.wrap .i64 (Int.tdiv n (3600 : Int))) (10 : Int))), .imm (.int .i64 (IntKind.wrap .i64 ((48 : Int) + Int.tmod (IntKind.wrap .i64 (Int.tdiv n (3600 : Int))) (10 : Int)))), .imm (.int .u8 (IntKind.wrap IntKind.u8 (IntKind.wrap .i64 ((48 : Int) + Int.tmod (IntKind.wrap .i64 (Int.tdiv n (3600 : Int))) (10 : Int))))), .full (IV.bytes (List.map u8 [IntKind.wrap IntKind.u8 (IntKind.wrap .i64 ((48 : Int) + Int.tmod (IntKind.wrap .i64 (Int.tdiv n (3600 : Int))) (10 : Int)))])), .imm (.str (List.map u8 [IntKind.wrap IntKind.u8 (IntKind.wrap .i64 ((48 : Int) + Int.tmod (IntKind.wrap .i64 (Int.tdiv n (3600 : Int))) (10 : Int)))])), .imm (.str (s ++ List.map u8 [IntKind.wrap IntKind.u8 (IntKind.wrap .i64 ((48 : Int) + Int.tmod (IntKind.wrap .i64 (Int.tdiv n (3600 : Int))) (10 : Int)))])), t 34, t 35, t 36, t 37, t 38, t 39, t 40, t 41, t 42, t 43, t 44, t 45, t 46, t 47, t 48, t 49, t 50, t 51, t 52, t 53] [] (0 : Nat) [])))) := by kernel_rfl
theorem f14_c (n : Int) (s : List UInt8) (h : Int) (t : Nat → AV) (K : List AV → Prop) : evCode C3 (c14 [Dir.r, Dir.r, Dir.r, Dir.r, Dir.r, Dir.r, Dir.r]) (S14 n s (i64 h) t) (finK C3 Tryd.f25 K) = ((3600 : Int) ≠ 0 ∧ brn (decide (Int.tmod n (3600 : Int) > 0)) (s.length + List.length [(58 : UInt8)] ≤ 9223372036854775807 ∧ (60 : Int) ≠ 0 ∧ (60 : Int) ≠ 0 ∧ (0 : Int) ≤ Int.tmod (IntKind.wrap .i64 (Int.tdiv n (60 : Int))) (60 : Int) ∧ Int.tmod (IntKind.wrap .i64 (Int.tdiv n (60 : Int))) (60 : Int) < 100 ∧ (s ++ [(58 : UInt8)]).length + List.length [dg ((Int.tmod (IntKind.wrap .i64 (Int.tdiv n (60 : Int))) (60 : Int)).toNat / (10 : Nat)), dg ((Int.tmod (IntKind.wrap .i64 (Int.tdiv n (60 : Int))) (60 : Int)).toNat % (10 : Nat))] ≤ 9223372036854775807 ∧ (60 : Int) ≠ 0 ∧ brn (decide (Int.tmod n (60 : Int) > 0)) ((s ++ [(58 : UInt8)] ++ [dg ((Int.tmod (IntKind.wrap .i64 (Int.tdiv n (60 : Int))) (60 : Int)).toNat / (10 : Nat)), dg ((Int.tmod (IntKind.wrap .i64 (Int.tdiv n (60 : Int))) (60 : Int)).toNat % (10 : Nat))]).length + List.length [(58 : UInt8)] ≤ 9223372036854775807 ∧ (60 : Int) ≠ 0 ∧ (0 : Int) ≤ Int.tmod n (60 : Int) ∧ Int.tmod n (60 : Int) < 100 ∧ (s ++ [(58 : UInt8)] ++ [dg
 ((Int.tmod (IntKind.wrap .i64 (Int.tdiv n (60 : Int))) (60 : Int)).toNat / (10 : Nat)), dg ((Int.tmod (IntKind.wrap .i64 (Int.tdiv n (60 : Int))) (60 : Int)).toNat % (10 : Nat))] ++ [(58 : UInt8)]).length + List.length [dg ((Int.tmod n (60 : Int)).toNat / (10 : Nat)), dg ((Int.tmod n (60 : Int)).toNat % (10 : Nat))] ≤ 9223372036854775807 ∧ K [.imm (.str (s ++ [(58 : UInt8)] ++ [dg ((Int.tmod (IntKind.wrap .i64 (Int.tdiv n (60 : Int))) (60 : Int)).toNat / (10 : Nat)), dg ((Int.tmod (IntKind.wrap .i64 (Int.tdiv n (60 : Int))) (60 : Int)).toNat % (10 : Nat))] ++ [(58 : UInt8)] ++ [dg ((Int.tmod n (60 : Int)).toNat / (10 : Nat)), dg ((Int.tmod n (60 : Int)).toNat % (10 : Nat))]))]) (K [.imm (.str (s ++ [(58 : UInt8)] ++ [dg ((Int.tmod (IntKind.wrap .i64 (Int.tdiv n (60 : Int))) (60 : Int)).toNat / (10 : Nat)), dg ((Int.tmod (IntKind.wrap .i64 (Int.tdiv n (60 : Int))) (60 : Int)).toNat % (10 : Nat))]))])) ((60 : Int) ≠ 0 ∧ brn (decide (Int.tmod n (60 : Int) > 0)) (s.length + List.length [(58 : UInt8)] ≤ 9223372036854775807 ∧ (60 : Int) ≠ 0 ∧ (0 : Int) ≤ Int.tmod n (60 : Int) ∧ Int.tmod n (60 : Int) < 100 ∧ (s ++ [(58 : UInt8)]).length + List.length [dg ((Int.tmod n (60 : Int)).toNat /
 (10 : Nat)), dg ((Int.tmod n (60 : Int)).toNat % (10 : Nat))] ≤ 9223372036854775807 ∧ K [.imm (.str (s ++ [(58 : UInt8)] ++ [dg ((Int.tmod n (60 : Int)).toNat / (10 : Nat)), dg ((Int.tmod n (60 : Int)).toNat % (10 : Nat))]))]) (K [.imm (.str s)]))) := by kernel_rfl
theorem f13_i (n : Int) (K : List AV → Prop) : evSpec C3 Tryd.f30 [.imm (.int .i64 n)] K = (brn (decide (n < 0)) False ((3600 : Int) ≠ 0 ∧ (0 : Int) ≤ IntKind.wrap .i64 (Int.tdiv n (3600 : Int)) ∧ IntKind.wrap .i64 (Int.tdiv n (3600 : Int)) < 1000 ∧ (3600 : Int) ≠ 0 ∧ brn (Int.tmod n (3600 : Int) != 0) ((3600 : Int) ≠ 0 ∧ (60 : Int) ≠ 0 ∧ (0 : Int) ≤ IntKind.wrap .i64 (Int.tdiv (Int.tmod n (3600 : Int)) (60 : Int)) ∧ IntKind.wrap .i64 (Int.tdiv (Int.tmod n (3600 : Int)) (60 : Int)) < 100 ∧ (dd (IntKind.wrap .i64 (Int.tdiv n (3600 : Int))).toNat).length + (two (IntKind.wrap .i64 (Int.tdiv (Int.tmod n (3600 : Int)) (60 : Int))).toNat).length ≤ 9223372036854775807 ∧ (60 : Int) ≠ 0 ∧ brn (Int.tmod n (60 : Int) != 0) ((60 : Int) ≠ 0 ∧ (0 : Int) ≤ Int.tmod n (60 : Int) ∧ Int.tmod n (60 : Int) < 100 ∧ (dd (IntKind.wrap .i64 (Int.tdiv n (3600 : Int))).toNat ++ two (IntKind.wrap .i64 (Int.tdiv (Int.tmod n (3600 : Int)) (60 : Int))).toNat).length + (two (Int.tmod n (60 : Int)).toNat).length ≤ 9223372036854775807 ∧ K [.imm (.str (dd (IntKind.wrap .i64 (Int.tdiv n (3600 : Int))).toNat ++ two (IntKind.wrap .i64 (Int.tdiv (Int.tmod n (3600 : Int)) (60 : Int))).toNat ++ two (Int.tmod n (60 :
 Int)).toNat))]) (K [.imm (.str (dd (IntKind.wrap .i64 (Int.tdiv n (3600 : Int))).toNat ++ two (IntKind.wrap .i64 (Int.tdiv (Int.tmod n (3600 : Int)) (60 : Int))).toNat))])) ((60 : Int) ≠ 0 ∧ brn (Int.tmod n (60 : Int) != 0) ((60 : Int) ≠ 0 ∧ (0 : Int) ≤ Int.tmod n (60 : Int) ∧ Int.tmod n (60 : Int) < 100 ∧ (dd (IntKind.wrap .i64 (Int.tdiv n (3600 : Int))).toNat).length + (two (Int.tmod n (60 : Int)).toNat).length ≤ 9223372036854775807 ∧ K [.imm (.str (dd (IntKind.wrap .i64 (Int.tdiv n (3600 : Int))).toNat ++ two (Int.tmod n (60 : Int)).toNat))]) (K [.imm (.str (dd (IntKind.wrap .i64 (Int.tdiv n (3600 : Int))).toNat))])))) := by kernel_rfl
end B8
set_option maxRecDepth 100000
namespace B8
open Go Go.AE Go.Proofs
attribute [local irreducible] loopK evCode evSpec loopB norm finK c14
theorem tdiv3600 (n : Nat) : Int.tdiv (n : Int) 3600 = ((n / 3600 : Nat) : Int) := by simp [Int.tdiv]
theorem tmod3600 (n : Nat) : Int.tmod (n : Int) 3600 = ((n % 3600 : Nat) : Int) := by simp [Int.tmod]
theorem tdiv60 (n : Nat) : Int.tdiv (n : Int) 60 = ((n / 60 : Nat) : Int) := by simp [Int.tdiv]
theorem tmod60 (n : Nat) : Int.tmod (n : Int) 60 = ((n % 60 : Nat) : Int) := by simp [Int.tmod]
theorem two_app (s : List UInt8) (n : Nat) : s ++ [58] ++ [dg (n / 10), dg (n % 10)] = s ++ two n := by simp [two]
def tl (N : Nat) : List UInt8 := (if N % 3600 = 0 then [] else two (N % 3600 / 60)) ++ (if N % 60 = 0 then [] else two (N % 60))
theorem fmtN_eq (N : Nat) : fmtN N = dd (N / 3600) ++ tl N := by unfold fmtN tl; rw [List.append_assoc]
theorem R7 (N : Nat) (hN : N ≤ 604799) (s : List UInt8) (hs : s.length ≤ 10) (h : Int) (st' : St) (hst : st' = S14 N s (i64 h) (fun j => nth .dead st'.tmps j)) (K : List AV → Prop) (hK : K [st (s ++ tl N)]) :
    evCode C3 (c14 [.r, .r, .r, .r, .r, .r, .r]) st' (finK C3 Tryd.f25 K) := by
  rw [hst]
  generalize (fun j => nth .dead st'.tmps j) = t
  rw [f14_c]
  have e1 : IntKind.wrap .i64 ((N / 60 : Nat) : Int) = ((N / 60 : Nat) : Int) := wrap64 (by omega) (by omega)
  simp only [tdiv60, tmod60, tmod3600, e1, Int.toNat_natCast]
  unfold tl at hK
  refine ⟨by decide, brn_intro (fun h1 => ?_) (fun h1 => ?_)⟩
  · have h1' : ¬ N % 3600 = 0 := by simp only [decide_eq_true_eq] at h1; omega
    rw [if_neg h1'] at hK
    refine ⟨by simp; omega, by decide, by decide, by omega, by omega, by simp; omega, by decide, brn_intro (fun h2 => ?_) (fun h2 => ?_)⟩
    · have h2' : ¬ N % 60 = 0 := by simp only [decide_eq_true_eq] at h2; omega
      rw [if_neg h2'] at hK
      refine ⟨by simp; omega, by decide, by omega, by omega, by simp; omega, ?_⟩
      rw [two_app, two_app, List.append_assoc, show N / 60 % 60 = N % 3600 / 60 by omega]
      exact hK
    · have h2' : N % 60 = 0 := by simp only [decide_eq_false_iff_not] at h2; omega
      rw [if_pos h2', List.append_nil] at hK
      rw [two_app, show N / 60 % 60 = N % 3600 / 60 by omega]
      exact hK
  · have h1' : N % 3600 = 0 := by simp only [decide_eq_false_iff_not] at h1; omega
    refine ⟨by decide, brn_intro (fun h2 => by simp only [decide_eq_true_eq] at h2; omega) (fun h2 => ?_)⟩
    have h2' : N % 60 = 0 := by omega
    rw [if_pos h1', if_pos h2', List.append_nil, List.append_nil] at hK
    exact hK
theorem R3 (N : Nat) (hN : N ≤ 604799) (s : List UInt8) (hs : s.length ≤ 1) (st' : St) (hst : st' = S14 N s .dead (fun j => nth .dead st'.tmps j)) (K : List AV → Prop) (hK : K [st (s ++ fmtN N)]) :
    evCode C3 (c14 [.r, .r, .r]) st' (finK C3 Tryd.f25 K) := by
  have cut : ∀ st', evCode C3 (c14 [.r, .r, .r]) st' (finK C3 Tryd.f25 K) = evCode C3 a14 st' (fun x st => match x with
    | .normal => evCode C3 (c14 [.r, .r, .r, .r, .r, .r, .r]) st (finK C3 Tryd.f25 K)
    | x => finK C3 Tryd.f25 K x st) := fun st' => by kernel_rfl
  rw [cut, hst]
  generalize (fun j => nth .dead st'.tmps j) = t
  rw [f14_a]
  rw [fmtN_eq, ← List.append_assoc] at hK
  have hH : N / 3600 ≤ 167 := by omega
  have e1 : IntKind.wrap .i64 ((N / 3600 : Nat) : Int) = ((N / 3600 : Nat) : Int) := wrap64 (by omega) (by omega)
  simp only [tdiv3600, e1]
  generalize N / 3600 = H at hH hK
  have e2 : IntKind.wrap .i64 ((H / 10 : Nat) : Int) = ((H / 10 : Nat) : Int) := wrap64 (by omega) (by omega)
  have e3 : IntKind.wrap .u8 (IntKind.wrap .i64 (48 + ((H / 10 % 10 : Nat) : Int))) = ((48 + H / 10 % 10 : Nat) : Int) := by
    rw [wrap64 (by omega) (by omega), wrap8 (by omega) (by omega)]; omega
  have e4 : IntKind.wrap .u8 (IntKind.wrap .i64 (48 + ((H % 10 : Nat) : Int))) = ((48 + H % 10 : Nat) : Int) := by
    rw [wrap64 (by omega) (by omega), wrap8 (by omega) (by omega)]; omega
  simp only [tdiv10, tmod10, e2, e3, e4, List.map_cons, List.map_nil, u8_dg (show H / 10 % 10 < 10 by omega), u8_dg (show H % 10 < 10 by omega)]
  unfold dd at hK
  refine ⟨by decide, brn_intro (fun h1 => ?_) (fun h1 => ?_)⟩
  · simp only [decide_eq_true_eq] at h1
    refine ⟨by simp; omega, brn_intro (fun h2 => ?_) (fun h2 => ?_)⟩
    · refine ⟨by decide, by decide, by simp; omega, by decide, by simp; omega, ?_⟩
      rw [if_neg (by omega), if_neg (by omega)] at hK
      refine R7 N hN (s ++ [49] ++ [dg (H / 10 % 10)] ++ [dg (H % 10)]) (by simp; omega) (H : Int) _ (by kernel_rfl) K ?_
      have : H / 100 = 1 := by omega
      rw [this] at hK
      simpa [dg] using hK
    · simp only [decide_eq_false_iff_not] at h2; omega
  · simp only [decide_eq_false_iff_not] at h1
    refine brn_intro (fun h2 => ?_) (fun h2 => ?_)
    · simp only [decide_eq_true_eq] at h2
      refine ⟨by decide, by decide, by simp; omega, by decide, by simp; omega, ?_⟩
      rw [if_neg (by omega), if_pos (by omega)] at hK
      refine R7 N hN (s ++ [dg (H / 10 % 10)] ++ [dg (H % 10)]) (by simp; omega) (H : Int) _ (by kernel_rfl) K ?_
      rw [show H / 10 % 10 = H / 10 by omega]
      simpa using hK
    · simp only [decide_eq_false_iff_not] at h2
      refine ⟨by decide, by simp; omega, ?_⟩
      rw [if_pos (by omega)] at hK
      refine R7 N hN (s ++ [dg (H % 10)]) (by simp; omega) (H : Int) _ (by kernel_rfl) K ?_
      rw [show H % 10 = H by omega]
      exact hK
theorem f14_ev (n : Int) (h0 : -604799 ≤ n) (h1 : n ≤ 604799) (K : List AV → Prop) (hK : K [st (fmt n)]) : evSpec C3 Tryd.f25 [.imm (.int .i64 n)] K := by
  have cut : evSpec C3 Tryd.f25 [.imm (.int .i64 n)] K = evCode C3 (c14 [.r, .r, .l]) (S14 n [] .dead (fun _ => .dead)) (fun x st => match x with
    | .normal => evCode C3 (c14 [.r, .r, .r]) st (finK C3 Tryd.f25 K)
    | x => finK C3 Tryd.f25 K x st) := by kernel_rfl
  rw [cut, f14_b]
  unfold fmt at hK
  refine brn_intro (fun h => ?_) (fun h => ?_)
  · simp only [decide_eq_true_eq] at h
    have e : IntKind.wrap .i64 (0 - n) = (n.natAbs : Int) := by rw [wrap64 (by omega) (by omega)]; omega
    rw [if_pos h] at hK
    rw [e]
    exact R3 n.natAbs (by omega) [45] (by simp) _ (by kernel_rfl) K hK
  · simp only [decide_eq_false_iff_not] at h
    rw [if_neg h] at hK
    have e : n = (n.natAbs : Int) := by omega
    rw [e]
    refine R3 n.natAbs (by omega) [] (by simp) _ (by kernel_rfl) K ?_
    exact hK
theorem f13_tail (n : Nat) (hn : n ≤ 604799) (K : List AV → Prop) (hK : K [st (fmt (n : Int))]) : evSpec C3 Tryd.f30 [.imm (.int .i64 (n : Int))] K := by
  rw [f13_i]
  unfold fmt at hK
  rw [if_neg (by omega), Int.natAbs_natCast, fmtN_eq] at hK
  unfold tl at hK
  have e1 : IntKind.wrap .i64 ((n / 3600 : Nat) : Int) = ((n / 3600 : Nat) : Int) := wrap64 (by omega) (by omega)
  have e2 : IntKind.wrap .i64 ((n % 3600 / 60 : Nat) : Int) = ((n % 3600 / 60 : Nat) : Int) := wrap64 (by omega) (by omega)
  simp only [tdiv3600, tmod3600, tdiv60, tmod60, e1, e2, Int.toNat_natCast]
  have hdl := dd_len (n / 3600)
  refine brn_intro (fun h => by simp only [decide_eq_true_eq] at h; omega) (fun _ => ⟨by decide, by omega, by omega, by decide, brn_intro (fun h1 => ?_) (fun h1 => ?_)⟩)
  · have h1' : ¬ n % 3600 = 0 := by intro h; rw [h] at h1; simp at h1
    rw [if_neg h1'] at hK
    refine ⟨by decide, by decide, by omega, by omega, by rw [two_len]; omega, by decide, brn_intro (fun h2 => ?_) (fun h2 => ?_)⟩
    · have h2' : ¬ n % 60 = 0 := by intro h; rw [h] at h2; simp at h2
      rw [if_neg h2', ← List.append_assoc] at hK
      exact ⟨by decide, by omega, by omega, by rw [List.length_append, two_len, two_len]; omega, hK⟩
    · have h2' : n % 60 = 0 := by simp only [bne_eq_false_iff_eq] at h2; omega
      rw [if_pos h2', List.append_nil] at hK
      exact hK
  · have h1' : n % 3600 = 0 := by simp only [bne_eq_false_iff_eq] at h1; omega
    refine ⟨by decide, brn_intro (fun h2 => ?_) (fun h2 => ?_)⟩
    · have h2' : ¬ n % 60 = 0 := by intro h; rw [h] at h2; simp at h2
      omega
    · rw [if_pos h1', if_pos (by omega), List.append_nil, List.append_nil] at hK
      exact hK
theorem ok14 : ∀ args pres res, sFmt args = some (pres, res) → SpecOK Tryd.prog G8 25 args pres res := by
  intro args pres res h
  unfold sFmt at h
  split at h
  case h_2 => cases h
  cases h
  rename_i n
  refine mk okE3 at14 (by decide) rfl (fun hp K hK => ?_)
  exact f14_ev n (hp _ (List.mem_cons_self ..)) (hp _ (List.mem_cons_of_mem _ (List.mem_cons_self ..))) K hK
theorem ok13a : ∀ args pres res, sFmt0 args = some (pres, res) → SpecOK Tryd.prog G8 30 args pres res := by
  intro args pres res h
  unfold sFmt0 at h
  split at h
  case h_2 => cases h
  cases h
  rename_i n
  refine mk okE3 at13 (by decide) rfl (fun hp K hK => ?_)
  have h0 := hp _ (List.mem_cons_self ..)
  have h1 := hp _ (List.mem_cons_of_mem _ (List.mem_cons_self ..))
  obtain ⟨i, rfl⟩ := nat_of h0
  exact f13_tail i (by omega) K hK
theorem okE4 : EOK Tryd.prog E4 G8 := addE_ok (addE_ok (addE_ok (addE_ok okE3 ok9) ok10) ok13a) ok14
theorem ok13 : ∀ args pres res, sFmt args = some (pres, res) → SpecOK Tryd.prog G8 30 args pres res := by
  intro args pres res h
  unfold sFmt at h
  split at h
  case h_2 => cases h
  cases h
  rename_i n
  by_cases hn : 0 ≤ n
  · have := ok13a [.imm (.int .i64 n)] _ _ rfl
    refine ⟨this.fn, fun hp => this.calls (fun p hp' => ?_)⟩
    have h1 := hp _ (List.mem_cons_of_mem _ (List.mem_cons_self ..))
    rcases List.mem_cons.1 hp' with rfl | hp'
    · exact hn
    · rw [List.mem_singleton.1 hp']; exact h1
  · refine mk okE4 at13 (by decide) rfl (fun hp K hK => ?_)
    have h0 := hp _ (List.mem_cons_self ..)
    rw [show cx E4 = C4 from rfl, f13_in]
    have e : IntKind.wrap .i64 (0 - n) = -n := by rw [wrap64 (by omega) (by omega)]; omega
    rw [e]
    refine brn_intro (fun _ => ?_) (fun h => by simp only [decide_eq_false_iff_not] at h; omega)
    have ef : fmt n = [45] ++ fmt (-n) := by
      unfold fmt
      rw [if_pos (by omega), if_neg (by omega), Int.natAbs_neg]
      rfl
    have hl : (fmt (-n)).length ≤ 20 := by
      unfold fmt
      rw [if_neg (by omega), fmtN_eq]
      unfold tl
      have := dd_len ((-n).natAbs / 3600)
      rw [List.length_append, List.length_append]
      split <;> split <;> simp only [two_len, List.length_nil] <;> omega
    rw [ef] at hK
    exact ⟨by omega, by omega, by rw [List.length_singleton]; omega, hK⟩
theorem okE5 : EOK Tryd.prog E5 G8 := addE_ok okE4 ok13
end B8
set_option maxRecDepth 100000
namespace B8
open Go Go.AE Go.Proofs
attribute [local irreducible] loopK evCode evSpec loopB norm finK c14
def fl (r : List UInt8) : Int × Nat := match field r with
  | none => (0, 0)
  | some m => match field (r.drop 3) with
    | none => (60 * (m : Int), 3)
    | some c => (60 * (m : Int) + c, 6)
theorem fieldsP_fl (s : List UInt8) (i : Nat) : fieldsP s i = ((fl (s.drop i)).1, ((i + (fl (s.drop i)).2 : Nat) : Int)) := by
  unfold fieldsP fl
  cases h : field (s.drop i) with
  | none => rfl
  | some m =>
    simp only [List.drop_drop]
    cases field (s.drop (i + 3)) <;> rfl
theorem runD_app {ds r : List UInt8} (hd : ∀ b ∈ ds, isD b = true) (hr : r = [] ∨ isD (r.getD 0 0) = false) : runD (ds ++ r) = ds := by
  unfold runD
  rw [List.takeWhile_append_of_pos hd]
  have : r.takeWhile isD = [] := by
    rcases hr with rfl | hr
    · rfl
    · cases r with
      | nil => rfl
      | cons b r =>
        have hr' : isD b = false := hr
        simp [List.takeWhile_cons, hr']
  rw [this, List.append_nil]
theorem parse_comp {p ds r : List UInt8} (hp : p = [] ∨ p = [43] ∨ p = [45]) (hd : ∀ b ∈ ds, isD b = true) (h1 : 1 ≤ ds.length) (h3 : ds.length ≤ 3) (h167 : num ds ≤ 167) (hr : r = [] ∨ isD (r.getD 0 0) = false) :
    parse (p ++ (ds ++ r)) = ((if p = [45] then -1 else 1) * ((num ds : Int) * 3600 + (fl r).1), ((p.length + ds.length + (fl r).2 : Nat) : Int), true) := by
  have hoff : off (p ++ (ds ++ r)) = p.length ∧ sgn (p ++ (ds ++ r)) = if p = [45] then -1 else 1 := by
    rcases hp with rfl | rfl | rfl
    · cases ds with
      | nil => simp at h1
      | cons b ds =>
        have hb := hd b (by simp)
        have n1 : b ≠ 45 := by rintro rfl; exact absurd hb (by decide)
        have n2 : b ≠ 43 := by rintro rfl; exact absurd hb (by decide)
        simp [off, sgn, n1, n2]
    · simp [off, sgn]
    · simp [off, sgn]
  have hdrop : (p ++ (ds ++ r)).drop p.length = ds ++ r := List.drop_left
  have hrun := runD_app hd hr
  unfold parse
  rw [hoff.1, hoff.2]
  have hh : hoursP (p ++ (ds ++ r)) p.length = ((num ds : Int), ((p.length + ds.length : Nat) : Int), true) := by
    unfold hoursP
    rw [hdrop, hrun, if_pos h3]
    simp [h167]
    omega
  rw [hh, if_pos rfl]
  simp only [Int.toNat_natCast]
  rw [fieldsP_fl]
  have hdrop2 : (p ++ (ds ++ r)).drop (p.length + ds.length) = r := by
    rw [← List.append_assoc, ← List.length_append]
    exact List.drop_left
  rw [hdrop2]
theorem dg_nat {n : Nat} (h : n < 10) : (dg n).toNat = 48 + n := by
  unfold dg
  simp [UInt8.toNat_ofNat']
  omega
theorem dg_D {n : Nat} (h : n < 10) : isD (dg n) = true := by
  rw [isD_iff, dg_nat h]
  omega
theorem dg_v {n : Nat} (h : n < 10) : dv (dg n) = n := by
  unfold dv
  rw [dg_nat h]
  omega
theorem dd_ok {n : Nat} (h : n < 1000) : (∀ b ∈ dd n, isD b = true) ∧ num (dd n) = n := by
  unfold dd
  split
  · rename_i h1
    refine ⟨fun b hb => ?_, ?_⟩
    · rw [List.mem_singleton.1 hb]; exact dg_D h1
    · simp [num, dg_v h1]
  · split
    · refine ⟨fun b hb => ?_, ?_⟩
      · simp only [List.mem_cons, List.not_mem_nil, or_false] at hb
        rcases hb with rfl | rfl <;> exact dg_D (by omega)
      · simp [num, dg_v (show n / 10 < 10 by omega), dg_v (show n % 10 < 10 by omega)]
        omega
    · refine ⟨fun b hb => ?_, ?_⟩
      · simp only [List.mem_cons, List.not_mem_nil, or_false] at hb
        rcases hb with rfl | rfl | rfl <;> exact dg_D (by omega)
      · simp [num, dg_v (show n / 100 < 10 by omega), dg_v (show n / 10 % 10 < 10 by omega), dg_v (show n % 10 < 10 by omega)]
        omega
theorem field_two {m : Nat} (h : m < 60) (r : List UInt8) : field (two m ++ r) = some m := by
  unfold two field
  simp only [List.cons_append, List.nil_append]
  rw [dg_v (show m / 10 < 10 by omega), dg_v (show m % 10 < 10 by omega), dg_D (show m / 10 < 10 by omega), dg_D (show m % 10 < 10 by omega)]
  rw [if_pos (by simp; omega)]
  congr 1
  omega
theorem field_nil : field [] = none := rfl
theorem fl_tl (N : Nat) : fl (tl N) = (((N % 3600 : Nat) : Int), (tl N).length) := by
  unfold tl
  by_cases h1 : N % 3600 = 0
  · rw [if_pos h1, if_pos (by omega), h1]; rfl
  · rw [if_neg h1]
    unfold fl
    rw [field_two (by omega)]
    have hd : (two (N % 3600 / 60) ++ (if N % 60 = 0 then [] else two (N % 60))).drop 3 = if N % 60 = 0 then [] else two (N % 60) := List.drop_left' (two_len _)
    rw [hd]
    by_cases h2 : N % 60 = 0
    · rw [if_pos h2, field_nil]
      simp only [List.append_nil, two_len, Prod.mk.injEq, and_true]
      omega
    · rw [if_neg h2]
      have := field_two (show N % 60 < 60 by omega) []
      rw [List.append_nil] at this
      rw [this]
      simp only [List.length_append, two_len, Prod.mk.injEq, and_true]
      omega
theorem tl_head (N : Nat) : tl N = [] ∨ isD ((tl N).getD 0 0) = false := by
  unfold tl
  by_cases h1 : N % 3600 = 0
  · rw [if_pos h1, if_pos (by omega)]; exact Or.inl rfl
  · rw [if_neg h1]; right; unfold two; rfl
theorem parse_fmtN {p : List UInt8} (hp : p = [] ∨ p = [43] ∨ p = [45]) {N : Nat} (hN : N ≤ 604799) : parse (p ++ fmtN N) = ((if p = [45] then -1 else 1) * (N : Int), ((p.length + (fmtN N).length : Nat) : Int), true) := by
  have hH : N / 3600 ≤ 167 := by omega
  obtain ⟨hd, hn⟩ := dd_ok (show N / 3600 < 1000 by omega)
  have hl := dd_len (N / 3600)
  rw [fmtN_eq, parse_comp hp hd hl.1 hl.2 (by rw [hn]; exact hH) (tl_head N), fl_tl, hn, List.length_append]
  have e : ((N / 3600 : Nat) : Int) * 3600 + ((N % 3600 : Nat) : Int) = (N : Int) := by omega
  rw [e, Nat.add_assoc]
theorem parse_fmt {n : Int} (h0 : -604799 ≤ n) (h1 : n ≤ 604799) : parse (fmt n) = (n, ((fmt n).length : Int), true) := by
  unfold fmt
  by_cases h : n < 0
  · rw [if_pos h]
    have := parse_fmtN (p := [45]) (Or.inr (Or.inr rfl)) (show n.natAbs ≤ 604799 by omega)
    rw [if_pos rfl] at this
    rw [show 45 :: fmtN n.natAbs = [45] ++ fmtN n.natAbs from rfl, this, List.length_append]
    have e : -1 * (n.natAbs : Int) = n := by omega
    rw [e]
  · rw [if_neg h]
    have := parse_fmtN (p := []) (Or.inl rfl) (show n.natAbs ≤ 604799 by omega)
    rw [if_neg (by simp)] at this
    rw [show fmtN n.natAbs = [] ++ fmtN n.natAbs from rfl, this]
    have e : 1 * (n.natAbs : Int) = n := by omega
    rw [e]
    simp
theorem fmt_inj {n m : Int} (h0 : -604799 ≤ n) (h1 : n ≤ 604799) (g0 : -604799 ≤ m) (g1 : m ≤ 604799) : fmt n = fmt m ↔ n = m := by
  refine ⟨fun h => ?_, fun h => by rw [h]⟩
  have a := parse_fmt h0 h1
  rw [h, parse_fmt g0 g1] at a
  exact (congrArg Prod.fst a).symm
theorem fmtN_len (N : Nat) (h : N ≤ 604799) : 1 ≤ (fmtN N).length ∧ (fmtN N).length ≤ 9 := by
  rw [fmtN_eq, List.length_append]
  have := dd_len (N / 3600)
  have : (tl N).length ≤ 6 := by
    unfold tl
    rw [List.length_append]
    split <;> split <;> simp only [two_len, List.length_nil] <;> omega
  omega
end B8
set_option maxRecDepth 100000
namespace B8
open Go Go.AE Go.Proofs
attribute [local irreducible] loopK evCode evSpec loopB norm finK c14
theorem fmt_len {n : Int} (h0 : -604799 ≤ n) (h1 : n ≤ 604799) : 1 ≤ (fmt n).length ∧ (fmt n).length ≤ 10 := by
  unfold fmt
  have := fmtN_len n.natAbs (by omega)
  split
  · simp only [List.length_cons]; omega
  · omega
end B8
namespace B7
open Go Go.AE Go.Proofs
def isAlpha (c : Int) : Bool := decide (c ≥ 97) && decide (c ≤ 122) || decide (c ≥ 65) && decide (c ≤ 90)
def allowed (c : Int) : Bool := decide (c < 128) && (isAlpha (IntKind.wrap IntKind.u8 c) || decide (c ≥ 48) && decide (c ≤ 57) || c == 43 || c == 45)
def alphaB (b : UInt8) : Bool := isAlpha (b.toNat : Int)
def goodB (b : UInt8) : Bool := alphaB b || decide (48 ≤ b.toNat) && decide (b.toNat ≤ 57) || b.toNat == 43 || b.toNat == 45
def valid (s : List UInt8) : Bool := s.all goodB && (decide (3 ≤ s.length) && decide (s.length ≤ 255))
def bare (s : List UInt8) : Bool := s.all alphaB
def letters (s : List UInt8) : Nat := (s.takeWhile alphaB).length
def place (s : List UInt8) (b : UInt8) : Nat := (s.takeWhile (fun x => x != b)).length
def idx (s : List UInt8) (b : Int) : Int := if place s (UInt8.ofNat b.toNat) < s.length then (place s (UInt8.ofNat b.toNat) : Int) else -1
def pfx (s t : List UInt8) : Bool := t.isPrefixOf s
def parseQ (r : List UInt8) : List UInt8 × Int × Bool :=
  if place r 62 < r.length then (if valid (r.take (place r 62)) then (r.take (place r 62), (place r 62 : Int) + 2, true) else ([], 0, false)) else ([], 0, false)
def parseP (s : List UInt8) : List UInt8 × Int × Bool := if valid (s.take (letters s)) then (s.take (letters s), (letters s : Int), true) else ([], 0, false)
def parse : List UInt8 → List UInt8 × Int × Bool
  | b :: r => if b = 60 then parseQ r else parseP (b :: r)
  | [] => parseP []
def fmt (s : List UInt8) : List UInt8 := if bare s then s else [60] ++ s ++ [62]
def bo (b : Bool) : AV := .imm (.bool b)
def i64 (n : Int) : AV := .imm (.int .i64 n)
def st (s : List UInt8) : AV := .imm (.str s)
def sAlpha : List AV → Option (List Prop × List AV)
  | [.imm (.int .u8 c)] => some ([], [bo (isAlpha c)])
  | _ => none
def sAllowed : List AV → Option (List Prop × List AV)
  | [.imm (.int .i32 c)] => some ([], [bo (allowed c)])
  | _ => none
def sValid : List AV → Option (List Prop × List AV)
  | [.imm (.str s)] => some ([s.length ≤ 9223372036854775807], [bo (valid s)])
  | _ => none
def sBare : List AV → Option (List Prop × List AV)
  | [.imm (.str s)] => some ([], [bo (bare s)])
  | _ => none
def sLetters : List AV → Option (List Prop × List AV)
  | [.imm (.str s)] => some ([s.length ≤ 9223372036854775806], [i64 (letters s)])
  | _ => none
def sIdx : List AV → Option (List Prop × List AV)
  | [.imm (.str s), .imm (.int .u8 b)] => some ([0 ≤ b, b < 256], [i64 (idx s b)])
  | _ => none
def sPfx : List AV → Option (List Prop × List AV)
  | [.imm (.str s), .imm (.str t)] => some ([], [bo (pfx s t)])
  | _ => none
def sCut : List AV → Option (List Prop × List AV)
  | [.imm (.str s), .imm (.str t)] => some ([], [st (if pfx s t then s.drop t.length else s), bo (pfx s t)])
  | _ => none
def sParse : List AV → Option (List Prop × List AV)
  | [.imm (.str s)] => some ([s.length ≤ 9223372036854775800], [st (parse s).1, i64 (parse s).2.1, bo (parse s).2.2])
  | _ => none
def sFmt : List AV → Option (List Prop × List AV)
  | [.imm (.str s)] => some ([s.length ≤ 9223372036854775800], [st (fmt s)])
  | _ => none
def G0 : Nat → Option (List AV) := B8.G8
noncomputable def cx (E : FuncId → List AV → Option (List Prop × List AV)) : Cx := ⟨Tryd.prog, E, noCall, G0, 0⟩
def E1 := addE (addE (addE noE 68 sAlpha) 48 sAlpha) 71 sIdx
def E2 := addE (addE E1 72 sAllowed) 73 sPfx
def E3 := addE (addE (addE E2 58 sValid) 26 sValid) 50 sBare
def E4 := addE (addE (addE E3 53 sLetters) 76 sCut) 70 sCut
def E5 := addE (addE (addE (addE E4 54 sParse) 42 sParse) 29 sFmt) 31 sFmt
noncomputable def C0 : Cx := cx noE
noncomputable def C1 : Cx := cx E1
noncomputable def C2 : Cx := cx E2
noncomputable def C3 : Cx := cx E3
noncomputable def C4 : Cx := cx E4
noncomputable def C5 : Cx := cx E5
def h10 (s : List UInt8) (pos : Nat) : St := ⟨lapp [st s, .dead, bo false, .dead, .dead, st s, .ptr 0 0] (lrepl 14 .dead), [(0, ⟨true, 0, .iter s pos⟩)], 1, []⟩
def h20 (s : List UInt8) (pos : Nat) : St := ⟨lapp [st s, .dead, bo false, .dead, .dead, st s, .ptr 0 0] (lrepl 11 .dead), [(0, ⟨true, 0, .iter s pos⟩)], 1, []⟩
def h11 (s : List UInt8) (i : Int) : St := ⟨lapp [st s, .dead, bo false, i64 i] (lrepl 37 .dead), [], 0, []⟩
def h18 (s : List UInt8) (n : Int) : St := ⟨lapp [st s, .dead, i64 0, i64 n] (lrepl 13 .dead), [], 0, []⟩
def h8 (s : List UInt8) (n : Int) : St := ⟨lapp [st s, .dead, st [], i64 0, bo false, st [], i64 n] (lrepl 38 .dead), [], 0, []⟩
def h9 (s : List UInt8) (i : Int) : St := ⟨lapp [st s, .dead, st [], i64 0, bo false, i64 i] (lrepl 40 .dead), [], 0, []⟩
end B7
set_option maxRecDepth 100000
namespace B7
open Go Go.AE Go.Proofs
theorem f12_in (c : Int) (K : List AV → Prop) : evSpec C0 Tryd.f68 [AV.imm (IV.int IntKind.u8 c)] K =
  (K
  [AV.imm
      (IV.bool
        (decide (c ≥ (97 : Int)) && decide (c ≤ (122 : Int)) ||
          decide (c ≥ (65 : Int)) && decide (c ≤ (90 : Int))))]) := by kernel_rfl
theorem f13_in (c : Int) (K : List AV → Prop) : evSpec C0 Tryd.f48 [AV.imm (IV.int IntKind.u8 c)] K =
  (K
  [AV.imm
      (IV.bool
        (decide (c ≥ (65 : Int)) && decide (c ≤ (90 : Int)) ||
          decide (c ≥ (97 : Int)) && decide (c ≤ (122 : Int))))]) := by kernel_rfl
theorem f19_in (c : Int) (K : List AV → Prop) : evSpec C1 Tryd.f72 [AV.imm (IV.int IntKind.i32 c)] K =
  (K
  [AV.imm
      (IV.bool
        (decide (c < (128 : Int)) &&
          (isAlpha (IntKind.wrap IntKind.u8 c) || decide (c ≥ (48 : Int)) && decide (c ≤ (57 : Int)) ||
              c == (43 : Int) ||
            c == (45 : Int))))]) := by kernel_rfl
theorem f23_in (s : List
  UInt8) (t : List UInt8) (K : List AV → Prop) : evSpec C1 Tryd.f73 [AV.imm (IV.str s), AV.imm (IV.str t)] K =
  ((decide ((↑(List.length s) : Int) ≥ (↑(List.length t) : Int)) = true → (0 : Int) ≤ (↑(List.length t) : Int)) ∧
  (decide ((↑(List.length s) : Int) ≥ (↑(List.length t) : Int)) = true →
      (↑(List.length t) : Int) ≤ (↑(List.length s) : Int)) ∧
    K
      [AV.imm
          (IV.bool
            (decide ((↑(List.length s) : Int) ≥ (↑(List.length t) : Int)) &&
              decide
                (List.take (Int.toNat (↑(List.length t) : Int) - (0 : Nat)) (List.drop (0 : Nat) s) =
                  t)))]) := by kernel_rfl
theorem f10_in (s : List UInt8) (K : List AV → Prop) : evSpec C2 Tryd.f58 [AV.imm (IV.str s)] K =
  (LoopI C2 (bodyOf Tryd.f58) (0 : Nat)
  (St.mk
    [AV.imm (IV.str s), AV.dead, AV.imm (IV.bool false), AV.dead, AV.dead, AV.imm (IV.str s),
      AV.ptr (0 : Nat) (0 : Nat), AV.dead, AV.dead, AV.dead, AV.dead, AV.dead, AV.dead, AV.dead, AV.dead, AV.dead,
      AV.dead, AV.dead, AV.dead, AV.dead, AV.dead]
    [((0 : Nat), Ob.mk true (0 : Nat) (AObj.iter s (0 : Nat)))] (1 : Nat) [])
  (finK C2 Tryd.f58 K)) := by kernel_rfl
theorem f11_in (s : List UInt8) (K : List AV → Prop) : evSpec C2 Tryd.f26 [AV.imm (IV.str s)] K =
  (LoopI C2 (bodyOf Tryd.f26) (0 : Nat)
  (St.mk
    [AV.imm (IV.str s), AV.dead, AV.imm (IV.bool false), AV.imm (IV.int IntKind.i64 (0 : Int)), AV.dead, AV.dead,
      AV.dead, AV.dead, AV.dead, AV.dead, AV.dead, AV.dead, AV.dead, AV.dead, AV.dead, AV.dead, AV.dead, AV.dead,
      AV.dead, AV.dead, AV.dead, AV.dead, AV.dead, AV.dead, AV.dead, AV.dead, AV.dead, AV.dead, AV.dead, AV.dead,
      AV.dead, AV.dead, AV.dead, AV.dead, AV.dead, AV.dead, AV.dead, AV.dead, AV.dead, AV.dead, AV.dead]
    [] (0 : Nat) [])
  (finK C2 Tryd.f26 K)) := by kernel_rfl
theorem f20_in (s : List UInt8) (K : List AV → Prop) : evSpec C2 Tryd.f50 [AV.imm (IV.str s)] K =
  (LoopI C2 (bodyOf Tryd.f50) (0 : Nat)
  (St.mk
    [AV.imm (IV.str s), AV.dead, AV.imm (IV.bool false), AV.dead, AV.dead, AV.imm (IV.str s),
      AV.ptr (0 : Nat) (0 : Nat), AV.dead, AV.dead, AV.dead, AV.dead, AV.dead, AV.dead, AV.dead, AV.dead, AV.dead,
      AV.dead, AV.dead]
    [((0 : Nat), Ob.mk true (0 : Nat) (AObj.iter s (0 : Nat)))] (1 : Nat) [])
  (finK C2 Tryd.f50 K)) := by kernel_rfl
theorem f18_in (s : List UInt8) (K : List AV → Prop) : evSpec C3 Tryd.f53 [AV.imm (IV.str s)] K =
  (LoopI C3 (bodyOf Tryd.f53) (0 : Nat)
  (St.mk
    [AV.imm (IV.str s), AV.dead, AV.imm (IV.int IntKind.i64 (0 : Int)), AV.imm (IV.int IntKind.i64 (0 : Int)), AV.dead,
      AV.dead, AV.dead, AV.dead, AV.dead, AV.dead, AV.dead, AV.dead, AV.dead, AV.dead, AV.dead, AV.dead, AV.dead]
    [] (0 : Nat) [])
  (finK C3 Tryd.f53 K)) := by kernel_rfl
theorem f21_in (s : List
  UInt8) (t : List UInt8) (K : List AV → Prop) : evSpec C3 Tryd.f76 [AV.imm (IV.str s), AV.imm (IV.str t)] K =
  (brn (!pfx s t) (K [AV.imm (IV.str s), AV.imm (IV.bool false)])
  ((0 : Int) ≤ (↑(List.length t) : Int) ∧
    (↑(List.length t) : Int) ≤ (↑(List.length s) : Int) ∧
      K
        [AV.imm
            (IV.str
              (List.take (List.length s - Int.toNat (↑(List.length t) : Int))
                (List.drop (Int.toNat (↑(List.length t) : Int)) s))),
          AV.imm (IV.bool true)])) := by kernel_rfl
theorem f8_in (s : List UInt8) (K : List AV → Prop) : evSpec C4 Tryd.f54 [.imm (.str s)] K = (brn (pfx s [(60 : UInt8)]) ((0 : Int) ≤ 62 ∧ (62 : Int) < 256 ∧ brn (decide (idx (if pfx s [(60 : UInt8)] = true then List.drop (List.length [(60 : UInt8)]) s else s) (62 : Int) < 0)) (K [.imm (.str []), .imm (.int .i64 0), .imm (.bool false)]) ((0 : Int) ≤ idx (if pfx s [(60 : UInt8)] = true then List.drop (List.length [(60 : UInt8)]) s else s) (62 : Int) ∧ idx (if pfx s [(60 : UInt8)] = true then List.drop (List.length [(60 : UInt8)]) s else s) (62 : Int) ≤ (↑(if pfx s [(60 : UInt8)] = true then List.drop (List.length [(60 : UInt8)]) s else s).length : Int) ∧ (List.take ((idx (if pfx s [(60 : UInt8)] = true then List.drop (List.length [(60 : UInt8)]) s else s) (62 : Int)).toNat - 0) (List.drop (0 : Nat) (if pfx s [(60 : UInt8)] = true then List.drop (List.length [(60 : UInt8)]) s else s))).length ≤ 9223372036854775807 ∧ brn (!valid (List.take ((idx (if pfx s [(60 : UInt8)] = true then List.drop (List.length [(60 : UInt8)]) s else s) (62 : Int)).toNat - 0) (List.drop (0 : Nat) (if pfx s [(60 : UInt8)] = true then List.drop (List.length [(60 : UInt8)]) s else s)))) (K [.imm (.str []), .imm
 (.int .i64 0), .imm (.bool false)]) (K [.imm (.str (List.take ((idx (if pfx s [(60 : UInt8)] = true then List.drop (List.length [(60 : UInt8)]) s else s) (62 : Int)).toNat - 0) (List.drop (0 : Nat) (if pfx s [(60 : UInt8)] = true then List.drop (List.length [(60 : UInt8)]) s else s)))), .imm (.int .i64 (IntKind.wrap .i64 (idx (if pfx s [(60 : UInt8)] = true then List.drop (List.length [(60 : UInt8)]) s else s) (62 : Int) + 2))), .imm (.bool true)]))) (LoopI C4 (bodyOf Tryd.f54) (0 : Nat) (St.mk [.imm (.str s), .dead, .imm (.str []), .imm (.int .i64 0), .imm (.bool false), .imm (.str []), .imm (.int .i64 0), .imm (.str (if pfx s [(60 : UInt8)] = true then List.drop (List.length [(60 : UInt8)]) s else s)), .imm (.bool (pfx s [(60 : UInt8)])), .dead, .tup [.imm (.str (if pfx s [(60 : UInt8)] = true then List.drop (List.length [(60 : UInt8)]) s else s)), .imm (.bool (pfx s [(60 : UInt8)]))], .imm (.str s), .tup [.imm (.str (if pfx s [(60 : UInt8)] = true then List.drop (List.length [(60 : UInt8)]) s else s)), .imm (.bool (pfx s [(60 : UInt8)]))], .imm (.str (if pfx s [(60 : UInt8)] = true then List.drop (List.length [(60 : UInt8)]) s else s)), .imm (.bool (pfx s [(60 : UInt8)])), .imm
 (.bool (pfx s [(60 : UInt8)])), .dead, .dead, .dead, .dead, .dead, .dead, .dead, .dead, .dead, .dead, .dead, .dead, .dead, .dead, .dead, .dead, .dead, .dead, .dead, .dead, .dead, .dead, .dead, .dead, .dead, .dead, .dead, .dead, .dead] [] (0 : Nat) []) (finK C4 Tryd.f54 K))) := by kernel_rfl
theorem f9_in (s : List UInt8) (K : List AV → Prop) : evSpec C4 Tryd.f42 [.imm (.str s)] K = ((decide ((s.length : Int) > 0) = true → (0 : Int) ≤ 0) ∧ (decide ((s.length : Int) > 0) = true → (0 : Int) < (s.length : Int)) ∧ brn (decide ((s.length : Int) > 0) && (↑(UInt8.toNat (List.getD s (0 : Int).toNat (0 : UInt8))) : Int) == 60) (LoopI C4 (bodyOf Tryd.f42) (0 : Nat) (St.mk [.imm (.str s), .dead, .imm (.str []), .imm (.int .i64 0), .imm (.bool false), .imm (.int .i64 1), .dead, .imm (.str s), .imm (.int .i64 (s.length : Int)), .imm (.bool (decide ((s.length : Int) > 0))), .imm (.bool (decide ((s.length : Int) > 0))), .opt [((10 : Nat), true)] (.imm (.str s)), .opt [((10 : Nat), true)] (.imm (.int .u8 (↑(UInt8.toNat (List.getD s (0 : Int).toNat (0 : UInt8))) : Int))), .opt [((10 : Nat), true)] (.imm (.bool ((↑(UInt8.toNat (List.getD s (0 : Int).toNat (0 : UInt8))) : Int) == 60))), .imm (.bool (decide ((s.length : Int) > 0) && (↑(UInt8.toNat (List.getD s (0 : Int).toNat (0 : UInt8))) : Int) == 60)), .dead, .dead, .dead, .dead, .dead, .dead, .dead, .dead, .dead, .dead, .dead, .dead, .dead, .dead, .dead, .dead, .dead, .dead, .dead, .dead, .dead, .dead, .dead, .dead, .dead, .dead,
 .dead, .dead, .dead, .dead, .dead] [] (0 : Nat) []) (finK C4 Tryd.f42 K)) (s.length ≤ 9223372036854775806 ∧ (0 : Int) ≤ (↑(letters s) : Int) ∧ (↑(letters s) : Int) ≤ (s.length : Int) ∧ (List.take ((↑(letters s) : Int).toNat - 0) (List.drop (0 : Nat) s)).length ≤ 9223372036854775807 ∧ brn (!valid (List.take ((↑(letters s) : Int).toNat - 0) (List.drop (0 : Nat) s))) (K [.imm (.str []), .imm (.int .i64 0), .imm (.bool false)]) ((0 : Int) ≤ (↑(letters s) : Int) ∧ (↑(letters s) : Int) ≤ (s.length : Int) ∧ K [.imm (.str (List.take ((↑(letters s) : Int).toNat - 0) (List.drop (0 : Nat) s))), .imm (.int .i64 (↑(letters s) : Int)), .imm (.bool true)]))) := by kernel_rfl
theorem f14_in (s : List UInt8) (K : List AV → Prop) : evSpec C4 Tryd.f29 [AV.imm (IV.str s)] K =
  (brn (bare s) (K [AV.imm (IV.str s)])
  (List.length [(60 : UInt8)] + List.length s ≤ (9223372036854775807 : Nat) ∧
    List.length ([(60 : UInt8)] ++ s) + List.length [(62 : UInt8)] ≤ (9223372036854775807 : Nat) ∧
      K [AV.imm (IV.str ([(60 : UInt8)] ++ s ++ [(62 : UInt8)]))])) := by kernel_rfl
theorem f15_in (s : List UInt8) (K : List AV → Prop) : evSpec C4 Tryd.f31 [AV.imm (IV.str s)] K =
  (List.length s ≤ (9223372036854775806 : Nat) ∧
  brn ((↑(letters s) : Int) == (↑(List.length s) : Int)) (K [AV.imm (IV.str s)])
    (List.length [(60 : UInt8)] + List.length s ≤ (9223372036854775807 : Nat) ∧
      List.length ([(60 : UInt8)] ++ s) + List.length [(62 : UInt8)] ≤ (9223372036854775807 : Nat) ∧
        K [AV.imm (IV.str ([(60 : UInt8)] ++ s ++ [(62 : UInt8)]))])) := by kernel_rfl
end B7
set_option maxRecDepth 100000
namespace B7
open Go Go.AE Go.Proofs
attribute [local irreducible] loopK evCode evSpec loopB norm
theorem at8 : Tryd.prog.funcs[54]? = some Tryd.f54 := by kernel_rfl
theorem at9 : Tryd.prog.funcs[42]? = some Tryd.f42 := by kernel_rfl
theorem at10 : Tryd.prog.funcs[58]? = some Tryd.f58 := by kernel_rfl
theorem at11 : Tryd.prog.funcs[26]? = some Tryd.f26 := by kernel_rfl
theorem at12 : Tryd.prog.funcs[68]? = some Tryd.f68 := by kernel_rfl
theorem at13 : Tryd.prog.funcs[48]? = some Tryd.f48 := by kernel_rfl
theorem at14 : Tryd.prog.funcs[29]? = some Tryd.f29 := by kernel_rfl
theorem at15 : Tryd.prog.funcs[31]? = some Tryd.f31 := by kernel_rfl
theorem at16 : Tryd.prog.funcs[70]? = some Tryd.f70 := by kernel_rfl
theorem at17 : Tryd.prog.funcs[71]? = some Tryd.f71 := by kernel_rfl
theorem at18 : Tryd.prog.funcs[53]? = some Tryd.f53 := by kernel_rfl
theorem at19 : Tryd.prog.funcs[72]? = some Tryd.f72 := by kernel_rfl
theorem at20 : Tryd.prog.funcs[50]? = some Tryd.f50 := by kernel_rfl
theorem at21 : Tryd.prog.funcs[76]? = some Tryd.f76 := by kernel_rfl
theorem at23 : Tryd.prog.funcs[73]? = some Tryd.f73 := by kernel_rfl
theorem mk {E : FuncId → List AV → Option (List Prop × List AV)} (hE : EOK Tryd.prog E G0) {f : FuncId} {fn : Func} {args res : List AV} {pres : List Prop} (hf : Tryd.prog.funcs[f]? = some fn) (hn : (fn.name == "runtime.NumGoroutine") = false) (hb : fn.body.isNone = false)
    (h : (∀ p, p ∈ pres → p) → ∀ K : List AV → Prop, K res → evSpec (cx E) fn args K) : SpecOK Tryd.prog G0 f args pres res :=
  spec_ok (C := cx E) hE noCall_ok hf hn hb (fun hp => h hp _ rfl)
theorem ok0 : EOK Tryd.prog noE G0 := noE_ok
theorem ok12 : ∀ args pres res, sAlpha args = some (pres, res) → SpecOK Tryd.prog G0 68 args pres res := by
  intro args pres res h
  unfold sAlpha at h
  split at h
  case h_2 => cases h
  cases h
  exact mk ok0 at12 (by decide) rfl (fun _ K hK => by rw [show cx noE = C0 from rfl, f12_in]; exact hK)
theorem ok13 : ∀ args pres res, sAlpha args = some (pres, res) → SpecOK Tryd.prog G0 48 args pres res := by
  intro args pres res h
  unfold sAlpha at h
  split at h
  case h_2 => cases h
  cases h
  rename_i c
  refine mk ok0 at13 (by decide) rfl (fun _ K hK => ?_)
  rw [show cx noE = C0 from rfl, f13_in]
  have e : isAlpha c = (decide (c ≥ 65) && decide (c ≤ 90) || decide (c ≥ 97) && decide (c ≤ 122)) := by unfold isAlpha; exact Bool.or_comm _ _
  unfold bo at hK
  rw [e] at hK
  exact hK
end B7
namespace Go.Proofs
open Go.Shelf
def Tryd.lays137_ren : Go.Shelf.Ren := ⟨fun | 137 => 71 | 217 => 77 | 266 => 82 | n => n, fun | 9 => 9 | 5 => 5 | 3 => 3 | n => n, fun | n => n⟩
theorem Tryd.lays137 : Go.Proofs.Lays.n137 Tryd.prog Tryd.lays137_ren := {
  mixed := by kernel_rfl
  f137 := Tryd.func71.trans (congrArg some (by kernel_rfl))
  f217 := Tryd.func77.trans (congrArg some (by kernel_rfl))
  f266 := Tryd.func82.trans (congrArg some (by kernel_rfl))
  t3 := Tryd.underlying3
  a3 := Tryd.isAgg3
  z3 := Tryd.sizeOf3
  v3 := Tryd.zeroValue3
  t5 := Tryd.underlying5
  a5 := Tryd.isAgg5
  z5 := Tryd.sizeOf5
  v5 := Tryd.zeroValue5
  t9 := Tryd.underlying9
  a9 := Tryd.isAgg9
  z9 := Tryd.sizeOf9
  v9 := Tryd.zeroValue9 }
end Go.Proofs
namespace B7
open Go Go.AE Go.Proofs Go.Shelf
theorem idx_calls (s : ByteArray) (c : Int) (w : World) :
    Calls Tryd.prog 71 #[.string s, .int .u8 c] w fun e w' => e = .returned (.int .i64 (Lib.indexByte s.data.toList c.toNat.toUInt8)) ∧ w' = w := Any.strings_IndexByte Tryd.lays137 s c w
theorem indexByte_eq : ∀ (l : List UInt8) (c : UInt8), Lib.indexByte l c = if place l c < l.length then (place l c : Int) else -1
  | [], c => by simp [Lib.indexByte, place]
  | b :: l, c => by
    have ih := indexByte_eq l c
    simp only [Lib.indexByte, ih]
    by_cases h : b = c
    · subst h; simp [place]
    · have hb : (b == c) = false := by simpa using h
      have hp : place (b :: l) c = place l c + 1 := by simp [place, List.takeWhile_cons, h]
      rw [hb, hp]
      simp only [List.length_cons, Bool.false_eq_true, if_false]
      by_cases hl : place l c < l.length
      · have h2 : place l c + 1 < l.length + 1 := by omega
        have h3 : ((place l c : Int) == -1) = false := by
          rw [beq_eq_false_iff_ne]; omega
        simp only [if_pos hl, if_pos h2, h3]
        simp
      · have h2 : ¬ (place l c + 1 < l.length + 1) := by omega
        simp only [if_neg hl, if_neg h2]
        simp
theorem ok17 : ∀ args pres res, sIdx args = some (pres, res) → SpecOK Tryd.prog G0 71 args pres res := by
  intro args pres res h
  unfold sIdx at h
  split at h
  case h_2 => cases h
  cases h
  rename_i s b
  refine ⟨⟨Tryd.f71, at17, by decide, rfl⟩, fun hp w own vals _ hsz hargs _ => ?_⟩
  have h0 := hargs 0 _ rfl
  have h1 := hargs 1 _ rfl
  obtain ⟨str, e0, hs, hl⟩ := arep_str h0
  obtain ⟨e1, _⟩ := arep_int h1
  have hv : vals = #[.string str, .int .u8 b] := by
    apply Array.ext
    · simpa using hsz
    · intro i h1' h2'
      have hi : i < 2 := by simpa using h2'
      match i, hi with
      | 0, _ => rw [Array.getD_eq_getD_getElem?, Array.getElem?_eq_getElem h1'] at e0; exact e0
      | 1, _ => rw [Array.getD_eq_getD_getElem?, Array.getElem?_eq_getElem h1'] at e1; exact e1
  subst hv
  refine (idx_calls str b w).mono ?_
  rintro e w' ⟨rfl, rfl⟩
  have hn : Lib.indexByte str.data.toList b.toNat.toUInt8 = idx s b := by
    rw [indexByte_eq]
    have : str.data.toList = s := hs
    rw [this]
    rfl
  have hr : InR .i64 (idx s b) := by
    unfold idx
    have hle : place s (UInt8.ofNat b.toNat) ≤ s.length := by unfold place; exact (List.takeWhile_sublist _).length_le
    split
    · exact ⟨by show (-9223372036854775808 : Int) ≤ _; omega, by show _ ≤ (9223372036854775807 : Int); omega⟩
    · exact ⟨by decide, by decide⟩
  refine ⟨[.int .i64 (idx s b)], [], by rw [hn]; rfl, RowKit.Below.refl _ _, ?_, fun b hb => by cases hb⟩
  exact .one (fun cs h => by cases h) (.imm (.int hr) .nil) (fun b hb => by cases hb) .nil
end B7
set_option maxRecDepth 100000
namespace B7
open Go Go.AE Go.Proofs
attribute [local irreducible] loopK evCode evSpec loopB norm
theorem okE1 : EOK Tryd.prog E1 G0 := addE_ok (addE_ok (addE_ok ok0 ok12) ok13) ok17
theorem ok19 : ∀ args pres res, sAllowed args = some (pres, res) → SpecOK Tryd.prog G0 72 args pres res := by
  intro args pres res h
  unfold sAllowed at h
  split at h
  case h_2 => cases h
  cases h
  exact mk okE1 at19 (by decide) rfl (fun _ K hK => by rw [show cx E1 = C1 from rfl, f19_in]; exact hK)
theorem pfx_eq (s t : List UInt8) : pfx s t = (decide (t.length ≤ s.length) && decide (s.take t.length = t)) := by
  unfold pfx
  rw [Bool.eq_iff_iff]
  simp only [List.isPrefixOf_iff_prefix, Bool.and_eq_true, decide_eq_true_eq]
  constructor
  · intro h
    exact ⟨h.length_le, (List.prefix_iff_eq_take.1 h).symm⟩
  · intro h
    exact List.prefix_iff_eq_take.2 h.2.symm
theorem ok23 : ∀ args pres res, sPfx args = some (pres, res) → SpecOK Tryd.prog G0 73 args pres res := by
  intro args pres res h
  unfold sPfx at h
  split at h
  case h_2 => cases h
  cases h
  rename_i s t
  refine mk okE1 at23 (by decide) rfl (fun _ K hK => ?_)
  rw [show cx E1 = C1 from rfl, f23_in]
  refine ⟨fun h => by omega, fun h => by simpa using h, ?_⟩
  unfold bo at hK
  rw [pfx_eq] at hK
  simpa using hK
theorem okE2 : EOK Tryd.prog E2 G0 := addE_ok (addE_ok okE1 ok19) ok23
end B7
set_option maxRecDepth 100000
namespace B7
open Go Go.AE Go.Proofs
theorem f10_lp (s : List UInt8) (pos : Nat) (k : AX → St → Prop) : evCode C2 (loopB (bodyOf Tryd.f58) (0 : Nat)) (h10 s pos) k = (brn (decide (pos < s.length)) (brn (!allowed (runeAt s pos).1) (k AX.ret (St.mk [.imm (.str s), .dead, .imm (.bool false), .dead, .imm (.int IntKind.i32 (runeAt s pos).1), .imm (.str s), .ptr 0 0, .tup [.imm (.bool true), .imm (.int .i64 (↑pos : Int)), .imm (.int IntKind.i32 (runeAt s pos).1)], .imm (.bool true), .imm (.int IntKind.i32 (runeAt s pos).1), .imm (.int IntKind.i32 (runeAt s pos).1), .imm (.bool (allowed (runeAt s pos).1)), .imm (.bool !allowed (runeAt s pos).1), .dead, .dead, .dead, .dead, .dead, .dead, .dead, .dead] [(0, Ob.mk true 0 (AObj.iter s (pos + (runeAt s pos).2)))] (1 : Nat) [])) (k AX.normal (St.mk [.imm (.str s), .dead, .imm (.bool false), .dead, .imm (.int IntKind.i32 (runeAt s pos).1), .imm (.str s), .ptr 0 0, .tup [.imm (.bool true), .imm (.int .i64 (↑pos : Int)), .imm (.int IntKind.i32 (runeAt s pos).1)], .imm (.bool true), .imm (.int IntKind.i32 (runeAt s pos).1), .imm (.int IntKind.i32 (runeAt s pos).1), .imm (.bool (allowed (runeAt s pos).1)), .imm (.bool !allowed (runeAt s pos).1), .dead, .dead, .dead, .dead, .dead, .dead,
 .dead, .dead] [(0, Ob.mk true 0 (AObj.iter s (pos + (runeAt s pos).2)))] (1 : Nat) []))) (k (AX.exit (0 : Nat)) (St.mk [.imm (.str s), .dead, .imm (.bool false), .dead, .dead, .imm (.str s), .ptr 0 0, .tup [.imm (.bool false)], .imm (.bool false), .dead, .dead, .dead, .dead, .dead, .dead, .dead, .dead, .dead, .dead, .dead, .dead] [(0, Ob.mk true 0 (AObj.iter s pos))] (1 : Nat) []))) := by kernel_rfl
theorem f20_lp (s : List UInt8) (pos : Nat) (k : AX → St → Prop) : evCode C2 (loopB (bodyOf Tryd.f50) (0 : Nat)) (h20 s pos) k = (brn (decide (pos < s.length)) (brn (decide ((runeAt s pos).1 ≥ 128) || !isAlpha (IntKind.wrap IntKind.u8 (runeAt s pos).1)) (k AX.ret (St.mk [.imm (.str s), .dead, .imm (.bool false), .dead, .imm (.int IntKind.i32 (runeAt s pos).1), .imm (.str s), .ptr 0 0, .tup [.imm (.bool true), .imm (.int .i64 (↑pos : Int)), .imm (.int IntKind.i32 (runeAt s pos).1)], .imm (.bool true), .imm (.int IntKind.i32 (runeAt s pos).1), .imm (.int IntKind.i32 (runeAt s pos).1), .imm (.bool (decide ((runeAt s pos).1 ≥ 128))), .imm (.bool (decide ((runeAt s pos).1 ≥ 128))), .opt [((12 : Nat), false)] (.imm (.int IntKind.i32 (runeAt s pos).1)), .opt [((12 : Nat), false)] (.imm (.int .u8 (IntKind.wrap IntKind.u8 (runeAt s pos).1))), .opt [((12 : Nat), false)] (.imm (.bool (isAlpha (IntKind.wrap IntKind.u8 (runeAt s pos).1)))), .opt [((12 : Nat), false)] (.imm (.bool !isAlpha (IntKind.wrap IntKind.u8 (runeAt s pos).1))), .imm (.bool (decide ((runeAt s pos).1 ≥ 128) || !isAlpha (IntKind.wrap IntKind.u8 (runeAt s pos).1)))] [(0, Ob.mk true 0 (AObj.iter s (pos + (runeAt s pos).2)))] (1
 : Nat) [])) (k AX.normal (St.mk [.imm (.str s), .dead, .imm (.bool false), .dead, .imm (.int IntKind.i32 (runeAt s pos).1), .imm (.str s), .ptr 0 0, .tup [.imm (.bool true), .imm (.int .i64 (↑pos : Int)), .imm (.int IntKind.i32 (runeAt s pos).1)], .imm (.bool true), .imm (.int IntKind.i32 (runeAt s pos).1), .imm (.int IntKind.i32 (runeAt s pos).1), .imm (.bool (decide ((runeAt s pos).1 ≥ 128))), .imm (.bool (decide ((runeAt s pos).1 ≥ 128))), .opt [((12 : Nat), false)] (.imm (.int IntKind.i32 (runeAt s pos).1)), .opt [((12 : Nat), false)] (.imm (.int .u8 (IntKind.wrap IntKind.u8 (runeAt s pos).1))), .opt [((12 : Nat), false)] (.imm (.bool (isAlpha (IntKind.wrap IntKind.u8 (runeAt s pos).1)))), .opt [((12 : Nat), false)] (.imm (.bool !isAlpha (IntKind.wrap IntKind.u8 (runeAt s pos).1))), .imm (.bool (decide ((runeAt s pos).1 ≥ 128) || !isAlpha (IntKind.wrap IntKind.u8 (runeAt s pos).1)))] [(0, Ob.mk true 0 (AObj.iter s (pos + (runeAt s pos).2)))] (1 : Nat) []))) (k (AX.exit (0 : Nat)) (St.mk [.imm (.str s), .dead, .imm (.bool false), .dead, .dead, .imm (.str s), .ptr 0 0, .tup [.imm (.bool false)], .imm (.bool false), .dead, .dead, .dead, .dead, .dead, .dead, .dead, .dead, .dead]
 [(0, Ob.mk true 0 (AObj.iter s pos))] (1 : Nat) []))) := by kernel_rfl
theorem f11_lp (s : List UInt8) (i : Int) (k : AX → St → Prop) : evCode C2 (loopB (bodyOf Tryd.f26) (0 : Nat)) (h11 s i) k = (brn (decide (i < (s.length : Int))) ((0 : Int) ≤ i ∧ i < (s.length : Int) ∧ brn (!isAlpha (↑(UInt8.toNat (List.getD s i.toNat (0 : UInt8))) : Int) && (decide ((↑(UInt8.toNat (List.getD s i.toNat (0 : UInt8))) : Int) < 48) || decide ((↑(UInt8.toNat (List.getD s i.toNat (0 : UInt8))) : Int) > 57)) && (↑(UInt8.toNat (List.getD s i.toNat (0 : UInt8))) : Int) != 43 && (↑(UInt8.toNat (List.getD s i.toNat (0 : UInt8))) : Int) != 45) (k AX.ret (St.mk [.imm (.str s), .dead, .imm (.bool false), .imm (.int .i64 i), .imm (.int .u8 (↑(UInt8.toNat (List.getD s i.toNat (0 : UInt8))) : Int)), .imm (.int .i64 i), .imm (.str s), .imm (.int .i64 (s.length : Int)), .imm (.bool (decide (i < (s.length : Int)))), .dead, .dead, .imm (.str s), .imm (.int .i64 i), .imm (.int .u8 (↑(UInt8.toNat (List.getD s i.toNat (0 : UInt8))) : Int)), .imm (.int .u8 (↑(UInt8.toNat (List.getD s i.toNat (0 : UInt8))) : Int)), .imm (.bool (isAlpha (↑(UInt8.toNat (List.getD s i.toNat (0 : UInt8))) : Int))), .imm (.bool !isAlpha (↑(UInt8.toNat (List.getD s i.toNat (0 : UInt8))) : Int)), .imm (.bool
 !isAlpha (↑(UInt8.toNat (List.getD s i.toNat (0 : UInt8))) : Int)), .opt [((17 : Nat), true)] (.imm (.int .u8 (↑(UInt8.toNat (List.getD s i.toNat (0 : UInt8))) : Int))), .opt [((17 : Nat), true)] (.imm (.bool (decide ((↑(UInt8.toNat (List.getD s i.toNat (0 : UInt8))) : Int) < 48)))), .opt [((17 : Nat), true)] (.imm (.bool (decide ((↑(UInt8.toNat (List.getD s i.toNat (0 : UInt8))) : Int) < 48)))), .opt [((20 : Nat), false), ((17 : Nat), true)] (.imm (.int .u8 (↑(UInt8.toNat (List.getD s i.toNat (0 : UInt8))) : Int))), .opt [((20 : Nat), false), ((17 : Nat), true)] (.imm (.bool (decide ((↑(UInt8.toNat (List.getD s i.toNat (0 : UInt8))) : Int) > 57)))), .opt [((17 : Nat), true)] (.imm (.bool (decide ((↑(UInt8.toNat (List.getD s i.toNat (0 : UInt8))) : Int) < 48) || decide ((↑(UInt8.toNat (List.getD s i.toNat (0 : UInt8))) : Int) > 57)))), .imm (.bool (!isAlpha (↑(UInt8.toNat (List.getD s i.toNat (0 : UInt8))) : Int) && (decide ((↑(UInt8.toNat (List.getD s i.toNat (0 : UInt8))) : Int) < 48) || decide ((↑(UInt8.toNat (List.getD s i.toNat (0 : UInt8))) : Int) > 57)))), .imm (.bool (!isAlpha (↑(UInt8.toNat (List.getD s i.toNat (0 : UInt8))) : Int) && (decide ((↑(UInt8.toNat (List.getD s
 i.toNat (0 : UInt8))) : Int) < 48) || decide ((↑(UInt8.toNat (List.getD s i.toNat (0 : UInt8))) : Int) > 57)))), .opt [((25 : Nat), true)] (.imm (.int .u8 (↑(UInt8.toNat (List.getD s i.toNat (0 : UInt8))) : Int))), .opt [((25 : Nat), true)] (.imm (.bool ((↑(UInt8.toNat (List.getD s i.toNat (0 : UInt8))) : Int) != 43))), .imm (.bool (!isAlpha (↑(UInt8.toNat (List.getD s i.toNat (0 : UInt8))) : Int) && (decide ((↑(UInt8.toNat (List.getD s i.toNat (0 : UInt8))) : Int) < 48) || decide ((↑(UInt8.toNat (List.getD s i.toNat (0 : UInt8))) : Int) > 57)) && (↑(UInt8.toNat (List.getD s i.toNat (0 : UInt8))) : Int) != 43)), .imm (.bool (!isAlpha (↑(UInt8.toNat (List.getD s i.toNat (0 : UInt8))) : Int) && (decide ((↑(UInt8.toNat (List.getD s i.toNat (0 : UInt8))) : Int) < 48) || decide ((↑(UInt8.toNat (List.getD s i.toNat (0 : UInt8))) : Int) > 57)) && (↑(UInt8.toNat (List.getD s i.toNat (0 : UInt8))) : Int) != 43)), .opt [((29 : Nat), true)] (.imm (.int .u8 (↑(UInt8.toNat (List.getD s i.toNat (0 : UInt8))) : Int))), .opt [((29 : Nat), true)] (.imm (.bool ((↑(UInt8.toNat (List.getD s i.toNat (0 : UInt8))) : Int) != 45))), .imm (.bool (!isAlpha (↑(UInt8.toNat (List.getD s i.toNat (0 : UInt8))) :
 Int) && (decide ((↑(UInt8.toNat (List.getD s i.toNat (0 : UInt8))) : Int) < 48) || decide ((↑(UInt8.toNat (List.getD s i.toNat (0 : UInt8))) : Int) > 57)) && (↑(UInt8.toNat (List.getD s i.toNat (0 : UInt8))) : Int) != 43 && (↑(UInt8.toNat (List.getD s i.toNat (0 : UInt8))) : Int) != 45)), .dead, .dead, .dead, .dead, .dead, .dead, .dead, .dead] [] (0 : Nat) [])) (k AX.normal (St.mk [.imm (.str s), .dead, .imm (.bool false), .imm (.int .i64 (IntKind.wrap .i64 (i + 1))), .imm (.int .u8 (↑(UInt8.toNat (List.getD s i.toNat (0 : UInt8))) : Int)), .imm (.int .i64 i), .imm (.str s), .imm (.int .i64 (s.length : Int)), .imm (.bool (decide (i < (s.length : Int)))), .imm (.int .i64 i), .imm (.int .i64 (IntKind.wrap .i64 (i + 1))), .imm (.str s), .imm (.int .i64 i), .imm (.int .u8 (↑(UInt8.toNat (List.getD s i.toNat (0 : UInt8))) : Int)), .imm (.int .u8 (↑(UInt8.toNat (List.getD s i.toNat (0 : UInt8))) : Int)), .imm (.bool (isAlpha (↑(UInt8.toNat (List.getD s i.toNat (0 : UInt8))) : Int))), .imm (.bool !isAlpha (↑(UInt8.toNat (List.getD s i.toNat (0 : UInt8))) : Int)), .imm (.bool !isAlpha (↑(UInt8.toNat (List.getD s i.toNat (0 : UInt8))) : Int)), .opt [((17 : Nat), true)] (.imm (.int .u8
 (↑(UInt8.toNat (List.getD s i.toNat (0 : UInt8))) : Int))), .opt [((17 : Nat), true)] (.imm (.bool (decide ((↑(UInt8.toNat (List.getD s i.toNat (0 : UInt8))) : Int) < 48)))), .opt [((17 : Nat), true)] (.imm (.bool (decide ((↑(UInt8.toNat (List.getD s i.toNat (0 : UInt8))) : Int) < 48)))), .opt [((20 : Nat), false), ((17 : Nat), true)] (.imm (.int .u8 (↑(UInt8.toNat (List.getD s i.toNat (0 : UInt8))) : Int))), .opt [((20 : Nat), false), ((17 : Nat), true)] (.imm (.bool (decide ((↑(UInt8.toNat (List.getD s i.toNat (0 : UInt8))) : Int) > 57)))), .opt [((17 : Nat), true)] (.imm (.bool (decide ((↑(UInt8.toNat (List.getD s i.toNat (0 : UInt8))) : Int) < 48) || decide ((↑(UInt8.toNat (List.getD s i.toNat (0 : UInt8))) : Int) > 57)))), .imm (.bool (!isAlpha (↑(UInt8.toNat (List.getD s i.toNat (0 : UInt8))) : Int) && (decide ((↑(UInt8.toNat (List.getD s i.toNat (0 : UInt8))) : Int) < 48) || decide ((↑(UInt8.toNat (List.getD s i.toNat (0 : UInt8))) : Int) > 57)))), .imm (.bool (!isAlpha (↑(UInt8.toNat (List.getD s i.toNat (0 : UInt8))) : Int) && (decide ((↑(UInt8.toNat (List.getD s i.toNat (0 : UInt8))) : Int) < 48) || decide ((↑(UInt8.toNat (List.getD s i.toNat (0 : UInt8))) : Int) > 57)))),
 .opt [((25 : Nat), true)] (.imm (.int .u8 (↑(UInt8.toNat (List.getD s i.toNat (0 : UInt8))) : Int))), .opt [((25 : Nat), true)] (.imm (.bool ((↑(UInt8.toNat (List.getD s i.toNat (0 : UInt8))) : Int) != 43))), .imm (.bool (!isAlpha (↑(UInt8.toNat (List.getD s i.toNat (0 : UInt8))) : Int) && (decide ((↑(UInt8.toNat (List.getD s i.toNat (0 : UInt8))) : Int) < 48) || decide ((↑(UInt8.toNat (List.getD s i.toNat (0 : UInt8))) : Int) > 57)) && (↑(UInt8.toNat (List.getD s i.toNat (0 : UInt8))) : Int) != 43)), .imm (.bool (!isAlpha (↑(UInt8.toNat (List.getD s i.toNat (0 : UInt8))) : Int) && (decide ((↑(UInt8.toNat (List.getD s i.toNat (0 : UInt8))) : Int) < 48) || decide ((↑(UInt8.toNat (List.getD s i.toNat (0 : UInt8))) : Int) > 57)) && (↑(UInt8.toNat (List.getD s i.toNat (0 : UInt8))) : Int) != 43)), .opt [((29 : Nat), true)] (.imm (.int .u8 (↑(UInt8.toNat (List.getD s i.toNat (0 : UInt8))) : Int))), .opt [((29 : Nat), true)] (.imm (.bool ((↑(UInt8.toNat (List.getD s i.toNat (0 : UInt8))) : Int) != 45))), .imm (.bool (!isAlpha (↑(UInt8.toNat (List.getD s i.toNat (0 : UInt8))) : Int) && (decide ((↑(UInt8.toNat (List.getD s i.toNat (0 : UInt8))) : Int) < 48) || decide ((↑(UInt8.toNat
 (List.getD s i.toNat (0 : UInt8))) : Int) > 57)) && (↑(UInt8.toNat (List.getD s i.toNat (0 : UInt8))) : Int) != 43 && (↑(UInt8.toNat (List.getD s i.toNat (0 : UInt8))) : Int) != 45)), .dead, .dead, .dead, .dead, .dead, .dead, .dead, .dead] [] (0 : Nat) []))) (k (AX.exit (0 : Nat)) (St.mk [.imm (.str s), .dead, .imm (.bool false), .imm (.int .i64 i), .dead, .imm (.int .i64 i), .imm (.str s), .imm (.int .i64 (s.length : Int)), .imm (.bool (decide (i < (s.length : Int)))), .dead, .dead, .dead, .dead, .dead, .dead, .dead, .dead, .dead, .dead, .dead, .dead, .dead, .dead, .dead, .dead, .dead, .dead, .dead, .dead, .dead, .dead, .dead, .dead, .dead, .dead, .dead, .dead, .dead, .dead, .dead, .dead] [] (0 : Nat) []))) := by kernel_rfl
theorem f18_lp (s : List UInt8) (i : Int) (k : AX → St → Prop) : evCode C3 (loopB (bodyOf Tryd.f53) (0 : Nat)) (h18 s i) k = ((decide (i < (s.length : Int)) = true → (0 : Int) ≤ i) ∧ (decide (i < (s.length : Int)) = true → i < (s.length : Int)) ∧ brn (decide (i < (s.length : Int)) && isAlpha (↑(UInt8.toNat (List.getD s i.toNat (0 : UInt8))) : Int)) (k AX.normal (St.mk [.imm (.str s), .dead, .imm (.int .i64 0), .imm (.int .i64 (IntKind.wrap .i64 (i + 1))), .imm (.int .i64 i), .imm (.str s), .imm (.int .i64 (s.length : Int)), .imm (.bool (decide (i < (s.length : Int)))), .imm (.bool (decide (i < (s.length : Int)))), .opt [((8 : Nat), true)] (.imm (.str s)), .opt [((8 : Nat), true)] (.imm (.int .i64 i)), .opt [((8 : Nat), true)] (.imm (.int .u8 (↑(UInt8.toNat (List.getD s i.toNat (0 : UInt8))) : Int))), .opt [((8 : Nat), true)] (.imm (.bool (isAlpha (↑(UInt8.toNat (List.getD s i.toNat (0 : UInt8))) : Int)))), .imm (.bool (decide (i < (s.length : Int)) && isAlpha (↑(UInt8.toNat (List.getD s i.toNat (0 : UInt8))) : Int))), .imm (.int .i64 i), .imm (.int .i64 (IntKind.wrap .i64 (i + 1))), .dead] [] (0 : Nat) [])) (k (AX.exit (0 : Nat)) (St.mk [.imm (.str s), .dead, .imm (.int .i64 0),
 .imm (.int .i64 i), .imm (.int .i64 i), .imm (.str s), .imm (.int .i64 (s.length : Int)), .imm (.bool (decide (i < (s.length : Int)))), .imm (.bool (decide (i < (s.length : Int)))), .opt [((8 : Nat), true)] (.imm (.str s)), .opt [((8 : Nat), true)] (.imm (.int .i64 i)), .opt [((8 : Nat), true)] (.imm (.int .u8 (↑(UInt8.toNat (List.getD s i.toNat (0 : UInt8))) : Int))), .opt [((8 : Nat), true)] (.imm (.bool (isAlpha (↑(UInt8.toNat (List.getD s i.toNat (0 : UInt8))) : Int)))), .imm (.bool (decide (i < (s.length : Int)) && isAlpha (↑(UInt8.toNat (List.getD s i.toNat (0 : UInt8))) : Int))), .dead, .dead, .dead] [] (0 : Nat) []))) := by kernel_rfl
theorem f8_lp (s : List UInt8) (i : Int) (k : AX → St → Prop) : evCode C4 (loopB (bodyOf Tryd.f54) (0 : Nat)) (h8 s i) k = ((decide (i < (s.length : Int)) = true → (0 : Int) ≤ i) ∧ (decide (i < (s.length : Int)) = true → i < (s.length : Int)) ∧ brn (decide (i < (s.length : Int)) && isAlpha (↑(UInt8.toNat (List.getD s i.toNat (0 : UInt8))) : Int)) (k AX.normal (St.mk [.imm (.str s), .dead, .imm (.str []), .imm (.int .i64 0), .imm (.bool false), .imm (.str []), .imm (.int .i64 (IntKind.wrap .i64 (i + 1))), .dead, .dead, .dead, .dead, .dead, .dead, .dead, .dead, .dead, .dead, .dead, .dead, .dead, .dead, .dead, .dead, .dead, .dead, .imm (.int .i64 i), .imm (.str s), .imm (.int .i64 (s.length : Int)), .imm (.bool (decide (i < (s.length : Int)))), .imm (.bool (decide (i < (s.length : Int)))), .opt [((29 : Nat), true)] (.imm (.str s)), .opt [((29 : Nat), true)] (.imm (.int .i64 i)), .opt [((29 : Nat), true)] (.imm (.int .u8 (↑(UInt8.toNat (List.getD s i.toNat (0 : UInt8))) : Int))), .opt [((29 : Nat), true)] (.imm (.bool (isAlpha (↑(UInt8.toNat (List.getD s i.toNat (0 : UInt8))) : Int)))), .imm (.bool (decide (i < (s.length : Int)) && isAlpha (↑(UInt8.toNat (List.getD s i.toNat (0 :
 UInt8))) : Int))), .imm (.int .i64 i), .imm (.int .i64 (IntKind.wrap .i64 (i + 1))), .dead, .dead, .dead, .dead, .dead, .dead, .dead, .dead] [] (0 : Nat) [])) (k (AX.exit (0 : Nat)) (St.mk [.imm (.str s), .dead, .imm (.str []), .imm (.int .i64 0), .imm (.bool false), .imm (.str []), .imm (.int .i64 i), .dead, .dead, .dead, .dead, .dead, .dead, .dead, .dead, .dead, .dead, .dead, .dead, .dead, .dead, .dead, .dead, .dead, .dead, .imm (.int .i64 i), .imm (.str s), .imm (.int .i64 (s.length : Int)), .imm (.bool (decide (i < (s.length : Int)))), .imm (.bool (decide (i < (s.length : Int)))), .opt [((29 : Nat), true)] (.imm (.str s)), .opt [((29 : Nat), true)] (.imm (.int .i64 i)), .opt [((29 : Nat), true)] (.imm (.int .u8 (↑(UInt8.toNat (List.getD s i.toNat (0 : UInt8))) : Int))), .opt [((29 : Nat), true)] (.imm (.bool (isAlpha (↑(UInt8.toNat (List.getD s i.toNat (0 : UInt8))) : Int)))), .imm (.bool (decide (i < (s.length : Int)) && isAlpha (↑(UInt8.toNat (List.getD s i.toNat (0 : UInt8))) : Int))), .dead, .dead, .dead, .dead, .dead, .dead, .dead, .dead, .dead, .dead] [] (0 : Nat) []))) := by kernel_rfl
theorem f9_lp (s : List UInt8) (i : Int) (k : AX → St → Prop) : evCode C4 (loopB (bodyOf Tryd.f42) (0 : Nat)) (h9 s i) k = (brn (decide (i < (s.length : Int))) ((0 : Int) ≤ i ∧ i < (s.length : Int) ∧ brn ((↑(UInt8.toNat (List.getD s i.toNat (0 : UInt8))) : Int) == 62) ((0 : Int) ≤ 1 ∧ (1 : Int) ≤ i ∧ i ≤ (s.length : Int) ∧ (List.take (i.toNat - (1 : Int).toNat) (List.drop (1 : Int).toNat s)).length ≤ 9223372036854775807 ∧ brn (!valid (List.take (i.toNat - (1 : Int).toNat) (List.drop (1 : Int).toNat s))) (k AX.ret (St.mk [.imm (.str s), .dead, .imm (.str []), .imm (.int .i64 0), .imm (.bool false), .imm (.int .i64 i), .dead, .dead, .dead, .dead, .dead, .dead, .dead, .dead, .dead, .imm (.int .i64 i), .imm (.str s), .imm (.int .i64 (s.length : Int)), .imm (.bool (decide (i < (s.length : Int)))), .dead, .dead, .imm (.str s), .imm (.int .i64 i), .imm (.int .u8 (↑(UInt8.toNat (List.getD s i.toNat (0 : UInt8))) : Int)), .imm (.bool ((↑(UInt8.toNat (List.getD s i.toNat (0 : UInt8))) : Int) == 62)), .imm (.str s), .imm (.int .i64 i), .imm (.str (List.take (i.toNat - (1 : Int).toNat) (List.drop (1 : Int).toNat s))), .imm (.bool (valid (List.take (i.toNat - (1 : Int).toNat) (List.drop (1 :
 Int).toNat s)))), .imm (.bool !valid (List.take (i.toNat - (1 : Int).toNat) (List.drop (1 : Int).toNat s))), .dead, .dead, .dead, .dead, .dead, .dead, .dead, .dead, .dead, .dead, .dead, .dead, .dead, .dead, .dead, .dead] [] (0 : Nat) [])) ((0 : Int) ≤ 1 ∧ (1 : Int) ≤ i ∧ i ≤ (s.length : Int) ∧ k AX.ret (St.mk [.imm (.str s), .dead, .imm (.str (List.take (i.toNat - (1 : Int).toNat) (List.drop (1 : Int).toNat s))), .imm (.int .i64 (IntKind.wrap .i64 (i + 1))), .imm (.bool true), .imm (.int .i64 i), .dead, .dead, .dead, .dead, .dead, .dead, .dead, .dead, .dead, .imm (.int .i64 i), .imm (.str s), .imm (.int .i64 (s.length : Int)), .imm (.bool (decide (i < (s.length : Int)))), .dead, .dead, .imm (.str s), .imm (.int .i64 i), .imm (.int .u8 (↑(UInt8.toNat (List.getD s i.toNat (0 : UInt8))) : Int)), .imm (.bool ((↑(UInt8.toNat (List.getD s i.toNat (0 : UInt8))) : Int) == 62)), .imm (.str s), .imm (.int .i64 i), .imm (.str (List.take (i.toNat - (1 : Int).toNat) (List.drop (1 : Int).toNat s))), .imm (.bool (valid (List.take (i.toNat - (1 : Int).toNat) (List.drop (1 : Int).toNat s)))), .imm (.bool !valid (List.take (i.toNat - (1 : Int).toNat) (List.drop (1 : Int).toNat s))), .imm (.str s),
 .imm (.int .i64 i), .imm (.str (List.take (i.toNat - (1 : Int).toNat) (List.drop (1 : Int).toNat s))), .imm (.int .i64 i), .imm (.int .i64 (IntKind.wrap .i64 (i + 1))), .dead, .dead, .dead, .dead, .dead, .dead, .dead, .dead, .dead, .dead, .dead] [] (0 : Nat) []))) (k AX.normal (St.mk [.imm (.str s), .dead, .imm (.str []), .imm (.int .i64 0), .imm (.bool false), .imm (.int .i64 (IntKind.wrap .i64 (i + 1))), .dead, .dead, .dead, .dead, .dead, .dead, .dead, .dead, .dead, .imm (.int .i64 i), .imm (.str s), .imm (.int .i64 (s.length : Int)), .imm (.bool (decide (i < (s.length : Int)))), .imm (.int .i64 i), .imm (.int .i64 (IntKind.wrap .i64 (i + 1))), .imm (.str s), .imm (.int .i64 i), .imm (.int .u8 (↑(UInt8.toNat (List.getD s i.toNat (0 : UInt8))) : Int)), .imm (.bool ((↑(UInt8.toNat (List.getD s i.toNat (0 : UInt8))) : Int) == 62)), .dead, .dead, .dead, .dead, .dead, .dead, .dead, .dead, .dead, .dead, .dead, .dead, .dead, .dead, .dead, .dead, .dead, .dead, .dead, .dead, .dead] [] (0 : Nat) []))) (k (AX.exit (0 : Nat)) (St.mk [.imm (.str s), .dead, .imm (.str []), .imm (.int .i64 0), .imm (.bool false), .imm (.int .i64 i), .dead, .dead, .dead, .dead, .dead, .dead, .dead, .dead, .dead,
 .imm (.int .i64 i), .imm (.str s), .imm (.int .i64 (s.length : Int)), .imm (.bool (decide (i < (s.length : Int)))), .dead, .dead, .dead, .dead, .dead, .dead, .dead, .dead, .dead, .dead, .dead, .dead, .dead, .dead, .dead, .dead, .dead, .dead, .dead, .dead, .dead, .dead, .dead, .dead, .dead, .dead, .dead] [] (0 : Nat) []))) := by kernel_rfl
end B7
set_option maxRecDepth 100000
namespace B7
open Go Go.AE Go.Proofs
attribute [local irreducible] loopK evCode evSpec loopB norm
theorem wrap64 {n : Int} (h1 : -9223372036854775808 ≤ n) (h2 : n ≤ 9223372036854775807) : IntKind.wrap .i64 n = n := by
  have := IntKind.wrap_i64 n
  rw [show IntKind.wrap .i64 n = IntKind.i64.wrap n from rfl, this]; omega
theorem getD_drop {s : List UInt8} {n : Nat} (h : n < s.length) : s.drop n = s.getD n 0 :: s.drop (n + 1) := by
  rw [List.drop_eq_getElem_cons h]
  simp [List.getD_eq_getElem?_getD, List.getElem?_eq_getElem h]
def p18 : Plan := ⟨[], [true, false, true, true], []⟩
theorem f18_ev (s : List UInt8) (hs : s.length ≤ 9223372036854775806) (K : List AV → Prop) (hK : K [i64 (letters s)]) : evSpec C3 Tryd.f53 [.imm (.str s)] K := by
  rw [f18_in]
  unfold LoopI
  refine loop_rule (fun n : Nat => h18 s n) (fun n => n ≤ s.length ∧ letters s = n + letters (s.drop n)) (fun n => s.length - n) (fun n hP K' hnorm hexit => ?_) rfl 0 p18 _ ⟨Nat.zero_le _, by simp⟩ (by kernel_rfl)
  obtain ⟨hle, hl⟩ := hP
  rw [f18_lp]
  refine ⟨fun _ => by omega, fun h => by simpa using h, brn_intro (fun h => ?_) (fun h => ?_)⟩
  · simp only [Bool.and_eq_true, decide_eq_true_eq, Int.toNat_natCast] at h
    have hlt : n < s.length := by omega
    have e : IntKind.wrap .i64 ((n : Int) + 1) = ((n + 1 : Nat) : Int) := by rw [wrap64 (by omega) (by omega)]; rfl
    refine hnorm (n + 1) p18 _ ⟨hlt, ?_⟩ (by omega) (by rw [← e]; kernel_rfl)
    rw [hl, getD_drop hlt]
    have : alphaB (s.getD n 0) = true := h.2
    simp only [letters, List.takeWhile_cons, this, if_true, List.length_cons]
    omega
  · refine hexit _ _ (by simp) ?_
    have hz : letters (s.drop n) = 0 := by
      by_cases hlt : n < s.length
      · have h2 : alphaB (s.getD n 0) = false := by
          simp only [Bool.and_eq_false_iff, decide_eq_false_iff_not, Int.toNat_natCast] at h
          rcases h with h | h
          · omega
          · exact h
        rw [getD_drop hlt]
        rw [letters, List.takeWhile_cons, h2]; rfl
      · rw [List.drop_eq_nil_of_le (by omega)]; rfl
    rw [hl, hz] at hK
    exact Eq.mp (by kernel_rfl) hK
theorem getD_at {s : List UInt8} {n : Nat} (h : n < s.length) (p : UInt8 → Bool) : (s.drop n).all p = (p (s.getD n 0) && (s.drop (n + 1)).all p) := by
  rw [getD_drop h, List.all_cons]
def p11 : Plan := ⟨[], [true, false, true, true], []⟩
theorem goodB_eq (b : UInt8) : (!isAlpha (b.toNat : Int) && (decide ((b.toNat : Int) < 48) || decide ((b.toNat : Int) > 57)) && (b.toNat : Int) != 43 && (b.toNat : Int) != 45) = !goodB b := by
  unfold goodB alphaB
  cases isAlpha (b.toNat : Int) with
  | true => simp
  | false =>
    rw [Bool.eq_iff_iff]
    simp only [Bool.not_false, Bool.true_and, Bool.false_or, Bool.and_eq_true, Bool.or_eq_true, decide_eq_true_eq, bne_iff_ne, ne_eq, Bool.not_eq_true', Bool.or_eq_false_iff, Bool.and_eq_false_iff, decide_eq_false_iff_not, beq_eq_false_iff_ne]
    omega
theorem f11_ev (s : List UInt8) (hs : s.length ≤ 9223372036854775807) (K : List AV → Prop) (hK : K [bo (valid s)]) : evSpec C2 Tryd.f26 [.imm (.str s)] K := by
  rw [f11_in]
  unfold LoopI
  refine loop_rule (fun n : Nat => h11 s n) (fun n => n ≤ s.length ∧ s.all goodB = (s.drop n).all goodB) (fun n => s.length - n) (fun n hP K' hnorm hexit => ?_) rfl 0 p11 _ ⟨Nat.zero_le _, by simp⟩ (by kernel_rfl)
  obtain ⟨hle, hl⟩ := hP
  rw [f11_lp]
  refine brn_intro (fun h => ?_) (fun h => ?_)
  · have hlt : n < s.length := by simpa using h
    refine ⟨by omega, by omega, ?_⟩
    rw [getD_at hlt] at hl
    refine brn_intro (fun h => ?_) (fun h => ?_)
    · refine hexit _ _ (by simp) ?_
      rw [goodB_eq, Int.toNat_natCast, Bool.not_eq_true'] at h
      have hv : valid s = false := by unfold valid; rw [hl, h]; rfl
      rw [hv] at hK
      exact Eq.mp (by kernel_rfl) hK
    · rw [goodB_eq, Int.toNat_natCast, Bool.not_eq_false'] at h
      have e : IntKind.wrap .i64 ((n : Int) + 1) = ((n + 1 : Nat) : Int) := by rw [wrap64 (by omega) (by omega)]; rfl
      refine hnorm (n + 1) p11 _ ⟨hlt, ?_⟩ (by omega) (by rw [← e]; kernel_rfl)
      rw [hl, h, Bool.true_and]
  · have hge : ¬ n < s.length := by simpa using h
    refine hexit _ _ (by simp) ?_
    have hv : valid s = (decide ((s.length : Int) ≥ 3) && decide ((s.length : Int) ≤ 255)) := by
      unfold valid
      rw [hl, List.drop_eq_nil_of_le (by omega), List.all_nil, Bool.true_and]
      congr 1 <;> rw [Bool.eq_iff_iff] <;> simp <;> omega
    rw [hv] at hK
    exact Eq.mp (by kernel_rfl) hK
end B7
set_option maxRecDepth 100000
namespace B7
open Go Go.AE Go.Proofs
attribute [local irreducible] loopK evCode evSpec loopB norm
theorem rune_low {s : List UInt8} {n : Nat} (h : n < s.length) (hb : (s.getD n 0).toNat < 128) : runeAt s n = (((s.getD n 0).toNat : Int), 1) := by
  have hg : s.getD n 0 = s[n] := by simp [List.getD_eq_getElem?_getD, List.getElem?_eq_getElem h]
  have hsz : n < (⟨s.toArray⟩ : ByteArray).size := by simpa [ByteArray.size] using h
  have he : (⟨s.toArray⟩ : ByteArray)[n]'hsz = s[n] := by
    show s.toArray[n] = s[n]
    simp
  unfold runeAt
  rw [decode_ascii ⟨s.toArray⟩ n hsz (by rw [he, ← hg]; exact hb), he, hg]
theorem rune_high {s : List UInt8} {n : Nat} (h : n < s.length) (hb : ¬ (s.getD n 0).toNat < 128) : 128 ≤ (runeAt s n).1 := by
  have hg : s.getD n 0 = s[n] := by simp [List.getD_eq_getElem?_getD, List.getElem?_eq_getElem h]
  have hsz : n < (⟨s.toArray⟩ : ByteArray).size := by simpa [ByteArray.size] using h
  have he : (⟨s.toArray⟩ : ByteArray)[n]'hsz = s[n] := by
    show s.toArray[n] = s[n]
    simp
  have := (decode_high ⟨s.toArray⟩ n hsz (by rw [he, ← hg]; omega)).1
  unfold runeAt
  simp only
  omega
theorem alphaB_high {b : UInt8} (hb : ¬ b.toNat < 128) : alphaB b = false := by
  unfold alphaB isAlpha
  simp
  omega
theorem goodB_high {b : UInt8} (hb : ¬ b.toNat < 128) : goodB b = false := by
  unfold goodB
  rw [alphaB_high hb]
  simp
  omega
theorem wrap_low {n : Nat} (h : n < 128) : IntKind.wrap .u8 (n : Int) = n := by
  have := IntKind.wrap_u8 n
  rw [show IntKind.wrap .u8 (n : Int) = IntKind.u8.wrap n from rfl, this]; omega
theorem allowed_rune {s : List UInt8} {n : Nat} (h : n < s.length) : allowed (runeAt s n).1 = goodB (s.getD n 0) := by
  by_cases hb : (s.getD n 0).toNat < 128
  · rw [rune_low h hb]
    unfold allowed goodB alphaB
    simp only [wrap_low hb]
    generalize isAlpha _ = x
    generalize (s.getD n 0).toNat = m at hb
    rw [Bool.eq_iff_iff]
    cases x <;> simp <;> omega
  · have hr := rune_high h hb
    rw [goodB_high hb]
    unfold allowed
    simp
    omega
def p10 : Plan := ⟨[], [true, false, true, false, false, true, true], [0]⟩
theorem f10_ev (s : List UInt8) (K : List AV → Prop) (hK : K [bo (valid s)]) : evSpec C2 Tryd.f58 [.imm (.str s)] K := by
  rw [f10_in]
  unfold LoopI
  refine loop_rule (fun n : Nat => h10 s n) (fun n => s.all goodB = (s.drop n).all goodB) (fun n => s.length - n) (fun n hl K' hnorm hexit => ?_) rfl 0 p10 _ (by simp) (by kernel_rfl)
  rw [f10_lp]
  refine brn_intro (fun h => ?_) (fun h => ?_)
  · have hlt : n < s.length := by simpa using h
    rw [getD_at hlt] at hl
    refine brn_intro (fun h => ?_) (fun h => ?_)
    · refine hexit _ _ (by simp) ?_
      rw [allowed_rune hlt, Bool.not_eq_true'] at h
      have hv : valid s = false := by unfold valid; rw [hl, h]; rfl
      rw [hv] at hK
      exact Eq.mp (by kernel_rfl) hK
    · rw [allowed_rune hlt, Bool.not_eq_false'] at h
      have hb : (s.getD n 0).toNat < 128 := by
        by_cases hb : (s.getD n 0).toNat < 128
        · exact hb
        · rw [goodB_high hb] at h; cases h
      have e : n + (runeAt s n).2 = n + 1 := by rw [rune_low hlt hb]
      refine hnorm (n + 1) p10 _ ?_ (by omega) (by rw [← e]; kernel_rfl)
      rw [hl, h, Bool.true_and]
  · have hge : ¬ n < s.length := by simpa using h
    refine hexit _ _ (by simp) ?_
    have hv : valid s = (decide ((s.length : Int) ≥ 3) && decide ((s.length : Int) ≤ 255)) := by
      unfold valid
      rw [hl, List.drop_eq_nil_of_le (by omega), List.all_nil, Bool.true_and]
      congr 1 <;> rw [Bool.eq_iff_iff] <;> simp <;> omega
    rw [hv] at hK
    exact Eq.mp (by kernel_rfl) hK
theorem bare_rune {s : List UInt8} {n : Nat} (h : n < s.length) : (decide ((runeAt s n).1 ≥ 128) || !isAlpha (IntKind.wrap .u8 (runeAt s n).1)) = !alphaB (s.getD n 0) := by
  by_cases hb : (s.getD n 0).toNat < 128
  · rw [rune_low h hb]
    unfold alphaB
    simp only [wrap_low hb]
    generalize isAlpha _ = x
    generalize (s.getD n 0).toNat = m at hb
    cases x <;> simp <;> omega
  · have hr := rune_high h hb
    rw [alphaB_high hb]
    simp
    omega
def p20 : Plan := ⟨[], [true, false, true, false, false, true, true], [0]⟩
theorem f20_ev (s : List UInt8) (K : List AV → Prop) (hK : K [bo (bare s)]) : evSpec C2 Tryd.f50 [.imm (.str s)] K := by
  rw [f20_in]
  unfold LoopI
  refine loop_rule (fun n : Nat => h20 s n) (fun n => s.all alphaB = (s.drop n).all alphaB) (fun n => s.length - n) (fun n hl K' hnorm hexit => ?_) rfl 0 p20 _ (by simp) (by kernel_rfl)
  rw [f20_lp]
  refine brn_intro (fun h => ?_) (fun h => ?_)
  · have hlt : n < s.length := by simpa using h
    rw [getD_at hlt] at hl
    refine brn_intro (fun h => ?_) (fun h => ?_)
    · refine hexit _ _ (by simp) ?_
      rw [bare_rune hlt, Bool.not_eq_true'] at h
      have hv : bare s = false := by unfold bare; rw [hl, h]; rfl
      rw [hv] at hK
      exact Eq.mp (by kernel_rfl) hK
    · rw [bare_rune hlt, Bool.not_eq_false'] at h
      have hb : (s.getD n 0).toNat < 128 := by
        by_cases hb : (s.getD n 0).toNat < 128
        · exact hb
        · rw [alphaB_high hb] at h; cases h
      have e : n + (runeAt s n).2 = n + 1 := by rw [rune_low hlt hb]
      refine hnorm (n + 1) p20 _ ?_ (by omega) (by rw [← e]; kernel_rfl)
      rw [hl, h, Bool.true_and]
  · have hge : ¬ n < s.length := by simpa using h
    refine hexit _ _ (by simp) ?_
    have hv : bare s = true := by
      unfold bare
      rw [hl, List.drop_eq_nil_of_le (by omega), List.all_nil]
    rw [hv] at hK
    exact Eq.mp (by kernel_rfl) hK
theorem ok10 : ∀ args pres res, sValid args = some (pres, res) → SpecOK Tryd.prog G0 58 args pres res := by
  intro args pres res h
  unfold sValid at h
  split at h
  case h_2 => cases h
  cases h
  exact mk okE2 at10 (by decide) rfl (fun _ K hK => f10_ev _ K hK)
theorem ok11 : ∀ args pres res, sValid args = some (pres, res) → SpecOK Tryd.prog G0 26 args pres res := by
  intro args pres res h
  unfold sValid at h
  split at h
  case h_2 => cases h
  cases h
  exact mk okE2 at11 (by decide) rfl (fun hp K hK => f11_ev _ (hp _ (by simp)) K hK)
theorem ok20 : ∀ args pres res, sBare args = some (pres, res) → SpecOK Tryd.prog G0 50 args pres res := by
  intro args pres res h
  unfold sBare at h
  split at h
  case h_2 => cases h
  cases h
  exact mk okE2 at20 (by decide) rfl (fun _ K hK => f20_ev _ K hK)
theorem okE3 : EOK Tryd.prog E3 G0 := addE_ok (addE_ok (addE_ok okE2 ok10) ok11) ok20
theorem ok18 : ∀ args pres res, sLetters args = some (pres, res) → SpecOK Tryd.prog G0 53 args pres res := by
  intro args pres res h
  unfold sLetters at h
  split at h
  case h_2 => cases h
  cases h
  exact mk okE3 at18 (by decide) rfl (fun hp K hK => f18_ev _ (hp _ (by simp)) K hK)
end B7
set_option maxRecDepth 100000
namespace B7
open Go Go.AE Go.Proofs
attribute [local irreducible] loopK evCode evSpec loopB norm
theorem pfx_len {s t : List UInt8} (h : pfx s t = true) : t.length ≤ s.length := by
  rw [pfx_eq] at h
  simp at h
  exact h.1
theorem ok21 : ∀ args pres res, sCut args = some (pres, res) → SpecOK Tryd.prog G0 76 args pres res := by
  intro args pres res h
  unfold sCut at h
  split at h
  case h_2 => cases h
  cases h
  rename_i s t
  refine mk okE3 at21 (by decide) rfl (fun _ K hK => ?_)
  rw [show cx E3 = C3 from rfl, f21_in]
  unfold bo st at hK
  refine brn_intro (fun h => ?_) (fun h => ?_)
  · rw [Bool.not_eq_true'] at h
    rw [h] at hK
    exact hK
  · rw [Bool.not_eq_false'] at h
    have hl := pfx_len h
    refine ⟨by omega, by omega, ?_⟩
    rw [h] at hK
    have e : List.take (s.length - Int.toNat (t.length : Int)) (List.drop (Int.toNat (t.length : Int)) s) = s.drop t.length := by
      rw [Int.toNat_natCast, List.take_of_length_le (by simp)]
    rw [e]
    exact hK
def E3b := addE (addE E3 53 sLetters) 76 sCut
theorem okE3b : EOK Tryd.prog E3b G0 := addE_ok (addE_ok okE3 ok18) ok21
theorem f16_in (s t : List UInt8) (K : List AV → Prop) : evSpec (cx E3b) Tryd.f70 [.imm (.str s), .imm (.str t)] K = K [st (if pfx s t then s.drop t.length else s), bo (pfx s t)] := by kernel_rfl
theorem ok16 : ∀ args pres res, sCut args = some (pres, res) → SpecOK Tryd.prog G0 70 args pres res := by
  intro args pres res h
  unfold sCut at h
  split at h
  case h_2 => cases h
  cases h
  exact mk okE3b at16 (by decide) rfl (fun _ K hK => by rw [f16_in]; exact hK)
theorem okE4 : EOK Tryd.prog E4 G0 := addE_ok okE3b ok16
theorem letters_bare (s : List UInt8) : (((letters s : Nat) : Int) == (s.length : Int)) = bare s := by
  unfold letters bare
  rw [Bool.eq_iff_iff]
  simp only [beq_iff_eq, Int.natCast_inj]
  induction s with
  | nil => simp
  | cons b r ih =>
    cases h : alphaB b with
    | true => simp [List.takeWhile_cons, h, ih]
    | false => simp [List.takeWhile_cons, h]
theorem ok14 : ∀ args pres res, sFmt args = some (pres, res) → SpecOK Tryd.prog G0 29 args pres res := by
  intro args pres res h
  unfold sFmt at h
  split at h
  case h_2 => cases h
  cases h
  rename_i s
  refine mk okE4 at14 (by decide) rfl (fun hp K hK => ?_)
  have hl : s.length ≤ 9223372036854775800 := hp _ (by simp)
  rw [show cx E4 = C4 from rfl, f14_in]
  unfold st fmt at hK
  refine brn_intro (fun h => ?_) (fun h => ?_)
  · rw [h] at hK; exact hK
  · rw [h] at hK
    refine ⟨by simp; omega, by simp; omega, ?_⟩
    exact hK
theorem ok15 : ∀ args pres res, sFmt args = some (pres, res) → SpecOK Tryd.prog G0 31 args pres res := by
  intro args pres res h
  unfold sFmt at h
  split at h
  case h_2 => cases h
  cases h
  rename_i s
  refine mk okE4 at15 (by decide) rfl (fun hp K hK => ?_)
  have hl : s.length ≤ 9223372036854775800 := hp _ (by simp)
  rw [show cx E4 = C4 from rfl, f15_in]
  unfold st fmt at hK
  simp only [letters_bare]
  first
  | refine ⟨by omega, ?_⟩
  | skip
  refine brn_intro (fun h => ?_) (fun h => ?_)
  · rw [h] at hK; exact hK
  · rw [h] at hK
    refine ⟨by simp; omega, by simp; omega, ?_⟩
    exact hK
end B7
set_option maxRecDepth 100000
namespace B7
open Go Go.AE Go.Proofs
theorem f8_out (s : List
  UInt8) (i : Int) (K : List AV →
  Prop) : loopK C4 (bodyOf Tryd.f54) (0 : Nat) (finK C4 Tryd.f54 K) (AX.exit (0 : Nat))
  (St.mk
    (let y :=
      let y :=
        let y := [AV.dead, AV.dead, AV.dead, AV.dead, AV.dead, AV.dead];
        AV.opt [((29 : Nat), true)]
            (AV.imm (IV.bool (isAlpha (↑(UInt8.toNat (List.getD s (Int.toNat i) (0 : UInt8))) : Int)))) ::
          AV.imm
              (IV.bool
                (decide (i < (↑(List.length s) : Int)) &&
                  isAlpha (↑(UInt8.toNat (List.getD s (Int.toNat i) (0 : UInt8))) : Int))) ::
            AV.dead :: AV.dead :: AV.dead :: AV.dead :: y;
      let y :=
        AV.imm (IV.int IntKind.i64 (↑(List.length s) : Int)) ::
          AV.imm (IV.bool (decide (i < (↑(List.length s) : Int)))) ::
            AV.imm (IV.bool (decide (i < (↑(List.length s) : Int)))) ::
              AV.opt [((29 : Nat), true)] (AV.imm (IV.str s)) ::
                AV.opt [((29 : Nat), true)] (AV.imm (IV.int IntKind.i64 i)) ::
                  AV.opt [((29 : Nat), true)]
                      (AV.imm (IV.int IntKind.u8 (↑(UInt8.toNat (List.getD s (Int.toNat i) (0 : UInt8))) : Int))) ::
                    y;
      AV.dead :: AV.dead :: AV.dead :: AV.imm (IV.int IntKind.i64 i) :: AV.imm (IV.str s) :: y;
    let y :=
      let y := AV.dead :: AV.dead :: AV.dead :: AV.dead :: AV.dead :: AV.dead :: y;
      AV.dead :: AV.dead :: AV.dead :: AV.dead :: AV.dead :: y;
    let y := AV.imm (IV.str []) :: AV.imm (IV.int IntKind.i64 i) :: AV.dead :: AV.dead :: AV.dead :: AV.dead :: y;
    AV.imm (IV.str s) ::
      AV.dead :: AV.imm (IV.str []) :: AV.imm (IV.int IntKind.i64 (0 : Int)) :: AV.imm (IV.bool false) :: y)
    [] (0 : Nat) []) =
  ((0 : Int) ≤ i ∧
  i ≤ (↑(List.length s) : Int) ∧
    List.length (List.take (Int.toNat i - (0 : Nat)) (List.drop (0 : Nat) s)) ≤ (9223372036854775807 : Nat) ∧
      brn (!valid (List.take (Int.toNat i - (0 : Nat)) (List.drop (0 : Nat) s)))
        (K [AV.imm (IV.str []), AV.imm (IV.int IntKind.i64 (0 : Int)), AV.imm (IV.bool false)])
        (K
          [AV.imm (IV.str (List.take (Int.toNat i - (0 : Nat)) (List.drop (0 : Nat) s))), AV.imm (IV.int IntKind.i64 i),
            AV.imm (IV.bool true)])) := by kernel_rfl
theorem f9_out (s : List
  UInt8) (i : Int) (K : List AV →
  Prop) : loopK C4 (bodyOf Tryd.f42) (0 : Nat) (finK C4 Tryd.f42 K) (AX.exit (0 : Nat))
  (St.mk
    (let y :=
      let y :=
        let y := [AV.dead, AV.dead, AV.dead, AV.dead, AV.dead, AV.dead];
        AV.dead :: AV.dead :: AV.dead :: AV.dead :: AV.dead :: AV.dead :: y;
      let y := AV.dead :: AV.dead :: AV.dead :: AV.dead :: AV.dead :: AV.dead :: y;
      AV.dead :: AV.dead :: AV.dead :: AV.dead :: AV.dead :: y;
    let y :=
      let y :=
        AV.imm (IV.int IntKind.i64 (↑(List.length s) : Int)) ::
          AV.imm (IV.bool (decide (i < (↑(List.length s) : Int)))) :: AV.dead :: AV.dead :: AV.dead :: AV.dead :: y;
      AV.dead :: AV.dead :: AV.dead :: AV.dead :: AV.imm (IV.int IntKind.i64 i) :: AV.imm (IV.str s) :: y;
    let y := AV.imm (IV.int IntKind.i64 i) :: AV.dead :: AV.dead :: AV.dead :: AV.dead :: AV.dead :: y;
    AV.imm (IV.str s) ::
      AV.dead :: AV.imm (IV.str []) :: AV.imm (IV.int IntKind.i64 (0 : Int)) :: AV.imm (IV.bool false) :: y)
    [] (0 : Nat) []) =
  (K [AV.imm (IV.str []), AV.imm (IV.int IntKind.i64 (0 : Int)), AV.imm (IV.bool false)]) := by kernel_rfl
end B7
set_option maxRecDepth 100000
namespace B7
open Go Go.AE Go.Proofs
attribute [local irreducible] loopK evCode evSpec loopB norm
theorem letters_le (s : List UInt8) : letters s ≤ s.length := by unfold letters; exact (List.takeWhile_sublist _).length_le
theorem pfx60 (s : List UInt8) : (∃ r, s = 60 :: r ∧ pfx s [60] = true) ∨ (pfx s [60] = false ∧ parse s = parseP s) := by
  cases s with
  | nil => exact .inr ⟨rfl, rfl⟩
  | cons b r =>
    by_cases h : b = 60
    · subst h; exact .inl ⟨r, rfl, by simp [pfx]⟩
    · right
      refine ⟨by
        rw [pfx_eq]
        simp [h], by simp [parse, h]⟩
def p8 : Plan := ⟨[], [true, false, true, true, true, true, true], []⟩
theorem f8_ev (s : List UInt8) (hs : s.length ≤ 9223372036854775800) (K : List AV → Prop) (hK : K [st (parse s).1, i64 (parse s).2.1, bo (parse s).2.2]) : evSpec C4 Tryd.f54 [.imm (.str s)] K := by
  rw [f8_in]
  unfold st i64 bo at hK
  refine brn_intro (fun h => ?_) (fun h => ?_)
  · rcases pfx60 s with ⟨r, rfl, hp⟩ | ⟨hp, _⟩
    case inr => rw [hp] at h; cases h
    have e : (if pfx (60 :: r) [60] = true then List.drop (List.length [(60 : UInt8)]) (60 :: r) else (60 :: r)) = r := by rw [if_pos hp]; rfl
    simp only [e]
    have hpar : parse (60 :: r) = parseQ r := by simp [parse]
    rw [hpar] at hK
    simp only [List.length_cons] at hs
    refine ⟨by decide, by decide, ?_⟩
    have hidx : idx r 62 = if place r 62 < r.length then (place r 62 : Int) else -1 := rfl
    rw [hidx]
    unfold parseQ at hK
    by_cases hl : place r 62 < r.length
    · rw [if_pos hl] at hK ⊢
      simp only [Int.toNat_natCast, Nat.sub_zero, List.drop_zero]
      refine brn_intro (fun h => ?_) (fun _ => ?_)
      · simp at h; omega
      refine ⟨by omega, by omega, by simp; omega, ?_⟩
      refine brn_intro (fun h => ?_) (fun h => ?_)
      · rw [Bool.not_eq_true'] at h
        rw [h] at hK
        exact hK
      · rw [Bool.not_eq_false'] at h
        rw [h, if_pos rfl] at hK
        rw [wrap64 (by omega) (by omega)]
        exact hK
    · rw [if_neg hl] at hK ⊢
      exact hK
  · rcases pfx60 s with ⟨r, rfl, hp⟩ | ⟨hp, hpar⟩
    · rw [hp] at h; cases h
    rw [hpar] at hK
    unfold parseP at hK
    unfold LoopI
    refine loop_rule (fun n : Nat => h8 s n) (fun n => n ≤ s.length ∧ letters s = n + letters (s.drop n)) (fun n => s.length - n) (fun n hP K' hnorm hexit => ?_) rfl 0 p8 _ ⟨Nat.zero_le _, by simp⟩ (by kernel_rfl)
    obtain ⟨hle, hl⟩ := hP
    rw [f8_lp]
    refine ⟨fun _ => by omega, fun h => by simpa using h, brn_intro (fun h => ?_) (fun h => ?_)⟩
    · simp only [Bool.and_eq_true, decide_eq_true_eq, Int.toNat_natCast] at h
      have hlt : n < s.length := by omega
      have e : IntKind.wrap .i64 ((n : Int) + 1) = ((n + 1 : Nat) : Int) := by rw [wrap64 (by omega) (by omega)]; rfl
      refine hnorm (n + 1) p8 _ ⟨hlt, ?_⟩ (by omega) (by rw [← e]; kernel_rfl)
      rw [hl, getD_drop hlt]
      have : alphaB (s.getD n 0) = true := h.2
      simp only [letters, List.takeWhile_cons, this, if_true, List.length_cons]
      omega
    · refine hexit _ _ (by simp) ?_
      have hz : letters (s.drop n) = 0 := by
        by_cases hlt : n < s.length
        · have h2 : alphaB (s.getD n 0) = false := by
            simp only [Bool.and_eq_false_iff, decide_eq_false_iff_not, Int.toNat_natCast] at h
            rcases h with h | h
            · omega
            · exact h
          rw [getD_drop hlt]
          rw [letters, List.takeWhile_cons, h2]; rfl
        · rw [List.drop_eq_nil_of_le (by omega)]; rfl
      have hn : letters s = n := by omega
      rw [hn] at hK
      rw [f8_out]
      refine ⟨by omega, by omega, by simp; omega, ?_⟩
      simp only [Int.toNat_natCast, Nat.sub_zero, List.drop_zero]
      refine brn_intro (fun h => ?_) (fun h => ?_)
      · rw [Bool.not_eq_true'] at h
        rw [h] at hK
        exact hK
      · rw [Bool.not_eq_false'] at h
        rw [h, if_pos rfl] at hK
        exact hK
end B7
set_option maxRecDepth 100000
namespace B7
open Go Go.AE Go.Proofs
attribute [local irreducible] loopK evCode evSpec loopB norm
def p9 : Plan := ⟨[], [true, false, true, true, true, true], []⟩
theorem place_cons (b : UInt8) (r : List UInt8) (c : UInt8) : place (b :: r) c = if b = c then 0 else place r c + 1 := by
  unfold place
  by_cases h : b = c <;> simp [List.takeWhile_cons, h]
theorem parse60 (r : List UInt8) : parse (60 :: r) = parseQ r := by simp [parse]
theorem t60 : (60 : UInt8).toNat = 60 := rfl
theorem t62 : (62 : UInt8).toNat = 62 := rfl
theorem f9_ev (s : List UInt8) (hs : s.length ≤ 9223372036854775800) (K : List AV → Prop) (hK : K [st (parse s).1, i64 (parse s).2.1, bo (parse s).2.2]) : evSpec C4 Tryd.f42 [.imm (.str s)] K := by
  rw [f9_in]
  unfold st i64 bo at hK
  refine ⟨fun _ => by omega, fun h => by simpa using h, brn_intro (fun h => ?_) (fun h => ?_)⟩
  · obtain ⟨r, rfl⟩ : ∃ r, s = 60 :: r := by
      cases s with
      | nil => simp at h
      | cons b r =>
        simp at h
        exact ⟨r, by rw [show b = 60 from UInt8.toNat_inj.1 (by rw [t60]; omega)]⟩
    clear h
    rw [parse60] at hK
    simp only [List.length_cons] at hs
    unfold LoopI
    refine loop_rule (fun m : Nat => h9 (60 :: r) ((m + 1 : Nat) : Int)) (fun m => m ≤ r.length ∧ place r 62 = m + place (r.drop m) 62) (fun m => r.length - m) (fun m hP K' hnorm hexit => ?_) rfl 0 p9 _ ⟨Nat.zero_le _, by simp⟩ (by kernel_rfl)
    obtain ⟨hle, hl⟩ := hP
    rw [f9_lp]
    refine brn_intro (fun h => ?_) (fun h => ?_)
    · have hlt : m < r.length := by simp at h; omega
      rw [getD_drop hlt, place_cons] at hl
      have hg : (60 :: r).getD ((m + 1 : Nat) : Int).toNat 0 = r.getD m 0 := by rw [Int.toNat_natCast, List.getD_cons_succ]
      have hcut : List.take (Int.toNat ((m + 1 : Nat) : Int) - Int.toNat 1) (List.drop (Int.toNat 1) (60 :: r)) = r.take m := by
        rw [Int.toNat_natCast]; rfl
      rw [hg]
      refine ⟨by omega, by simp; omega, brn_intro (fun h => ?_) (fun h => ?_)⟩
      · have h62 : r.getD m 0 = 62 := by
          have h' : ((r.getD m 0).toNat : Int) = 62 := beq_iff_eq.1 h
          exact UInt8.toNat_inj.1 (by rw [t62]; omega)
        rw [h62, if_pos rfl] at hl
        have hpl : place r 62 = m := by omega
        unfold parseQ at hK
        rw [hpl, if_pos hlt] at hK
        refine ⟨by omega, by omega, by simp; omega, by rw [hcut]; simp; omega, brn_intro (fun h => ?_) (fun h => ?_)⟩
        · rw [hcut, Bool.not_eq_true'] at h
          rw [h] at hK
          refine hexit _ _ (by simp) ?_
          exact Eq.mp (by kernel_rfl) hK
        · rw [hcut, Bool.not_eq_false'] at h
          rw [h, if_pos rfl] at hK
          refine ⟨by omega, by omega, by simp; omega, ?_⟩
          refine hexit _ _ (by simp) ?_
          have e2 : IntKind.wrap .i64 (((m + 1 : Nat) : Int) + 1) = (m : Int) + 2 := by rw [wrap64 (by omega) (by omega)]; omega
          simp only [] at hK
          rw [← hcut, ← e2] at hK
          exact Eq.mp (by kernel_rfl) hK
      · have h62 : r.getD m 0 ≠ 62 := by
          intro e
          rw [e] at h
          simp at h
        rw [if_neg h62] at hl
        have e : IntKind.wrap .i64 (((m + 1 : Nat) : Int) + 1) = ((m + 1 + 1 : Nat) : Int) := by rw [wrap64 (by omega) (by omega)]; omega
        refine hnorm (m + 1) p9 _ ⟨hlt, by omega⟩ (by omega) (by rw [← e]; kernel_rfl)
    · have hge : ¬ m < r.length := by simp at h; omega
      refine hexit _ _ (by simp) ?_
      rw [f9_out]
      unfold parseQ at hK
      rw [hl, List.drop_eq_nil_of_le (by omega)] at hK
      have : place [] 62 = 0 := rfl
      rw [this, if_neg (by omega)] at hK
      exact hK
  · have hpar : parse s = parseP s := by
      cases s with
      | nil => rfl
      | cons b r =>
        by_cases hb : b = 60
        · subst hb; simp at h
        · simp [parse, hb]
    rw [hpar] at hK
    unfold parseP at hK
    have hle := letters_le s
    refine ⟨by omega, by omega, by omega, by simp; omega, ?_⟩
    simp only [Int.toNat_natCast, Nat.sub_zero, List.drop_zero]
    refine brn_intro (fun h => ?_) (fun h => ?_)
    · rw [Bool.not_eq_true'] at h
      rw [h] at hK
      exact hK
    · rw [Bool.not_eq_false'] at h
      rw [h, if_pos rfl] at hK
      exact ⟨by omega, by omega, hK⟩
end B7
set_option maxRecDepth 100000
namespace B7
open Go Go.AE Go.Proofs
attribute [local irreducible] loopK evCode evSpec loopB norm
theorem ok8 : ∀ args pres res, sParse args = some (pres, res) → SpecOK Tryd.prog G0 54 args pres res := by
  intro args pres res h
  unfold sParse at h
  split at h
  case h_2 => cases h
  cases h
  exact mk okE4 at8 (by decide) rfl (fun hp K hK => f8_ev _ (hp _ (by simp)) K hK)
theorem ok9 : ∀ args pres res, sParse args = some (pres, res) → SpecOK Tryd.prog G0 42 args pres res := by
  intro args pres res h
  unfold sParse at h
  split at h
  case h_2 => cases h
  cases h
  exact mk okE4 at9 (by decide) rfl (fun hp K hK => f9_ev _ (hp _ (by simp)) K hK)
theorem okE5 : EOK Tryd.prog E5 G0 := addE_ok (addE_ok (addE_ok (addE_ok okE4 ok8) ok9) ok14) ok15
end B7
set_option maxRecDepth 100000
namespace B7
open Go Go.AE Go.Proofs
attribute [local irreducible] loopK evCode evSpec loopB norm
theorem valid_len {s : List UInt8} (h : valid s = true) : 3 ≤ s.length ∧ s.length ≤ 255 := by
  unfold valid at h
  simp only [Bool.and_eq_true, decide_eq_true_eq] at h
  exact h.2
theorem valid_good {s : List UInt8} (h : valid s = true) : ∀ b ∈ s, goodB b = true := by
  unfold valid at h
  simp only [Bool.and_eq_true, List.all_eq_true] at h
  exact h.1
theorem good62 {b : UInt8} (h : goodB b = true) : b ≠ 62 := by
  rintro rfl
  exact absurd h (by decide)
theorem place_append {s u : List UInt8} {c : UInt8} (h : ∀ b ∈ s, b ≠ c) : place (s ++ c :: u) c = s.length := by
  induction s with
  | nil => simp [place]
  | cons b s ih =>
    have h1 : b ≠ c := h b (by simp)
    rw [List.cons_append, place_cons, if_neg h1, ih (fun b hb => h b (by simp [hb]))]
    rfl
theorem letters_append {s u : List UInt8} (h : bare s = true) (hu : u = [] ∨ alphaB (u.getD 0 0) = false) : letters (s ++ u) = s.length := by
  unfold letters
  unfold bare at h
  rw [List.all_eq_true] at h
  rw [List.takeWhile_append_of_pos h]
  have : u.takeWhile alphaB = [] := by
    rcases hu with rfl | hu
    · rfl
    · cases u with
      | nil => rfl
      | cons b u =>
        have hu' : alphaB b = false := hu
        simp [List.takeWhile_cons, hu']
  rw [this]
  simp
theorem parseQ_of {s u : List UInt8} (hv : valid s = true) : parseQ (s ++ 62 :: u) = (s, (s.length : Int) + 2, true) := by
  have hp : place (s ++ 62 :: u) 62 = s.length := place_append (fun b hb => good62 (valid_good hv b hb))
  unfold parseQ
  rw [hp, if_pos (by simp), List.take_left', if_pos hv]
  rfl
theorem parse_fmt {s u : List UInt8} (hv : valid s = true) (hu : u = [] ∨ alphaB (u.getD 0 0) = false) : parse (fmt s ++ u) = (s, ((fmt s).length : Int), true) := by
  unfold fmt
  by_cases hb : bare s = true
  · rw [if_pos hb]
    have hl := letters_append hb hu
    have hp : parse (s ++ u) = parseP (s ++ u) := by
      cases s with
      | nil => exact absurd (valid_len hv).1 (by simp)
      | cons b r =>
        have : alphaB b = true := by
          unfold bare at hb
          rw [List.all_eq_true] at hb
          exact hb b (by simp)
        have h60 : b ≠ 60 := by
          rintro rfl
          exact absurd this (by decide)
        simp [parse, h60]
    rw [hp]
    unfold parseP
    rw [hl, List.take_left', if_pos hv]
    rfl
  · rw [if_neg hb]
    have : [60] ++ s ++ [62] ++ u = 60 :: (s ++ 62 :: u) := by simp
    rw [this, parse60, parseQ_of hv]
    simp only [List.length_append, List.length_cons, List.length_nil, Prod.mk.injEq, and_true, true_and]
    omega
theorem fmt_inj {s t : List UInt8} (hs : valid s = true) (ht : valid t = true) : fmt s = fmt t ↔ s = t := by
  refine ⟨fun h => ?_, fun h => by rw [h]⟩
  have e1 := parse_fmt (u := []) hs (Or.inl rfl)
  have e2 := parse_fmt (u := []) ht (Or.inl rfl)
  rw [h, e2] at e1
  exact (congrArg Prod.fst e1).symm
theorem fmt_len {s : List UInt8} : (fmt s).length ≤ s.length + 2 := by
  unfold fmt
  split
  · omega
  · simp
end B7
namespace B9
open Go Go.AE Go.Proofs
def number (s : List UInt8) : Int × Int × Bool := if (B8.runD s).length ≤ 3 then ((B8.num (B8.runD s) : Int), ((B8.runD s).length : Int), decide (0 < (B8.runD s).length)) else (0, 0, false)
def after (s : List UInt8) (i : Nat) (c : UInt8) : Int × Int × Bool := match s.drop i with
  | b :: r => if b = c then ((number r).1, ((i + 1 : Nat) : Int) + (number r).2.1, (number r).2.2) else (0, 0, false)
  | [] => (0, 0, false)
structure D where
  k : Int
  d : Int
  m : Int
  w : Int
  e : Int
  n : Int
  ok : Bool
def noD : D := ⟨0, 0, 0, 0, 0, 0, false⟩
def dateM (s : List UInt8) : D :=
  if (number (s.drop 1)).2.2 then (if (after s ((number (s.drop 1)).2.1.toNat + 1) 46).2.2 then
    ⟨3, 0, (number (s.drop 1)).1, (after s ((number (s.drop 1)).2.1.toNat + 1) 46).1, (after s (after s ((number (s.drop 1)).2.1.toNat + 1) 46).2.1.toNat 46).1, (after s (after s ((number (s.drop 1)).2.1.toNat + 1) 46).2.1.toNat 46).2.1, (after s (after s ((number (s.drop 1)).2.1.toNat + 1) 46).2.1.toNat 46).2.2⟩
    else noD) else noD
def date (s : List UInt8) : D := match s with
  | [] => noD
  | b :: r => if b = 74 then ⟨1, (number r).1, 0, 0, 0, (number r).2.1 + 1, (number r).2.2⟩ else if b = 77 then dateM s else ⟨2, (number s).1, 0, 0, 0, (number s).2.1, (number s).2.2⟩
def validDay (k d m w e t : Int) : Bool := decide (-604799 ≤ t) && decide (t ≤ 604799) &&
  ((k == 1 || k == 2) && (m == 0) && (w == 0) && (e == 0) && decide (0 ≤ d) && decide (d ≤ 365) && (k == 2 || decide (0 < d)) || (k == 3) && (d == 0) && decide (1 ≤ m) && decide (m ≤ 12) && decide (1 ≤ w) && decide (w ≤ 5) && decide (0 ≤ e) && decide (e < 7))
structure Dy where
  k : Int
  d : Int
  m : Int
  w : Int
  e : Int
  t : Int
  n : Int
  ok : Bool
def noDy : Dy := ⟨0, 0, 0, 0, 0, 0, 0, false⟩
def slash (s : List UInt8) (x : D) : Bool := x.ok && decide (x.n < (s.length : Int)) && (s.getD x.n.toNat 0 == 47)
def dayT (x : D) (t n : Int) (ok : Bool) : Dy := if ok && validDay x.k x.d x.m x.w x.e t then ⟨x.k, x.d, x.m, x.w, x.e, t, n, true⟩ else noDy
def day (s : List UInt8) : Dy :=
  if slash s (date s) then dayT (date s) (B8.parse (s.drop ((date s).n.toNat + 1))).1 ((date s).n + 1 + (B8.parse (s.drop ((date s).n.toNat + 1))).2.1) (B8.parse (s.drop ((date s).n.toNat + 1))).2.2
  else dayT (date s) 7200 (date s).n (date s).ok
def dd (n : Nat) : List UInt8 := B8.dd n
def dayF (k d m w e t : Int) : List UInt8 := (if k = 1 then 74 :: dd d.toNat else if k = 3 then 77 :: (dd m.toNat ++ (46 :: (dd w.toNat ++ (46 :: dd e.toNat)))) else dd d.toNat) ++ (47 :: B8.fmt t)
def side (n : Int) : Bool := decide (-89999 ≤ n) && decide (n ≤ 89999)
def bo (b : Bool) : AV := .imm (.bool b)
def i64 (n : Int) : AV := .imm (.int .i64 n)
def st (s : List UInt8) : AV := .imm (.str s)
def big : Int := 9223372036854774000
def dayAV (k d m w e t : Int) : AV := .agg [i64 k, i64 d, i64 m, i64 w, i64 e, i64 t]
def sSide : List AV → Option (List Prop × List AV)
  | [.imm (.int .i64 n)] => some ([], [bo (side n)])
  | _ => none
def sNumber : List AV → Option (List Prop × List AV)
  | [.imm (.str s)] => some ([(s.length : Int) ≤ big], [i64 (number s).1, i64 (number s).2.1, bo (number s).2.2])
  | _ => none
def sAfter : List AV → Option (List Prop × List AV)
  | [.imm (.str s), .imm (.int .i64 i), .imm (.int .u8 c)] => some ([(s.length : Int) ≤ big, 0 ≤ i, i ≤ big, 0 ≤ c, c ≤ 255], [i64 (after s i.toNat (u8 c)).1, i64 (after s i.toNat (u8 c)).2.1, bo (after s i.toNat (u8 c)).2.2])
  | _ => none
def sValidDay : List AV → Option (List Prop × List AV)
  | [.agg [.imm (.int .i64 k), .imm (.int .i64 d), .imm (.int .i64 m), .imm (.int .i64 w), .imm (.int .i64 e), .imm (.int .i64 t)]] => some ([], [bo (validDay k d m w e t)])
  | _ => none
def sDate : List AV → Option (List Prop × List AV)
  | [.imm (.str s)] => some ([(s.length : Int) ≤ big - 10], [dayAV (date s).k (date s).d (date s).m (date s).w (date s).e 0, i64 (date s).n, bo (date s).ok])
  | _ => none
def sDay : List AV → Option (List Prop × List AV)
  | [.imm (.str s)] => some ([(s.length : Int) ≤ big - 20], [dayAV (day s).k (day s).d (day s).m (day s).w (day s).e (day s).t, i64 (day s).n, bo (day s).ok])
  | _ => none
def G0 : Nat → Option (List AV) := B8.G8
noncomputable def cx (E : FuncId → List AV → Option (List Prop × List AV)) : Cx := ⟨Tryd.prog, E, noCall, G0, 0⟩
def F0 := addE (addE (addE (addE B7.E5 40 B8.sParse) 25 B8.sFmt) 30 B8.sFmt) 44 B8.sParse
def F1 := addE (addE (addE (addE F0 55 sSide) 59 sNumber) 41 sValidDay) 11 sValidDay
def F2 := addE F1 60 sAfter
def F3 := addE F2 39 sDate
def F4 := addE F3 20 sDay
noncomputable def C0 : Cx := cx F0
noncomputable def C1 : Cx := cx F1
noncomputable def C2 : Cx := cx F2
noncomputable def C3 : Cx := cx F3
noncomputable def C4 : Cx := cx F4
def h34 (s : List UInt8) (v n : Int) : St := ⟨lapp [st s, .dead, i64 0, i64 0, bo false, i64 v, i64 n] (lrepl 32 .dead), [], 0, []⟩
def ruleAV (a : List UInt8) (o : Int) (h : Bool) (b : List UInt8) (p : Int) (k d m w e t k' d' m' w' e' t' : Int) : AV :=
  .agg [st a, i64 o, bo h, st b, i64 p, i64 k, i64 d, i64 m, i64 w, i64 e, i64 t, i64 k', i64 d', i64 m', i64 w', i64 e', i64 t']
def validRule (a : List UInt8) (o : Int) (h : Bool) (b : List UInt8) (p : Int) (k d m w e t k' d' m' w' e' t' : Int) : Bool :=
  B7.valid a && side o && (if h then B7.valid b && side p && validDay k d m w e t && validDay k' d' m' w' e' t'
    else decide (b = []) && (p == 0) && (k == 0) && (d == 0) && (m == 0) && (w == 0) && (e == 0) && (t == 0) && (k' == 0) && (d' == 0) && (m' == 0) && (w' == 0) && (e' == 0) && (t' == 0))
def sValidRule : List AV → Option (List Prop × List AV)
  | [.agg [.imm (.str a), .imm (.int .i64 o), .imm (.bool h), .imm (.str b), .imm (.int .i64 p), .imm (.int .i64 k), .imm (.int .i64 d), .imm (.int .i64 m), .imm (.int .i64 w), .imm (.int .i64 e), .imm (.int .i64 t), .imm (.int .i64 k'), .imm (.int .i64 d'), .imm (.int .i64 m'), .imm (.int .i64 w'), .imm (.int .i64 e'), .imm (.int .i64 t')]] =>
    some ([a.length ≤ 9223372036854775807, b.length ≤ 9223372036854775807], [bo (validRule a o h b p k d m w e t k' d' m' w' e' t')])
  | _ => none
def F5 := addE F4 38 sValidRule
noncomputable def inlF : FuncId → Option Func := fun f => bif Nat.beq f 34 then some Tryd.f34 else bif Nat.beq f 35 then some Tryd.f35 else bif Nat.beq f 36 then some Tryd.f36 else bif Nat.beq f 37 then some Tryd.f37 else bif Nat.beq f 56 then some Tryd.f56 else bif Nat.beq f 57 then some Tryd.f57 else none
noncomputable def C5 : Cx := ⟨Tryd.prog, F5, inl inlF Tryd.prog F5 G0 0 4, G0, 0⟩
noncomputable def c8 : List Dir → Code := fun p => codeAt p (bodyOf Tryd.f19)
noncomputable def a8 : Code := .seq (c8 [.l]) (c8 [.r, .l])
def e8 (s : List UInt8) : St := ⟨lapp [st s] (lrepl 39 .dead), [], 0, []⟩
def zRule : List AV := [st [], i64 0, bo false, st [], i64 0, i64 0, i64 0, i64 0, i64 0, i64 0, i64 0, i64 0, i64 0, i64 0, i64 0, i64 0, i64 0]
def tl8 (t : Nat → AV) (n : Nat) : List AV := lmap t (ldrop 10 (upto n []))
def o8 (s : List UInt8) (i : Int) (R : List AV) : List (Nat × Ob) := [(0, ⟨true, 0, .cells R⟩), (1, ⟨true, 0, .cells [i64 0]⟩), (2, ⟨true, 0, .cells [i64 0]⟩), (3, ⟨true, 0, .cells [st s, i64 i]⟩)]
def R8 (a : List UInt8) (o : Int) : List AV := [st a, i64 o, bo false, st [], i64 0, i64 0, i64 0, i64 0, i64 0, i64 0, i64 0, i64 0, i64 0, i64 0, i64 0, i64 0, i64 0]
def P3 : List AV := [.ptr 0 0, .ptr 1 0, .ptr 2 0]
def S8 (s : List UInt8) (i : Int) (R : List AV) (x y z : AV) (t : Nat → AV) : St := ⟨lapp [st s, .dead, .ptr 0 0, .ptr 1 0, .ptr 2 0, .ptr 3 0, x, y, z, .fn 33 [] [.ptr 0 0, .ptr 1 0, .ptr 2 0]] (tl8 t 40), o8 s i R, 4, P3⟩
noncomputable def c19 : List Dir → Code := fun p => codeAt p (bodyOf Tryd.f36)
def R17 (a : List UInt8) (o : Int) (h : Bool) (b : List UInt8) (p k d m w e t k' d' m' w' e' t' : Int) : List AV :=
  [st a, i64 o, bo h, st b, i64 p, i64 k, i64 d, i64 m, i64 w, i64 e, i64 t, i64 k', i64 d', i64 m', i64 w', i64 e', i64 t']
def S19 (s : List UInt8) (i : Int) (R0 R R2 : List AV) (x y : AV) (OUT : List AV) (t : Nat → AV) : St :=
  ⟨lapp [.ptr 3 0, x, y, .ptr 4 0, .ptr 5 0] (lmap t (ldrop 5 (upto 45 []))), lapp (o8 s i R0) [(4, ⟨true, 0, .cells R⟩), (5, ⟨true, 0, .cells R2⟩)], 6, OUT⟩
def S19b (s : List UInt8) (i : Int) (R0 R R2 : List AV) (x y : AV) (OUT : List AV) (X Y : List AV) (t : Nat → AV) : St :=
  ⟨lapp [.ptr 3 0, x, y, .ptr 4 0, .ptr 5 0] (lmap t (ldrop 5 (upto 45 []))), lapp (o8 s i R0) [(4, ⟨true, 0, .cells R⟩), (5, ⟨true, 0, .cells R2⟩), (6, ⟨true, 0, .cells X⟩), (7, ⟨true, 0, .cells Y⟩)], 8, OUT⟩
def S19c (s : List UInt8) (i : Int) (R0 R R2 : List AV) (x y : AV) (OUT : List AV) (X Y Z W : List AV) (t : Nat → AV) : St :=
  ⟨lapp [.ptr 3 0, x, y, .ptr 4 0, .ptr 5 0] (lmap t (ldrop 5 (upto 45 []))), lapp (o8 s i R0) [(4, ⟨true, 0, .cells R⟩), (5, ⟨true, 0, .cells R2⟩), (6, ⟨true, 0, .cells X⟩), (7, ⟨true, 0, .cells Y⟩), (8, ⟨true, 0, .cells Z⟩), (9, ⟨true, 0, .cells W⟩)], 10, OUT⟩
def S8c (s : List UInt8) (i : Int) (R : List AV) (x y z : AV) (R4 R5 X Y Z W : List AV) (t : Nat → AV) : St :=
  ⟨lapp [st s, .dead, .ptr 0 0, .ptr 1 0, .ptr 2 0, .ptr 3 0, x, y, z, .fn 33 [] [.ptr 0 0, .ptr 1 0, .ptr 2 0]] (tl8 t 40),
    lapp (o8 s i R) [(4, ⟨true, 0, .cells R4⟩), (5, ⟨true, 0, .cells R5⟩), (6, ⟨true, 0, .cells X⟩), (7, ⟨true, 0, .cells Y⟩), (8, ⟨true, 0, .cells Z⟩), (9, ⟨true, 0, .cells W⟩)], 10, P3⟩
noncomputable def c16 : List Dir → Code := fun p => codeAt p (bodyOf Tryd.f33)
noncomputable def C16 : Cx := ⟨Tryd.prog, noE, noCall, G0, 0⟩
def nilV : AV := .imm (.val .nilIface)
def E16 (R : List AV) (X : AV) : St := ⟨lapp [.ptr 0 0, .ptr 1 0, .ptr 2 0, X, .dead, .dead, X] (lrepl 12 .dead), [(0, ⟨true, 0, .cells R⟩), (1, ⟨true, 0, .cells [i64 0]⟩), (2, ⟨true, 0, .cells [i64 0]⟩)], 3, P3⟩
noncomputable def C4i : Cx := ⟨Tryd.prog, F5, inl inlF Tryd.prog F5 G0 0 3, G0, 0⟩
end B9
set_option maxRecDepth 100000
namespace B9
open Go Go.AE Go.Proofs
attribute [local irreducible] loopK evCode evSpec loopB norm
theorem f22_in (n : Int) (K : List AV → Prop) : evSpec C0 Tryd.f55 [AV.imm (IV.int IntKind.i64 n)] K =
  (K [AV.imm (IV.bool (decide (n ≥ (-89999 : Int)) && decide (n ≤ (89999 : Int))))]) := by kernel_rfl
theorem f34_in (s : List UInt8) (K : List AV → Prop) : evSpec C0 Tryd.f59 [AV.imm (IV.str s)] K =
  (LoopI C0 (bodyOf Tryd.f59) (0 : Nat)
  (St.mk
    [AV.imm (IV.str s), AV.dead, AV.imm (IV.int IntKind.i64 (0 : Int)), AV.imm (IV.int IntKind.i64 (0 : Int)),
      AV.imm (IV.bool false), AV.imm (IV.int IntKind.i64 (0 : Int)), AV.imm (IV.int IntKind.i64 (0 : Int)), AV.dead,
      AV.dead, AV.dead, AV.dead, AV.dead, AV.dead, AV.dead, AV.dead, AV.dead, AV.dead, AV.dead, AV.dead, AV.dead,
      AV.dead, AV.dead, AV.dead, AV.dead, AV.dead, AV.dead, AV.dead, AV.dead, AV.dead, AV.dead, AV.dead, AV.dead,
      AV.dead, AV.dead, AV.dead, AV.dead, AV.dead, AV.dead, AV.dead]
    [] (0 : Nat) [])
  (finK C0 Tryd.f59 K)) := by kernel_rfl
theorem f34_lp (s : List UInt8) (v : Int) (n : Int) (k : AX → St → Prop) : evCode C0 (loopB (bodyOf Tryd.f59) (0 : Nat)) (h34 s v n) k = ((decide (n < (s.length : Int)) = true → (0 : Int) ≤ n) ∧ (decide (n < (s.length : Int)) = true → n < (s.length : Int)) ∧ ((decide (n < (s.length : Int)) && decide ((↑(UInt8.toNat (List.getD s n.toNat (0 : UInt8))) : Int) ≥ 48)) = true → (0 : Int) ≤ n) ∧ ((decide (n < (s.length : Int)) && decide ((↑(UInt8.toNat (List.getD s n.toNat (0 : UInt8))) : Int) ≥ 48)) = true → n < (s.length : Int)) ∧ brn (decide (n < (s.length : Int)) && decide ((↑(UInt8.toNat (List.getD s n.toNat (0 : UInt8))) : Int) ≥ 48) && decide ((↑(UInt8.toNat (List.getD s n.toNat (0 : UInt8))) : Int) ≤ 57)) (brn (n == 3) (k AX.ret (St.mk [.imm (.str s), .dead, .imm (.int .i64 0), .imm (.int .i64 0), .imm (.bool false), .imm (.int .i64 v), .imm (.int .i64 n), .imm (.int .i64 n), .imm (.str s), .imm (.int .i64 (s.length : Int)), .imm (.bool (decide (n < (s.length : Int)))), .imm (.bool (decide (n < (s.length : Int)))), .opt [((11 : Nat), true)] (.imm (.str s)), .opt [((11 : Nat), true)] (.imm (.int .i64 n)), .opt [((11 : Nat), true)] (.imm (.int .u8 (↑(UInt8.toNat (List.getD s n.toNat
 (0 : UInt8))) : Int))), .opt [((11 : Nat), true)] (.imm (.bool (decide ((↑(UInt8.toNat (List.getD s n.toNat (0 : UInt8))) : Int) ≥ 48)))), .imm (.bool (decide (n < (s.length : Int)) && decide ((↑(UInt8.toNat (List.getD s n.toNat (0 : UInt8))) : Int) ≥ 48))), .imm (.bool (decide (n < (s.length : Int)) && decide ((↑(UInt8.toNat (List.getD s n.toNat (0 : UInt8))) : Int) ≥ 48))), .opt [((17 : Nat), true)] (.imm (.str s)), .opt [((17 : Nat), true)] (.imm (.int .i64 n)), .opt [((17 : Nat), true)] (.imm (.int .u8 (↑(UInt8.toNat (List.getD s n.toNat (0 : UInt8))) : Int))), .opt [((17 : Nat), true)] (.imm (.bool (decide ((↑(UInt8.toNat (List.getD s n.toNat (0 : UInt8))) : Int) ≤ 57)))), .imm (.bool (decide (n < (s.length : Int)) && decide ((↑(UInt8.toNat (List.getD s n.toNat (0 : UInt8))) : Int) ≥ 48) && decide ((↑(UInt8.toNat (List.getD s n.toNat (0 : UInt8))) : Int) ≤ 57))), .imm (.int .i64 n), .imm (.bool (n == 3)), .dead, .dead, .dead, .dead, .dead, .dead, .dead, .dead, .dead, .dead, .dead, .dead, .dead, .dead] [] (0 : Nat) [])) ((0 : Int) ≤ n ∧ n < (s.length : Int) ∧ k AX.normal (St.mk [.imm (.str s), .dead, .imm (.int .i64 0), .imm (.int .i64 0), .imm (.bool false), .imm (.int .i64
 (IntKind.wrap .i64 (IntKind.wrap .i64 (v * 10) + IntKind.wrap .i64 (IntKind.wrap IntKind.u8 ((↑(UInt8.toNat (List.getD s n.toNat (0 : UInt8))) : Int) - 48))))), .imm (.int .i64 (IntKind.wrap .i64 (n + 1))), .imm (.int .i64 n), .imm (.str s), .imm (.int .i64 (s.length : Int)), .imm (.bool (decide (n < (s.length : Int)))), .imm (.bool (decide (n < (s.length : Int)))), .opt [((11 : Nat), true)] (.imm (.str s)), .opt [((11 : Nat), true)] (.imm (.int .i64 n)), .opt [((11 : Nat), true)] (.imm (.int .u8 (↑(UInt8.toNat (List.getD s n.toNat (0 : UInt8))) : Int))), .opt [((11 : Nat), true)] (.imm (.bool (decide ((↑(UInt8.toNat (List.getD s n.toNat (0 : UInt8))) : Int) ≥ 48)))), .imm (.bool (decide (n < (s.length : Int)) && decide ((↑(UInt8.toNat (List.getD s n.toNat (0 : UInt8))) : Int) ≥ 48))), .imm (.bool (decide (n < (s.length : Int)) && decide ((↑(UInt8.toNat (List.getD s n.toNat (0 : UInt8))) : Int) ≥ 48))), .opt [((17 : Nat), true)] (.imm (.str s)), .opt [((17 : Nat), true)] (.imm (.int .i64 n)), .opt [((17 : Nat), true)] (.imm (.int .u8 (↑(UInt8.toNat (List.getD s n.toNat (0 : UInt8))) : Int))), .opt [((17 : Nat), true)] (.imm (.bool (decide ((↑(UInt8.toNat (List.getD s n.toNat (0 :
 UInt8))) : Int) ≤ 57)))), .imm (.bool (decide (n < (s.length : Int)) && decide ((↑(UInt8.toNat (List.getD s n.toNat (0 : UInt8))) : Int) ≥ 48) && decide ((↑(UInt8.toNat (List.getD s n.toNat (0 : UInt8))) : Int) ≤ 57))), .imm (.int .i64 n), .imm (.bool (n == 3)), .imm (.int .i64 v), .imm (.int .i64 (IntKind.wrap .i64 (v * 10))), .imm (.str s), .imm (.int .i64 n), .imm (.int .u8 (↑(UInt8.toNat (List.getD s n.toNat (0 : UInt8))) : Int)), .imm (.int .u8 (IntKind.wrap IntKind.u8 ((↑(UInt8.toNat (List.getD s n.toNat (0 : UInt8))) : Int) - 48))), .imm (.int .i64 (IntKind.wrap .i64 (IntKind.wrap IntKind.u8 ((↑(UInt8.toNat (List.getD s n.toNat (0 : UInt8))) : Int) - 48)))), .imm (.int .i64 (IntKind.wrap .i64 (IntKind.wrap .i64 (v * 10) + IntKind.wrap .i64 (IntKind.wrap IntKind.u8 ((↑(UInt8.toNat (List.getD s n.toNat (0 : UInt8))) : Int) - 48))))), .imm (.int .i64 n), .imm (.int .i64 (IntKind.wrap .i64 (n + 1))), .dead, .dead, .dead, .dead] [] (0 : Nat) []))) (k (AX.exit (0 : Nat)) (St.mk [.imm (.str s), .dead, .imm (.int .i64 0), .imm (.int .i64 0), .imm (.bool false), .imm (.int .i64 v), .imm (.int .i64 n), .imm (.int .i64 n), .imm (.str s), .imm (.int .i64 (s.length : Int)), .imm (.bool
 (decide (n < (s.length : Int)))), .imm (.bool (decide (n < (s.length : Int)))), .opt [((11 : Nat), true)] (.imm (.str s)), .opt [((11 : Nat), true)] (.imm (.int .i64 n)), .opt [((11 : Nat), true)] (.imm (.int .u8 (↑(UInt8.toNat (List.getD s n.toNat (0 : UInt8))) : Int))), .opt [((11 : Nat), true)] (.imm (.bool (decide ((↑(UInt8.toNat (List.getD s n.toNat (0 : UInt8))) : Int) ≥ 48)))), .imm (.bool (decide (n < (s.length : Int)) && decide ((↑(UInt8.toNat (List.getD s n.toNat (0 : UInt8))) : Int) ≥ 48))), .imm (.bool (decide (n < (s.length : Int)) && decide ((↑(UInt8.toNat (List.getD s n.toNat (0 : UInt8))) : Int) ≥ 48))), .opt [((17 : Nat), true)] (.imm (.str s)), .opt [((17 : Nat), true)] (.imm (.int .i64 n)), .opt [((17 : Nat), true)] (.imm (.int .u8 (↑(UInt8.toNat (List.getD s n.toNat (0 : UInt8))) : Int))), .opt [((17 : Nat), true)] (.imm (.bool (decide ((↑(UInt8.toNat (List.getD s n.toNat (0 : UInt8))) : Int) ≤ 57)))), .imm (.bool (decide (n < (s.length : Int)) && decide ((↑(UInt8.toNat (List.getD s n.toNat (0 : UInt8))) : Int) ≥ 48) && decide ((↑(UInt8.toNat (List.getD s n.toNat (0 : UInt8))) : Int) ≤ 57))), .dead, .dead, .dead, .dead, .dead, .dead, .dead, .dead, .dead, .dead,
 .dead, .dead, .dead, .dead, .dead, .dead] [] (0 : Nat) []))) := by kernel_rfl
theorem f23_in (k : Int) (d : Int) (m : Int) (w : Int) (e : Int) (t : Int) (K : List AV → Prop) : evSpec C0 Tryd.f41 [dayAV k d m w e t] K = (brn (decide (t < (-604799 : Int)) || decide (t > 604799)) (K [.imm (.bool false)]) (brn (k == 1) (brn (k == 1) (K [.imm (.bool (m == 0 && w == 0 && e == 0 && decide (d ≥ 0) && decide (d ≤ 365) && (k == 2 || decide (d > 0))))]) (brn (k == 3) (K [.imm (.bool (d == 0 && decide (m ≥ 1) && decide (m ≤ 12) && decide (w ≥ 1) && decide (w ≤ 5) && decide (e ≥ 0) && decide (e < 7)))]) (K [.imm (.bool false)]))) (brn (k == 2) (K [.imm (.bool (m == 0 && w == 0 && e == 0 && decide (d ≥ 0) && decide (d ≤ 365) && (k == 2 || decide (d > 0))))]) (brn (k == 3) (K [.imm (.bool (d == 0 && decide (m ≥ 1) && decide (m ≤ 12) && decide (w ≥ 1) && decide (w ≤ 5) && decide (e ≥ 0) && decide (e < 7)))]) (K [.imm (.bool false)]))))) := by kernel_rfl
theorem f11_in (k : Int) (d : Int) (m : Int) (w : Int) (e : Int) (t : Int) (K : List AV → Prop) : evSpec C0 Tryd.f11 [dayAV k d m w e t] K = (brn (decide (t < (-604799 : Int)) || decide (t > 604799)) (K [.imm (.bool false)]) (brn (k == 1) (K [.imm (.bool (decide (d ≥ 1) && decide (d ≤ 365) && m == 0 && w == 0 && e == 0))]) (brn (k == 2) (K [.imm (.bool (decide (d ≥ 0) && decide (d ≤ 365) && m == 0 && w == 0 && e == 0))]) (K [.imm (.bool (k == 3 && d == 0 && decide (m ≥ 1) && decide (m ≤ 12) && decide (w ≥ 1) && decide (w ≤ 5) && decide (e ≥ 0) && decide (e ≤ 6)))])))) := by kernel_rfl
theorem f35_in (s : List UInt8) (i : Int) (c : Int) (K : List AV → Prop) : evSpec C1 Tryd.f60 [.imm (.str s), .imm (.int .i64 i), .imm (.int .u8 c)] K = ((decide (i ≥ (s.length : Int)) = false → (0 : Int) ≤ i) ∧ (decide (i ≥ (s.length : Int)) = false → i < (s.length : Int)) ∧ brn (decide (i ≥ (s.length : Int)) || (↑(UInt8.toNat (List.getD s i.toNat (0 : UInt8))) : Int) != c) (K [.imm (.int .i64 0), .imm (.int .i64 0), .imm (.bool false)]) ((0 : Int) ≤ IntKind.wrap .i64 (i + 1) ∧ IntKind.wrap .i64 (i + 1) ≤ (s.length : Int) ∧ (↑(List.take (s.length - (IntKind.wrap .i64 (i + 1)).toNat) (List.drop (IntKind.wrap .i64 (i + 1)).toNat s)).length : Int) ≤ big ∧ K [.imm (.int .i64 (number (List.take (s.length - (IntKind.wrap .i64 (i + 1)).toNat) (List.drop (IntKind.wrap .i64 (i + 1)).toNat s))).1), .imm (.int .i64 (IntKind.wrap .i64 (IntKind.wrap .i64 (i + 1) + (number (List.take (s.length - (IntKind.wrap .i64 (i + 1)).toNat) (List.drop (IntKind.wrap .i64 (i + 1)).toNat s))).2.1))), .imm (.bool (number (List.take (s.length - (IntKind.wrap .i64 (i + 1)).toNat) (List.drop (IntKind.wrap .i64 (i + 1)).toNat s))).2.2)])) := by kernel_rfl
theorem f28_in (s : List UInt8) (K : List AV → Prop) : evSpec C2 Tryd.f39 [.imm (.str s)] K = (brn (decide (s = [])) (K [.agg [.imm (.int .i64 0), .imm (.int .i64 0), .imm (.int .i64 0), .imm (.int .i64 0), .imm (.int .i64 0), .imm (.int .i64 0)], .imm (.int .i64 0), .imm (.bool false)]) ((0 : Int) ≤ 0 ∧ (0 : Int) < (s.length : Int) ∧ brn ((↑(UInt8.toNat (List.getD s (0 : Int).toNat (0 : UInt8))) : Int) == 74) ((0 : Int) ≤ 1 ∧ (1 : Int) ≤ (s.length : Int) ∧ (↑(List.take (s.length - (1 : Int).toNat) (List.drop (1 : Int).toNat s)).length : Int) ≤ big ∧ K [.agg [.imm (.int .i64 1), .imm (.int .i64 (number (List.take (s.length - (1 : Int).toNat) (List.drop (1 : Int).toNat s))).1), .imm (.int .i64 0), .imm (.int .i64 0), .imm (.int .i64 0), .imm (.int .i64 0)], .imm (.int .i64 (IntKind.wrap .i64 ((number (List.take (s.length - (1 : Int).toNat) (List.drop (1 : Int).toNat s))).2.1 + 1))), .imm (.bool (number (List.take (s.length - (1 : Int).toNat) (List.drop (1 : Int).toNat s))).2.2)]) (brn ((↑(UInt8.toNat (List.getD s (0 : Int).toNat (0 : UInt8))) : Int) == 77) ((0 : Int) ≤ 1 ∧ (1 : Int) ≤ (s.length : Int) ∧ (↑(List.take (s.length - (1 : Int).toNat) (List.drop (1 : Int).toNat s)).length :
 Int) ≤ big ∧ brn (!(number (List.take (s.length - (1 : Int).toNat) (List.drop (1 : Int).toNat s))).2.2) (K [.agg [.imm (.int .i64 0), .imm (.int .i64 0), .imm (.int .i64 0), .imm (.int .i64 0), .imm (.int .i64 0), .imm (.int .i64 0)], .imm (.int .i64 0), .imm (.bool false)]) ((s.length : Int) ≤ big ∧ (0 : Int) ≤ IntKind.wrap .i64 ((number (List.take (s.length - (1 : Int).toNat) (List.drop (1 : Int).toNat s))).2.1 + 1) ∧ IntKind.wrap .i64 ((number (List.take (s.length - (1 : Int).toNat) (List.drop (1 : Int).toNat s))).2.1 + 1) ≤ big ∧ (0 : Int) ≤ 46 ∧ (46 : Int) ≤ 255 ∧ brn (!(after s (IntKind.wrap .i64 ((number (List.take (s.length - (1 : Int).toNat) (List.drop (1 : Int).toNat s))).2.1 + 1)).toNat (u8 (46 : Int))).2.2) (K [.agg [.imm (.int .i64 0), .imm (.int .i64 0), .imm (.int .i64 0), .imm (.int .i64 0), .imm (.int .i64 0), .imm (.int .i64 0)], .imm (.int .i64 0), .imm (.bool false)]) ((s.length : Int) ≤ big ∧ (0 : Int) ≤ (after s (IntKind.wrap .i64 ((number (List.take (s.length - (1 : Int).toNat) (List.drop (1 : Int).toNat s))).2.1 + 1)).toNat (u8 (46 : Int))).2.1 ∧ (after s (IntKind.wrap .i64 ((number (List.take (s.length - (1 : Int).toNat) (List.drop (1 : Int).toNat s))).2.1 +
 1)).toNat (u8 (46 : Int))).2.1 ≤ big ∧ (0 : Int) ≤ 46 ∧ (46 : Int) ≤ 255 ∧ K [.agg [.imm (.int .i64 3), .imm (.int .i64 0), .imm (.int .i64 (number (List.take (s.length - (1 : Int).toNat) (List.drop (1 : Int).toNat s))).1), .imm (.int .i64 (after s (IntKind.wrap .i64 ((number (List.take (s.length - (1 : Int).toNat) (List.drop (1 : Int).toNat s))).2.1 + 1)).toNat (u8 (46 : Int))).1), .imm (.int .i64 (after s (after s (IntKind.wrap .i64 ((number (List.take (s.length - (1 : Int).toNat) (List.drop (1 : Int).toNat s))).2.1 + 1)).toNat (u8 (46 : Int))).2.1.toNat (u8 (46 : Int))).1), .imm (.int .i64 0)], .imm (.int .i64 (after s (after s (IntKind.wrap .i64 ((number (List.take (s.length - (1 : Int).toNat) (List.drop (1 : Int).toNat s))).2.1 + 1)).toNat (u8 (46 : Int))).2.1.toNat (u8 (46 : Int))).2.1), .imm (.bool (after s (after s (IntKind.wrap .i64 ((number (List.take (s.length - (1 : Int).toNat) (List.drop (1 : Int).toNat s))).2.1 + 1)).toNat (u8 (46 : Int))).2.1.toNat (u8 (46 : Int))).2.2)]))) ((s.length : Int) ≤ big ∧ K [.agg [.imm (.int .i64 2), .imm (.int .i64 (number s).1), .imm (.int .i64 0), .imm (.int .i64 0), .imm (.int .i64 0), .imm (.int .i64 0)], .imm (.int .i64 (number
 s).2.1), .imm (.bool (number s).2.2)])))) := by kernel_rfl
theorem f15_in (s : List UInt8) (K : List AV → Prop) : evSpec C3 Tryd.f20 [.imm (.str s)] K = ((s.length : Int) ≤ big - 10 ∧ ((D.ok (date s) && decide (D.n (date s) < (s.length : Int))) = true → (0 : Int) ≤ D.n (date s)) ∧ ((D.ok (date s) && decide (D.n (date s) < (s.length : Int))) = true → D.n (date s) < (s.length : Int)) ∧ brn (D.ok (date s) && decide (D.n (date s) < (s.length : Int)) && (↑(UInt8.toNat (List.getD s (D.n (date s)).toNat (0 : UInt8))) : Int) == 47) ((0 : Int) ≤ IntKind.wrap .i64 (D.n (date s) + 1) ∧ IntKind.wrap .i64 (D.n (date s) + 1) ≤ (s.length : Int) ∧ (↑(List.take (s.length - (IntKind.wrap .i64 (D.n (date s) + 1)).toNat) (List.drop (IntKind.wrap .i64 (D.n (date s) + 1)).toNat s)).length : Int) ≤ B8.big ∧ brn (!(B8.parse (List.take (s.length - (IntKind.wrap .i64 (D.n (date s) + 1)).toNat) (List.drop (IntKind.wrap .i64 (D.n (date s) + 1)).toNat s))).2.2 || !validDay (D.k (date s)) (D.d (date s)) (D.m (date s)) (D.w (date s)) (D.e (date s)) (B8.parse (List.take (s.length - (IntKind.wrap .i64 (D.n (date s) + 1)).toNat) (List.drop (IntKind.wrap .i64 (D.n (date s) + 1)).toNat s))).1) (K [.agg [.imm (.int .i64 0), .imm (.int .i64 0), .imm (.int .i64 0), .imm (.int
 .i64 0), .imm (.int .i64 0), .imm (.int .i64 0)], .imm (.int .i64 0), .imm (.bool false)]) (K [.agg [.imm (.int .i64 (D.k (date s))), .imm (.int .i64 (D.d (date s))), .imm (.int .i64 (D.m (date s))), .imm (.int .i64 (D.w (date s))), .imm (.int .i64 (D.e (date s))), .imm (.int .i64 (B8.parse (List.take (s.length - (IntKind.wrap .i64 (D.n (date s) + 1)).toNat) (List.drop (IntKind.wrap .i64 (D.n (date s) + 1)).toNat s))).1)], .imm (.int .i64 (IntKind.wrap .i64 (IntKind.wrap .i64 (D.n (date s) + 1) + (B8.parse (List.take (s.length - (IntKind.wrap .i64 (D.n (date s) + 1)).toNat) (List.drop (IntKind.wrap .i64 (D.n (date s) + 1)).toNat s))).2.1))), .imm (.bool true)])) (brn (!D.ok (date s) || !validDay (D.k (date s)) (D.d (date s)) (D.m (date s)) (D.w (date s)) (D.e (date s)) (7200 : Int)) (K [.agg [.imm (.int .i64 0), .imm (.int .i64 0), .imm (.int .i64 0), .imm (.int .i64 0), .imm (.int .i64 0), .imm (.int .i64 0)], .imm (.int .i64 0), .imm (.bool false)]) (K [.agg [.imm (.int .i64 (D.k (date s))), .imm (.int .i64 (D.d (date s))), .imm (.int .i64 (D.m (date s))), .imm (.int .i64 (D.w (date s))), .imm (.int .i64 (D.e (date s))), .imm (.int .i64 7200)], .imm (.int .i64 (D.n (date s))),
 .imm (.bool true)]))) := by kernel_rfl
end B9
set_option maxRecDepth 100000
namespace B9
open Go Go.AE Go.Proofs
attribute [local irreducible] loopK evCode evSpec loopB norm
theorem at9 : Tryd.prog.funcs[38]? = some Tryd.f38 := by kernel_rfl
theorem at11 : Tryd.prog.funcs[11]? = some Tryd.f11 := by kernel_rfl
theorem at15 : Tryd.prog.funcs[20]? = some Tryd.f20 := by kernel_rfl
theorem at22 : Tryd.prog.funcs[55]? = some Tryd.f55 := by kernel_rfl
theorem at23 : Tryd.prog.funcs[41]? = some Tryd.f41 := by kernel_rfl
theorem at28 : Tryd.prog.funcs[39]? = some Tryd.f39 := by kernel_rfl
theorem at34 : Tryd.prog.funcs[59]? = some Tryd.f59 := by kernel_rfl
theorem at35 : Tryd.prog.funcs[60]? = some Tryd.f60 := by kernel_rfl
theorem mk {E : FuncId → List AV → Option (List Prop × List AV)} (hE : EOK Tryd.prog E G0) {f : FuncId} {fn : Func} {args res : List AV} {pres : List Prop} (hf : Tryd.prog.funcs[f]? = some fn) (hn : (fn.name == "runtime.NumGoroutine") = false) (hb : fn.body.isNone = false)
    (h : (∀ p, p ∈ pres → p) → ∀ K : List AV → Prop, K res → evSpec (cx E) fn args K) : SpecOK Tryd.prog G0 f args pres res :=
  spec_ok (C := cx E) hE noCall_ok hf hn hb (fun hp => h hp _ rfl)
theorem okF0 : EOK Tryd.prog F0 G0 := addE_ok (addE_ok (addE_ok (addE_ok B7.okE5 B8.ok9) B8.ok14) B8.ok13) B8.ok10
theorem wrap64 {n : Int} (h1 : -9223372036854775808 ≤ n) (h2 : n ≤ 9223372036854775807) : IntKind.wrap .i64 n = n := B8.wrap64 h1 h2
theorem nat_of {n : Int} (h : 0 ≤ n) : ∃ i : Nat, n = (i : Int) := ⟨n.toNat, by omega⟩
theorem take_rest (s : List UInt8) (i : Nat) : (s.drop i).take (s.length - i) = s.drop i := by
  rw [List.take_of_length_le]; simp
theorem ok22 : ∀ args pres res, sSide args = some (pres, res) → SpecOK Tryd.prog G0 55 args pres res := by
  intro args pres res h
  unfold sSide at h
  split at h
  case h_2 => cases h
  cases h
  exact mk okF0 at22 (by decide) rfl (fun _ K hK => by rw [show cx F0 = C0 from rfl, f22_in]; exact hK)
theorem digit_read {l : List UInt8} {n : Nat} : (decide ((n : Int) < (l.length : Int)) && decide (((l.getD n 0).toNat : Int) ≥ 48) && decide (((l.getD n 0).toNat : Int) ≤ 57)) = (B8.digit l n).2 := by
  rw [B8.digit_eq, Bool.eq_iff_iff]
  have hb := B8.isD_iff (l.getD n 0)
  simp only [Bool.and_eq_true, decide_eq_true_eq]
  by_cases h1 : n < l.length
  · rw [if_pos h1]
    by_cases h2 : B8.isD (l.getD n 0) = true
    · rw [if_pos h2]; simp only [iff_true]; have := hb.1 h2; omega
    · rw [if_neg h2]; simp only [Bool.false_eq_true, iff_false]; rw [hb] at h2; omega
  · rw [if_neg h1]; simp only [Bool.false_eq_true, iff_false]; omega
theorem digit_val {l : List UInt8} {n : Nat} (h : (B8.digit l n).2 = true) : n < l.length ∧ 48 ≤ (l.getD n 0).toNat ∧ (l.getD n 0).toNat ≤ 57 ∧ (B8.digit l n).1 = (l.getD n 0).toNat - 48 := by
  rw [B8.digit_eq] at h ⊢
  by_cases h1 : n < l.length
  · rw [if_pos h1] at h ⊢
    by_cases h2 : B8.isD (l.getD n 0) = true
    · rw [if_pos h2]
      have := (B8.isD_iff _).1 h2
      exact ⟨h1, this.1, this.2, rfl⟩
    · rw [if_neg h2] at h; cases h
  · rw [if_neg h1] at h; cases h
theorem w8sub {x : Int} (h1 : 48 ≤ x) (h2 : x ≤ 57) : IntKind.wrap .i64 (IntKind.wrap .u8 (x - 48)) = x - 48 := by
  rw [B8.wrap8 (by omega) (by omega), wrap64 (by omega) (by omega)]
def p34 : Plan := ⟨[], [true, false, true, true, true, true, true], []⟩
theorem f34_ev (s : List UInt8) (hs : (s.length : Int) ≤ big) (K : List AV → Prop) (hK : K [i64 (number s).1, i64 (number s).2.1, bo (number s).2.2]) : evSpec C0 Tryd.f59 [.imm (.str s)] K := by
  unfold big at hs
  rw [f34_in]
  unfold LoopI
  have hrl := B8.run_le s
  refine loop_rule (fun j : Nat => h34 s (B8.num ((B8.runD s).take j)) (j : Int)) (fun j => j ≤ 3 ∧ j ≤ (B8.runD s).length) (fun j => (B8.runD s).length - j)
    (fun j hP K' hnorm hexit => ?_) rfl 0 p34 _ ⟨by omega, by omega⟩ (by kernel_rfl)
  obtain ⟨h3, hle⟩ := hP
  have hd := B8.run_digit s j hle
  have hnl := B8.num_le s j hle
  have hn9 : B8.num ((B8.runD s).take j) < 1000 := by
    have : 10 ^ j ≤ 10 ^ 3 := Nat.pow_le_pow_right (by decide) h3
    omega
  have ej : IntKind.wrap .i64 ((j : Int) + 1) = ((j + 1 : Nat) : Int) := by rw [wrap64 (by omega) (by omega)]; omega
  unfold number at hK
  rw [f34_lp]
  refine ⟨fun h => by omega, fun h => by simpa using h, fun h => by omega, fun h => ?_, brn_intro (fun h => ?_) (fun h => ?_)⟩
  · rw [Bool.and_eq_true] at h; simpa using h.1
  · have h' : (B8.digit s j).2 = true := by rw [← digit_read]; exact h
    have hlt : j < (B8.runD s).length := by
      by_cases hlt : j < (B8.runD s).length
      · exact hlt
      · rw [hd, if_neg hlt] at h'; cases h'
    obtain ⟨v1, v2, v3, v4⟩ := digit_val h'
    refine brn_intro (fun h4 => ?_) (fun h4 => ?_)
    · have h4' : j = 3 := by simp only [beq_iff_eq] at h4; omega
      rw [if_neg (by omega)] at hK
      refine hexit _ _ (by simp) ?_
      exact Eq.mp (by kernel_rfl) hK
    · have h4' : ¬ j = 3 := by intro e; rw [e] at h4; simp at h4
      refine ⟨by omega, by omega, hnorm (j + 1) p34 _ ⟨by omega, hlt⟩ (by omega) ?_⟩
      have e2 : ((B8.num ((B8.runD s).take (j + 1)) : Nat) : Int) = IntKind.wrap .i64 (IntKind.wrap .i64 (((B8.num ((B8.runD s).take j) : Nat) : Int) * 10) + IntKind.wrap .i64 (IntKind.wrap .u8 (((s.getD (Int.toNat (j : Int)) 0).toNat : Int) - 48))) := by
        rw [B8.num_succ _ _ hlt]
        rw [hd, if_pos hlt] at v4
        simp only at v4
        rw [v4, Int.toNat_natCast, w8sub (by omega) (by omega), wrap64 (n := ((B8.num ((B8.runD s).take j) : Nat) : Int) * 10) (by omega) (by omega), wrap64 (by omega) (by omega)]
        omega
      rw [e2, ← ej]
      show _ = _
      kernel_rfl
  · have h' : (B8.digit s j).2 = false := by rw [← digit_read]; exact h
    have hj : j = (B8.runD s).length := by
      by_cases hlt : j < (B8.runD s).length
      · rw [hd, if_pos hlt] at h'; cases h'
      · omega
    refine hexit _ _ (by simp) ?_
    rw [if_pos (by omega), ← hj] at hK
    have e1 : B8.num (B8.runD s) = B8.num ((B8.runD s).take j) := by rw [hj, List.take_length]
    rw [e1] at hK
    have e2 : decide (0 < j) = decide ((j : Int) > 0) := by rw [Bool.eq_iff_iff]; simp only [decide_eq_true_eq]; omega
    rw [e2] at hK
    exact Eq.mp (by kernel_rfl) hK
theorem ok34 : ∀ args pres res, sNumber args = some (pres, res) → SpecOK Tryd.prog G0 59 args pres res := by
  intro args pres res h
  unfold sNumber at h
  split at h
  case h_2 => cases h
  cases h
  rename_i s
  exact mk okF0 at34 (by decide) rfl (fun hp K hK => f34_ev s (hp _ (List.mem_cons_self ..)) K hK)
theorem ok23 : ∀ args pres res, sValidDay args = some (pres, res) → SpecOK Tryd.prog G0 41 args pres res := by
  intro args pres res h
  unfold sValidDay at h
  split at h
  case h_2 => cases h
  cases h
  rename_i k d m w e t
  refine mk okF0 at23 (by decide) rfl (fun _ K hK => ?_)
  refine Eq.mpr (f23_in k d m w e t K) ?_
  have fin : ∀ b, b = validDay k d m w e t → K [.imm (.bool b)] := fun b hb => by rw [hb]; exact hK
  unfold validDay at fin
  refine brn_intro (fun h => fin _ ?_) (fun h => brn_intro (fun h1 => brn_intro (fun _ => fin _ ?_) (fun h2 => brn_intro (fun h3 => fin _ ?_) (fun h3 => fin _ ?_))) (fun h1 => brn_intro (fun h2 => fin _ ?_) (fun h2 => brn_intro (fun h3 => fin _ ?_) (fun h3 => fin _ ?_))))
  all_goals
    rw [Bool.eq_iff_iff]
    simp only [Bool.or_eq_true, Bool.and_eq_true, decide_eq_true_eq, beq_iff_eq, Bool.or_eq_false_iff, decide_eq_false_iff_not, beq_eq_false_iff_ne, ne_eq, Bool.false_eq_true, false_iff, iff_false] at *
    omega
theorem ok11 : ∀ args pres res, sValidDay args = some (pres, res) → SpecOK Tryd.prog G0 11 args pres res := by
  intro args pres res h
  unfold sValidDay at h
  split at h
  case h_2 => cases h
  cases h
  rename_i k d m w e t
  refine mk okF0 at11 (by decide) rfl (fun _ K hK => ?_)
  refine Eq.mpr (f11_in k d m w e t K) ?_
  have fin : ∀ b, b = validDay k d m w e t → K [.imm (.bool b)] := fun b hb => by rw [hb]; exact hK
  unfold validDay at fin
  refine brn_intro (fun h => fin _ ?_) (fun h => brn_intro (fun h1 => fin _ ?_) (fun h1 => brn_intro (fun h2 => fin _ ?_) (fun h2 => fin _ ?_)))
  all_goals
    rw [Bool.eq_iff_iff]
    simp only [Bool.or_eq_true, Bool.and_eq_true, decide_eq_true_eq, beq_iff_eq, Bool.or_eq_false_iff, decide_eq_false_iff_not, beq_eq_false_iff_ne, ne_eq, Bool.false_eq_true, false_iff, iff_false] at *
    omega
theorem okF1 : EOK Tryd.prog F1 G0 := addE_ok (addE_ok (addE_ok (addE_ok okF0 ok22) ok34) ok23) ok11
end B9
set_option maxRecDepth 100000
namespace B9
open Go Go.AE Go.Proofs
attribute [local irreducible] loopK evCode evSpec loopB norm
theorem number_n (s : List UInt8) : ∃ v n : Nat, (number s).1 = (v : Int) ∧ (number s).2.1 = (n : Int) ∧ n ≤ s.length ∧ n ≤ 3 ∧ v < 1000 := by
  unfold number
  have := B8.run_le s
  by_cases h : (B8.runD s).length ≤ 3
  · rw [if_pos h]
    have hn := B8.num_le s (B8.runD s).length (Nat.le_refl _)
    rw [List.take_length] at hn
    have : 10 ^ (B8.runD s).length ≤ 10 ^ 3 := Nat.pow_le_pow_right (by decide) h
    exact ⟨_, (B8.runD s).length, rfl, rfl, by omega, h, by omega⟩
  · rw [if_neg h]; exact ⟨0, 0, rfl, rfl, by omega, by omega, by omega⟩
theorem after_n (s : List UInt8) (i : Nat) (c : UInt8) : ∃ v n : Nat, (after s i c).1 = (v : Int) ∧ (after s i c).2.1 = (n : Int) ∧ n ≤ s.length ∧ v < 1000 := by
  unfold after
  have hl : (s.drop i).length = s.length - i := List.length_drop
  cases h : s.drop i with
  | nil => exact ⟨0, 0, rfl, rfl, by omega, by omega⟩
  | cons b r =>
    rw [h, List.length_cons] at hl
    simp only
    by_cases hb : b = c
    · rw [if_pos hb]
      obtain ⟨v, n, e1, e2, h3, _, h5⟩ := number_n r
      refine ⟨v, i + 1 + n, e1, ?_, by omega, h5⟩
      rw [e2]
      simp
    · rw [if_neg hb]; exact ⟨0, 0, rfl, rfl, by omega, by omega⟩
theorem u8_int {c : Int} (h0 : 0 ≤ c) (h1 : c ≤ 255) : ((u8 c).toNat : Int) = c := by
  unfold u8
  simp [UInt8.toNat_ofNat']
  omega
theorem f35_ev (s : List UInt8) (i : Nat) (c : Int) (hs : (s.length : Int) ≤ big) (hi : (i : Int) ≤ big) (h0 : 0 ≤ c) (h1 : c ≤ 255) (K : List AV → Prop) (hK : K [i64 (after s i (u8 c)).1, i64 (after s i (u8 c)).2.1, bo (after s i (u8 c)).2.2]) :
    evSpec C1 Tryd.f60 [.imm (.str s), .imm (.int .i64 i), .imm (.int .u8 c)] K := by
  have hb : big = 9223372036854774000 := rfl
  rw [f35_in]
  have e1 : IntKind.wrap .i64 ((i : Int) + 1) = ((i + 1 : Nat) : Int) := by rw [wrap64 (by omega) (by omega)]; rfl
  rw [e1]
  simp only [Int.toNat_natCast, take_rest]
  refine ⟨fun h => by omega, fun h => by simpa using h, brn_intro (fun h => ?_) (fun h => ?_)⟩
  · have : after s i (u8 c) = (0, 0, false) := by
      unfold after
      by_cases hlt : i < s.length
      · rw [B8.getD_drop hlt]
        simp only
        rw [if_neg]
        intro e
        rw [e, u8_int h0 h1] at h
        simp at h
        omega
      · rw [List.drop_eq_nil_of_le (by omega)]
    rw [this] at hK
    exact hK
  · simp only [Bool.or_eq_false_iff, decide_eq_false_iff_not, bne_eq_false_iff_eq] at h
    have hlt : i < s.length := by omega
    have hc : s.getD i 0 = u8 c := UInt8.toNat_inj.1 (by have := u8_int h0 h1; omega)
    obtain ⟨v, n, g1, g2, g3, g4, _⟩ := number_n (s.drop (i + 1))
    have hl : (s.drop (i + 1)).length = s.length - (i + 1) := List.length_drop
    have e : after s i (u8 c) = ((number (s.drop (i + 1))).1, ((i + 1 : Nat) : Int) + (number (s.drop (i + 1))).2.1, (number (s.drop (i + 1))).2.2) := by
      unfold after
      rw [B8.getD_drop hlt]
      simp only
      rw [if_pos hc]
    rw [e] at hK
    have w : IntKind.wrap .i64 (((i + 1 : Nat) : Int) + (number (s.drop (i + 1))).2.1) = ((i + 1 : Nat) : Int) + (number (s.drop (i + 1))).2.1 := by rw [g2, wrap64 (by omega) (by omega)]
    rw [w]
    exact ⟨by omega, by omega, by omega, hK⟩
theorem ok35 : ∀ args pres res, sAfter args = some (pres, res) → SpecOK Tryd.prog G0 60 args pres res := by
  intro args pres res h
  unfold sAfter at h
  split at h
  case h_2 => cases h
  cases h
  rename_i s n c
  refine mk okF1 at35 (by decide) rfl (fun hp K hK => ?_)
  have h1 := hp _ (List.mem_cons_self ..)
  have h2 := hp _ (List.mem_cons_of_mem _ (List.mem_cons_self ..))
  have h3 := hp _ (List.mem_cons_of_mem _ (List.mem_cons_of_mem _ (List.mem_cons_self ..)))
  have h4 := hp _ (List.mem_cons_of_mem _ (List.mem_cons_of_mem _ (List.mem_cons_of_mem _ (List.mem_cons_self ..))))
  have h5 := hp _ (List.mem_cons_of_mem _ (List.mem_cons_of_mem _ (List.mem_cons_of_mem _ (List.mem_cons_of_mem _ (List.mem_cons_self ..)))))
  obtain ⟨i, rfl⟩ := nat_of h2
  simp only [Int.toNat_natCast] at hK
  exact f35_ev s i c h1 h3 h4 h5 K hK
theorem okF2 : EOK Tryd.prog F2 G0 := addE_ok okF1 ok35
theorem f28_ev (s : List UInt8) (hs : (s.length : Int) ≤ big - 10) (K : List AV → Prop) (hK : K [dayAV (date s).k (date s).d (date s).m (date s).w (date s).e 0, i64 (date s).n, bo (date s).ok]) : evSpec C2 Tryd.f39 [.imm (.str s)] K := by
  have hb : big = 9223372036854774000 := rfl
  rw [f28_in]
  refine brn_intro (fun h => ?_) (fun h => ?_)
  · have : s = [] := by simpa using h
    subst this
    exact hK
  · have hne : s ≠ [] := by simpa using h
    obtain ⟨b, r, rfl⟩ : ∃ b r, s = b :: r := by
      cases s with
      | nil => exact absurd rfl hne
      | cons b r => exact ⟨b, r, rfl⟩
    have et : ∀ l : List UInt8, List.take ((b :: r).length - Int.toNat 1) (List.drop (Int.toNat 1) (b :: r)) = r := fun _ => by
      show List.take (r.length + 1 - 1) r = r
      rw [Nat.add_sub_cancel, List.take_length]
    have et' := et []
    rw [et']
    obtain ⟨v, n, g1, g2, g3, g4, g5⟩ := number_n r
    have w1 : IntKind.wrap .i64 ((number r).2.1 + 1) = ((n + 1 : Nat) : Int) := by rw [g2, wrap64 (by simp at hs; omega) (by simp at hs; omega)]; rfl
    rw [w1]
    simp only [Int.toNat_natCast]
    have hl : ((b :: r).length : Int) = (r.length : Int) + 1 := by simp
    refine ⟨by decide, by omega, brn_intro (fun h1 => ?_) (fun h1 => ?_)⟩
    · have hb74 : b = 74 := by
        have : (b.toNat : Int) = 74 := by simpa using h1
        exact UInt8.toNat_inj.1 (by show b.toNat = 74; omega)
      subst hb74
      have e : date (74 :: r) = ⟨1, (number r).1, 0, 0, 0, (number r).2.1 + 1, (number r).2.2⟩ := rfl
      rw [e] at hK
      have e2 : (number r).2.1 + 1 = ((n + 1 : Nat) : Int) := by rw [g2]; rfl
      simp only at hK
      rw [e2] at hK
      exact ⟨by decide, by omega, by omega, hK⟩
    · have hb74 : b ≠ 74 := by rintro rfl; simp at h1
      refine brn_intro (fun h2 => ?_) (fun h2 => ?_)
      · have hb77 : b = 77 := by
          have : (b.toNat : Int) = 77 := by simpa using h2
          exact UInt8.toNat_inj.1 (by show b.toNat = 77; omega)
        subst hb77
        have e : date (77 :: r) = dateM (77 :: r) := rfl
        rw [e] at hK
        unfold dateM at hK
        have e1 : (77 :: r : List UInt8).drop 1 = r := rfl
        rw [e1, g2, Int.toNat_natCast] at hK
        rw [show u8 46 = 46 from rfl]
        obtain ⟨v2, n2, a1, a2, a3, _⟩ := after_n (77 :: r) (n + 1) 46
        obtain ⟨v3, n3, b1, b2, b3, _⟩ := after_n (77 :: r) n2 46
        refine ⟨by decide, by omega, by omega, brn_intro (fun h3 => ?_) (fun h3 => ?_)⟩
        · have h3' : (number r).2.2 = false := by simpa using h3
          rw [if_neg (by rw [h3']; simp)] at hK
          exact hK
        · have h3' : (number r).2.2 = true := by simpa using h3
          rw [if_pos h3'] at hK
          refine ⟨by omega, by omega, by omega, by decide, by decide, brn_intro (fun h4 => ?_) (fun h4 => ?_)⟩
          · have h4' : (after (77 :: r) (n + 1) 46).2.2 = false := by simpa using h4
            rw [if_neg (by rw [h4']; simp)] at hK
            exact hK
          · have h4' : (after (77 :: r) (n + 1) 46).2.2 = true := by simpa using h4
            rw [if_pos h4'] at hK
            rw [a2] at hK ⊢
            rw [Int.toNat_natCast] at hK ⊢
            exact ⟨by omega, by omega, by omega, by decide, by decide, hK⟩
      · have hb77 : b ≠ 77 := by rintro rfl; simp at h2
        have e : date (b :: r) = ⟨2, (number (b :: r)).1, 0, 0, 0, (number (b :: r)).2.1, (number (b :: r)).2.2⟩ := by
          show (if b = 74 then _ else if b = 77 then _ else _) = _
          rw [if_neg hb74, if_neg hb77]
        rw [e] at hK
        exact ⟨by omega, hK⟩
theorem ok28 : ∀ args pres res, sDate args = some (pres, res) → SpecOK Tryd.prog G0 39 args pres res := by
  intro args pres res h
  unfold sDate at h
  split at h
  case h_2 => cases h
  cases h
  rename_i s
  exact mk okF2 at28 (by decide) rfl (fun hp K hK => f28_ev s (hp _ (List.mem_cons_self ..)) K hK)
theorem okF3 : EOK Tryd.prog F3 G0 := addE_ok okF2 ok28
theorem date_n (s : List UInt8) : ∃ n : Nat, (date s).n = (n : Int) ∧ n ≤ s.length := by
  unfold date
  cases s with
  | nil => exact ⟨0, rfl, Nat.le_refl _⟩
  | cons b r =>
    obtain ⟨v, n, g1, g2, g3, g4, g5⟩ := number_n r
    obtain ⟨v', n', g1', g2', g3', _⟩ := number_n (b :: r)
    simp only
    split
    · exact ⟨n + 1, by show (number r).2.1 + 1 = _; rw [g2]; rfl, by simp; omega⟩
    · split
      · unfold dateM
        split
        · split
          · obtain ⟨_, n3, _, b2, b3, _⟩ := after_n (b :: r) (after (b :: r) ((number ((b :: r).drop 1)).2.1.toNat + 1) 46).2.1.toNat 46
            exact ⟨n3, b2, b3⟩
          · exact ⟨0, rfl, Nat.zero_le _⟩
        · exact ⟨0, rfl, Nat.zero_le _⟩
      · exact ⟨n', g2', g3'⟩
theorem parse_n (s : List UInt8) : ∃ n : Nat, (B8.parse s).2.1 = (n : Int) ∧ n ≤ s.length := by
  unfold B8.parse
  split
  · rename_i h
    obtain ⟨n, e, hn, _⟩ := B8.hours_le s (B8.off s) (B8.off_le_len s) h
    obtain ⟨_, _, n', e', _, h'⟩ := B8.fields_b s n hn
    refine ⟨n', ?_, h'⟩
    simp only
    rw [e, Int.toNat_natCast, e']
  · exact ⟨0, rfl, Nat.zero_le _⟩
theorem f15_ev (s : List UInt8) (hs : (s.length : Int) ≤ big - 20) (K : List AV → Prop) (hK : K [dayAV (day s).k (day s).d (day s).m (day s).w (day s).e (day s).t, i64 (day s).n, bo (day s).ok]) : evSpec C3 Tryd.f20 [.imm (.str s)] K := by
  have hb : big = 9223372036854774000 := rfl
  have hb8 : B8.big = 9223372036854775000 := rfl
  rw [f15_in]
  obtain ⟨n, en, hn⟩ := date_n s
  have w1 : IntKind.wrap .i64 ((date s).n + 1) = ((n + 1 : Nat) : Int) := by rw [en, wrap64 (by omega) (by omega)]; rfl
  rw [w1]
  simp only [Int.toNat_natCast, take_rest]
  have tail : ∀ (t : Int) (m : Int) (ok : Bool), (K [dayAV (dayT (date s) t m ok).k (dayT (date s) t m ok).d (dayT (date s) t m ok).m (dayT (date s) t m ok).w (dayT (date s) t m ok).e (dayT (date s) t m ok).t, i64 (dayT (date s) t m ok).n, bo (dayT (date s) t m ok).ok]) →
      brn (!ok || !validDay (date s).k (date s).d (date s).m (date s).w (date s).e t) (K [dayAV 0 0 0 0 0 0, i64 0, bo false]) (K [dayAV (date s).k (date s).d (date s).m (date s).w (date s).e t, i64 m, bo true]) := by
    intro t m ok h
    unfold dayT at h
    refine brn_intro (fun h1 => ?_) (fun h1 => ?_)
    · rw [if_neg] at h
      · exact h
      · simp only [Bool.or_eq_true, Bool.not_eq_true'] at h1
        simp only [Bool.and_eq_true, not_and, Bool.not_eq_true]
        rcases h1 with h1 | h1
        · intro h2; rw [h1] at h2; cases h2
        · intro _; exact h1
    · rw [if_pos] at h
      · exact h
      · simp only [Bool.or_eq_false_iff, Bool.not_eq_false'] at h1
        rw [h1.1, h1.2]; rfl
  refine ⟨by omega, fun _ => by omega, fun h => ?_, brn_intro (fun h => ?_) (fun h => ?_)⟩
  · rw [Bool.and_eq_true] at h; simpa using h.2
  · have hsl : slash s (date s) = true := by
      unfold slash
      simp only [Bool.and_eq_true, decide_eq_true_eq, beq_iff_eq] at h ⊢
      refine ⟨h.1, ?_⟩
      have := h.2
      exact UInt8.toNat_inj.1 (by show _ = 47; omega)
    have hlt : n < s.length := by
      simp only [Bool.and_eq_true, decide_eq_true_eq] at h
      omega
    unfold day at hK
    rw [if_pos hsl, en, Int.toNat_natCast] at hK
    obtain ⟨m, em, hm⟩ := parse_n (s.drop (n + 1))
    have hl : (s.drop (n + 1)).length = s.length - (n + 1) := List.length_drop
    have w2 : IntKind.wrap .i64 (((n + 1 : Nat) : Int) + (B8.parse (s.drop (n + 1))).2.1) = (n : Int) + 1 + (B8.parse (s.drop (n + 1))).2.1 := by rw [em, wrap64 (by omega) (by omega)]; omega
    rw [w2]
    exact ⟨by omega, by omega, by omega, tail _ _ _ hK⟩
  · have hsl : slash s (date s) = false := by
      cases hc : slash s (date s) with
      | false => rfl
      | true =>
        unfold slash at hc
        simp only [Bool.and_eq_true, decide_eq_true_eq, beq_iff_eq] at hc
        have : ((date s).ok && decide ((date s).n < (s.length : Int)) && (((s.getD (Int.toNat (date s).n) 0).toNat : Int) == 47)) = true := by
          simp only [Bool.and_eq_true, decide_eq_true_eq, beq_iff_eq]
          refine ⟨hc.1, ?_⟩
          rw [hc.2]
          rfl
        rw [this] at h
        cases h
    unfold day at hK
    rw [if_neg (by rw [hsl]; simp)] at hK
    exact tail _ _ _ hK
theorem ok15 : ∀ args pres res, sDay args = some (pres, res) → SpecOK Tryd.prog G0 20 args pres res := by
  intro args pres res h
  unfold sDay at h
  split at h
  case h_2 => cases h
  cases h
  rename_i s
  exact mk okF3 at15 (by decide) rfl (fun hp K hK => f15_ev s (hp _ (List.mem_cons_self ..)) K hK)
theorem validDay_b {k d m w e t : Int} (h : validDay k d m w e t = true) : -604799 ≤ t ∧ t ≤ 604799 ∧ 0 ≤ d ∧ d ≤ 365 ∧ 0 ≤ m ∧ m ≤ 12 ∧ 0 ≤ w ∧ w ≤ 5 ∧ 0 ≤ e ∧ e < 7 ∧ (k = 1 ∨ k = 2 ∨ k = 3) := by
  unfold validDay at h
  simp only [Bool.or_eq_true, Bool.and_eq_true, decide_eq_true_eq, beq_iff_eq] at h
  omega
theorem dd_len (n : Nat) : 1 ≤ (dd n).length ∧ (dd n).length ≤ 3 := B8.dd_len n
theorem fmt_len {n : Int} (h0 : -604799 ≤ n) (h1 : n ≤ 604799) : (B8.fmt n).length ≤ 10 := by
  unfold B8.fmt
  have := B8.fmtN_len n.natAbs (by omega)
  split
  · simp only [List.length_cons]; omega
  · omega
theorem okF4 : EOK Tryd.prog F4 G0 := addE_ok okF3 ok15
end B9
set_option maxRecDepth 100000
namespace B9
open Go Go.AE Go.Proofs
attribute [local irreducible] loopK evCode evSpec loopB norm
theorem f9_in (a : List UInt8) (o : Int) (h : Bool) (b : List UInt8) (p : Int) (k : Int) (d : Int) (m : Int) (w : Int) (e : Int) (t : Int) (k' : Int) (d' : Int) (m' : Int) (w' : Int) (e' : Int) (t' : Int) (K : List AV → Prop) : evSpec C4 Tryd.f38 [ruleAV a o h b p k d m w e t k' d' m' w' e' t'] K = (a.length ≤ 9223372036854775807 ∧ brn (!B7.valid a || !side o) (K [.imm (.bool false)]) (brn (!h) (K [.imm (.bool (decide (a = a) && (o == o && (h == false && (decide (b = []) && (p == 0 && (k == 0 && (d == 0 && (m == 0 && (w == 0 && (e == 0 && (t == 0 && true))))) && (k' == 0 && (d' == 0 && (m' == 0 && (w' == 0 && (e' == 0 && (t' == 0 && true))))) && true))))))))]) (b.length ≤ 9223372036854775807 ∧ K [.imm (.bool (B7.valid b && side p && validDay k d m w e t && validDay k' d' m' w' e' t'))]))) := by kernel_rfl
theorem f8_a (s : List UInt8) (k : AX → St → Prop) : evCode C5 a8 (e8 s) k = (k AX.normal (St.mk [.imm (.str s), .dead, .ptr 0 0, .ptr 1 0, .ptr 2 0, .ptr 3 0, .imm (.str s), .agg [.imm (.str s), .imm (.int .i64 0)], .ptr 3 0, .dead, .dead, .dead, .dead, .dead, .dead, .dead, .dead, .dead, .dead, .dead, .dead, .dead, .dead, .dead, .dead, .dead, .dead, .dead, .dead, .dead, .dead, .dead, .dead, .dead, .dead, .dead, .dead, .dead, .dead, .dead] [(0, Ob.mk true 0 (AObj.cells [.imm (.str []), .imm (.int .i64 0), .imm (.bool false), .imm (.str []), .imm (.int .i64 0), .imm (.int .i64 0), .imm (.int .i64 0), .imm (.int .i64 0), .imm (.int .i64 0), .imm (.int .i64 0), .imm (.int .i64 0), .imm (.int .i64 0), .imm (.int .i64 0), .imm (.int .i64 0), .imm (.int .i64 0), .imm (.int .i64 0), .imm (.int .i64 0)])), (1, Ob.mk true 0 (AObj.cells [.imm (.int .i64 0)])), (2, Ob.mk true 0 (AObj.cells [.imm (.int .i64 0)])), (3, Ob.mk true 0 (AObj.cells [.imm (.str s), .imm (.int .i64 0)]))] (4 : Nat) [])) := by kernel_rfl
theorem f8_n (s : List UInt8) (i : Int) (a : List UInt8) (o : Int) (x : AV) (y : AV) (z : AV) (t : Nat → AV) (k : AX → St → Prop) : evCode C5 (c8 [Dir.r, Dir.r, Dir.r, Dir.l]) (S8 s i (R8 a o) x y z t) k = ((0 : Int) ≤ i ∧ i ≤ (s.length : Int) ∧ (List.take (s.length - i.toNat) (List.drop i.toNat s)).length ≤ 9223372036854775800 ∧ brn (!(B7.parse (List.take (s.length - i.toNat) (List.drop i.toNat s))).2.2) (k (AX.panic (AV.ifc (66 : Nat) (.agg [.imm (.int .i64 i)]))) (St.mk [.imm (.str s), .dead, .ptr 0 0, .ptr 1 0, .ptr 2 0, .ptr 3 0, x, y, z, AV.fn (33 : Nat) [] [.ptr 0 0, .ptr 1 0, .ptr 2 0], .ptr 3 0, t 11, t 12, t 13, t 14, t 15, t 16, t 17, t 18, t 19, t 20, t 21, t 22, t 23, t 24, t 25, t 26, t 27, t 28, t 29, t 30, t 31, t 32, t 33, t 34, t 35, t 36, t 37, t 38, t 39] [(0, Ob.mk true 0 (AObj.cells [.imm (.str a), .imm (.int .i64 o), .imm (.bool false), .imm (.str []), .imm (.int .i64 0), .imm (.int .i64 0), .imm (.int .i64 0), .imm (.int .i64 0), .imm (.int .i64 0), .imm (.int .i64 0), .imm (.int .i64 0), .imm (.int .i64 0), .imm (.int .i64 0), .imm (.int .i64 0), .imm (.int .i64 0), .imm (.int .i64 0), .imm (.int .i64 0)])), (1, Ob.mk true 0 (AObj.cells [.imm (.int .i64
 0)])), (2, Ob.mk true 0 (AObj.cells [.imm (.int .i64 0)])), (3, Ob.mk true 0 (AObj.cells [.imm (.str s), .imm (.int .i64 i)]))] (4 : Nat) [.ptr 0 0, .ptr 1 0, .ptr 2 0])) (k AX.normal (St.mk [.imm (.str s), .dead, .ptr 0 0, .ptr 1 0, .ptr 2 0, .ptr 3 0, x, y, z, AV.fn (33 : Nat) [] [.ptr 0 0, .ptr 1 0, .ptr 2 0], .ptr 3 0, .imm (.str (B7.parse (List.take (s.length - i.toNat) (List.drop i.toNat s))).1), .ptr 0 0, t 13, t 14, t 15, t 16, t 17, t 18, t 19, t 20, t 21, t 22, t 23, t 24, t 25, t 26, t 27, t 28, t 29, t 30, t 31, t 32, t 33, t 34, t 35, t 36, t 37, t 38, t 39] [(0, Ob.mk true 0 (AObj.cells [.imm (.str (B7.parse (List.take (s.length - i.toNat) (List.drop i.toNat s))).1), .imm (.int .i64 o), .imm (.bool false), .imm (.str []), .imm (.int .i64 0), .imm (.int .i64 0), .imm (.int .i64 0), .imm (.int .i64 0), .imm (.int .i64 0), .imm (.int .i64 0), .imm (.int .i64 0), .imm (.int .i64 0), .imm (.int .i64 0), .imm (.int .i64 0), .imm (.int .i64 0), .imm (.int .i64 0), .imm (.int .i64 0)])), (1, Ob.mk true 0 (AObj.cells [.imm (.int .i64 0)])), (2, Ob.mk true 0 (AObj.cells [.imm (.int .i64 0)])), (3, Ob.mk true 0 (AObj.cells [.imm (.str s), .imm (.int .i64 (IntKind.wrap .i64 (i +
 (B7.parse (List.take (s.length - i.toNat) (List.drop i.toNat s))).2.1)))]))] (4 : Nat) [.ptr 0 0, .ptr 1 0, .ptr 2 0]))) := by kernel_rfl
theorem f8_o (s : List UInt8) (i : Int) (a : List UInt8) (o : Int) (x : AV) (y : AV) (z : AV) (t : Nat → AV) (k : AX → St → Prop) : evCode C5 (c8 [Dir.r, Dir.r, Dir.r, Dir.r, Dir.l]) (S8 s i (R8 a o) x y z t) k = ((0 : Int) ≤ i ∧ i ≤ (s.length : Int) ∧ (↑(List.take (s.length - i.toNat) (List.drop i.toNat s)).length : Int) ≤ B8.big ∧ brn (!((B8.parse (List.take (s.length - i.toNat) (List.drop i.toNat s))).2.2 && side (B8.parse (List.take (s.length - i.toNat) (List.drop i.toNat s))).1)) (k (AX.panic (AV.ifc (66 : Nat) (.agg [.imm (.int .i64 i)]))) (St.mk [.imm (.str s), .dead, .ptr 0 0, .ptr 1 0, .ptr 2 0, .ptr 3 0, x, y, z, AV.fn (33 : Nat) [] [.ptr 0 0, .ptr 1 0, .ptr 2 0], t 10, t 11, t 12, .ptr 3 0, t 14, t 15, t 16, t 17, t 18, t 19, t 20, t 21, t 22, t 23, t 24, t 25, t 26, t 27, t 28, t 29, t 30, t 31, t 32, t 33, t 34, t 35, t 36, t 37, t 38, t 39] [(0, Ob.mk true 0 (AObj.cells [.imm (.str a), .imm (.int .i64 o), .imm (.bool false), .imm (.str []), .imm (.int .i64 0), .imm (.int .i64 0), .imm (.int .i64 0), .imm (.int .i64 0), .imm (.int .i64 0), .imm (.int .i64 0), .imm (.int .i64 0), .imm (.int .i64 0), .imm (.int .i64 0), .imm (.int .i64 0), .imm (.int .i64 0), .imm (.int
 .i64 0), .imm (.int .i64 0)])), (1, Ob.mk true 0 (AObj.cells [.imm (.int .i64 0)])), (2, Ob.mk true 0 (AObj.cells [.imm (.int .i64 0)])), (3, Ob.mk true 0 (AObj.cells [.imm (.str s), .imm (.int .i64 i)]))] (4 : Nat) [.ptr 0 0, .ptr 1 0, .ptr 2 0])) (k AX.normal (St.mk [.imm (.str s), .dead, .ptr 0 0, .ptr 1 0, .ptr 2 0, .ptr 3 0, x, y, z, AV.fn (33 : Nat) [] [.ptr 0 0, .ptr 1 0, .ptr 2 0], t 10, t 11, t 12, .ptr 3 0, .imm (.int .i64 (IntKind.wrap .i64 ((0 : Int) - (B8.parse (List.take (s.length - i.toNat) (List.drop i.toNat s))).1))), .ptr 0 1, t 16, t 17, t 18, t 19, t 20, t 21, t 22, t 23, t 24, t 25, t 26, t 27, t 28, t 29, t 30, t 31, t 32, t 33, t 34, t 35, t 36, t 37, t 38, t 39] [(0, Ob.mk true 0 (AObj.cells [.imm (.str a), .imm (.int .i64 (IntKind.wrap .i64 ((0 : Int) - (B8.parse (List.take (s.length - i.toNat) (List.drop i.toNat s))).1))), .imm (.bool false), .imm (.str []), .imm (.int .i64 0), .imm (.int .i64 0), .imm (.int .i64 0), .imm (.int .i64 0), .imm (.int .i64 0), .imm (.int .i64 0), .imm (.int .i64 0), .imm (.int .i64 0), .imm (.int .i64 0), .imm (.int .i64 0), .imm (.int .i64 0), .imm (.int .i64 0), .imm (.int .i64 0)])), (1, Ob.mk true 0 (AObj.cells [.imm (.int
 .i64 0)])), (2, Ob.mk true 0 (AObj.cells [.imm (.int .i64 0)])), (3, Ob.mk true 0 (AObj.cells [.imm (.str s), .imm (.int .i64 (IntKind.wrap .i64 (i + (B8.parse (List.take (s.length - i.toNat) (List.drop i.toNat s))).2.1)))]))] (4 : Nat) [.ptr 0 0, .ptr 1 0, .ptr 2 0]))) := by kernel_rfl
theorem d_1 (s : List UInt8) (i : Int) (R0 : List AV) (R2 : List AV) (a : List UInt8) (o : Int) (h : Bool) (b : List UInt8) (p : Int) (k : Int) (d : Int) (m : Int) (w : Int) (e : Int) (t : Int) (k' : Int) (d' : Int) (m' : Int) (w' : Int) (e' : Int) (t' : Int) (x : AV) (y : AV) (OUT : List AV) (T : Nat → AV) (K : AX → St → Prop) : evCode C4i (c19 [Dir.r, Dir.l]) (S19 s i R0 (R17 a o h b p k d m w e t k' d' m' w' e' t') R2 x y OUT T) K = (((0 : Int) ≤ i ∧ i ≤ (s.length : Int) ∧ (List.take (s.length - i.toNat) (List.drop i.toNat s)).length ≤ 9223372036854775800 ∧ brn (!(B7.parse (List.take (s.length - i.toNat) (List.drop i.toNat s))).2.2) (K (AX.panic (AV.ifc (66 : Nat) (.agg [.imm (.int .i64 i)]))) (St.mk [.ptr 3 0, x, y, .ptr 4 0, .ptr 5 0, T 5, T 6, T 7, .ptr 3 0, T 9, .ptr 4 1, T 11, T 12, T 13, T 14, T 15, T 16, T 17, T 18, T 19, T 20, T 21, T 22, T 23, T 24, T 25, T 26, T 27, T 28, T 29, T 30, T 31, T 32, T 33, T 34, T 35, T 36, T 37, T 38, T 39, T 40, T 41, T 42, T 43, T 44] [(0, Ob.mk true 0 (AObj.cells R0)), (1, Ob.mk true 0 (AObj.cells [.imm (.int .i64 0)])), (2, Ob.mk true 0 (AObj.cells [.imm (.int .i64 0)])), (3, Ob.mk true 0 (AObj.cells [.imm (.str s), .imm (.int .i64
 i)])), (4, Ob.mk true 0 (AObj.cells [.imm (.str a), .imm (.int .i64 o), .imm (.bool h), .imm (.str b), .imm (.int .i64 p), .imm (.int .i64 k), .imm (.int .i64 d), .imm (.int .i64 m), .imm (.int .i64 w), .imm (.int .i64 e), .imm (.int .i64 t), .imm (.int .i64 k'), .imm (.int .i64 d'), .imm (.int .i64 m'), .imm (.int .i64 w'), .imm (.int .i64 e'), .imm (.int .i64 t')])), (5, Ob.mk true 0 (AObj.cells R2))] (6 : Nat) OUT)) (K AX.normal (St.mk [.ptr 3 0, x, y, .ptr 4 0, .ptr 5 0, T 5, T 6, T 7, .ptr 3 0, .imm (.str (B7.parse (List.take (s.length - i.toNat) (List.drop i.toNat s))).1), .ptr 4 1, .imm (.int .i64 o), .imm (.int .i64 (IntKind.wrap .i64 (o + 3600))), .ptr 4 2, .ptr 4 3, .ptr 4 4, T 16, T 17, T 18, T 19, T 20, T 21, T 22, T 23, T 24, T 25, T 26, T 27, T 28, T 29, T 30, T 31, T 32, T 33, T 34, T 35, T 36, T 37, T 38, T 39, T 40, T 41, T 42, T 43, T 44] [(0, Ob.mk true 0 (AObj.cells R0)), (1, Ob.mk true 0 (AObj.cells [.imm (.int .i64 0)])), (2, Ob.mk true 0 (AObj.cells [.imm (.int .i64 0)])), (3, Ob.mk true 0 (AObj.cells [.imm (.str s), .imm (.int .i64 (IntKind.wrap .i64 (i + (B7.parse (List.take (s.length - i.toNat) (List.drop i.toNat s))).2.1)))])), (4, Ob.mk true 0 (AObj.cells
 [.imm (.str a), .imm (.int .i64 o), .imm (.bool true), .imm (.str (B7.parse (List.take (s.length - i.toNat) (List.drop i.toNat s))).1), .imm (.int .i64 (IntKind.wrap .i64 (o + 3600))), .imm (.int .i64 k), .imm (.int .i64 d), .imm (.int .i64 m), .imm (.int .i64 w), .imm (.int .i64 e), .imm (.int .i64 t), .imm (.int .i64 k'), .imm (.int .i64 d'), .imm (.int .i64 m'), .imm (.int .i64 w'), .imm (.int .i64 e'), .imm (.int .i64 t')])), (5, Ob.mk true 0 (AObj.cells R2))] (6 : Nat) OUT))) ∧ (0 : Int) ≤ i ∧ i ≤ (s.length : Int) ∧ (List.take (s.length - i.toNat) (List.drop i.toNat s)).length ≤ 9223372036854775800 ∧ brn (!(B7.parse (List.take (s.length - i.toNat) (List.drop i.toNat s))).2.2) (K (AX.panic (AV.ifc (66 : Nat) (.agg [.imm (.int .i64 i)]))) (St.mk [.ptr 3 0, x, y, .ptr 4 0, .ptr 5 0, T 5, T 6, T 7, .ptr 3 0, T 9, .ptr 4 1, .imm (.int .i64 o), .imm (.int .i64 (IntKind.wrap .i64 (o + 3600))), .ptr 4 2, T 14, T 15, T 16, T 17, T 18, T 19, T 20, T 21, T 22, T 23, T 24, T 25, T 26, T 27, T 28, T 29, T 30, T 31, T 32, T 33, T 34, T 35, T 36, T 37, T 38, T 39, T 40, T 41, T 42, T 43, T 44] [(0, Ob.mk true 0 (AObj.cells R0)), (1, Ob.mk true 0 (AObj.cells [.imm (.int .i64 0)])), (2, Ob.mk
 true 0 (AObj.cells [.imm (.int .i64 0)])), (3, Ob.mk true 0 (AObj.cells [.imm (.str s), .imm (.int .i64 i)])), (4, Ob.mk true 0 (AObj.cells [.imm (.str a), .imm (.int .i64 o), .imm (.bool h), .imm (.str b), .imm (.int .i64 p), .imm (.int .i64 k), .imm (.int .i64 d), .imm (.int .i64 m), .imm (.int .i64 w), .imm (.int .i64 e), .imm (.int .i64 t), .imm (.int .i64 k'), .imm (.int .i64 d'), .imm (.int .i64 m'), .imm (.int .i64 w'), .imm (.int .i64 e'), .imm (.int .i64 t')])), (5, Ob.mk true 0 (AObj.cells R2))] (6 : Nat) OUT)) (K AX.normal (St.mk [.ptr 3 0, x, y, .ptr 4 0, .ptr 5 0, T 5, T 6, T 7, .ptr 3 0, .imm (.str (B7.parse (List.take (s.length - i.toNat) (List.drop i.toNat s))).1), .ptr 4 1, .imm (.int .i64 o), .imm (.int .i64 (IntKind.wrap .i64 (o + 3600))), .ptr 4 2, .ptr 4 3, .ptr 4 4, T 16, T 17, T 18, T 19, T 20, T 21, T 22, T 23, T 24, T 25, T 26, T 27, T 28, T 29, T 30, T 31, T 32, T 33, T 34, T 35, T 36, T 37, T 38, T 39, T 40, T 41, T 42, T 43, T 44] [(0, Ob.mk true 0 (AObj.cells R0)), (1, Ob.mk true 0 (AObj.cells [.imm (.int .i64 0)])), (2, Ob.mk true 0 (AObj.cells [.imm (.int .i64 0)])), (3, Ob.mk true 0 (AObj.cells [.imm (.str s), .imm (.int .i64 (IntKind.wrap .i64 (i +
 (B7.parse (List.take (s.length - i.toNat) (List.drop i.toNat s))).2.1)))])), (4, Ob.mk true 0 (AObj.cells [.imm (.str a), .imm (.int .i64 o), .imm (.bool true), .imm (.str (B7.parse (List.take (s.length - i.toNat) (List.drop i.toNat s))).1), .imm (.int .i64 (IntKind.wrap .i64 (o + 3600))), .imm (.int .i64 k), .imm (.int .i64 d), .imm (.int .i64 m), .imm (.int .i64 w), .imm (.int .i64 e), .imm (.int .i64 t), .imm (.int .i64 k'), .imm (.int .i64 d'), .imm (.int .i64 m'), .imm (.int .i64 w'), .imm (.int .i64 e'), .imm (.int .i64 t')])), (5, Ob.mk true 0 (AObj.cells R2))] (6 : Nat) OUT))) := by kernel_rfl
theorem d_2 (s : List UInt8) (i : Int) (R0 : List AV) (R2 : List AV) (a : List UInt8) (o : Int) (h : Bool) (b : List UInt8) (p : Int) (k : Int) (d : Int) (m : Int) (w : Int) (e : Int) (t : Int) (k' : Int) (d' : Int) (m' : Int) (w' : Int) (e' : Int) (t' : Int) (x : AV) (y : AV) (OUT : List AV) (T : Nat → AV) (K : AX → St → Prop) : evCode C4i (c19 [Dir.r, Dir.r, Dir.l]) (S19 s i R0 (R17 a o h b p k d m w e t k' d' m' w' e' t') R2 x y OUT T) K = ((0 : Int) ≤ i ∧ i ≤ (s.length : Int) ∧ (↑(List.take (s.length - i.toNat) (List.drop i.toNat s)).length : Int) ≤ B8.big ∧ brn (B8.parse (List.take (s.length - i.toNat) (List.drop i.toNat s))).2.2 ((0 : Int) ≤ i ∧ i ≤ (s.length : Int) ∧ (↑(List.take (s.length - i.toNat) (List.drop i.toNat s)).length : Int) ≤ B8.big ∧ brn (!((B8.parse (List.take (s.length - i.toNat) (List.drop i.toNat s))).2.2 && side (B8.parse (List.take (s.length - i.toNat) (List.drop i.toNat s))).1)) (K (AX.panic (AV.ifc (66 : Nat) (.agg [.imm (.int .i64 i)]))) (St.mk [.ptr 3 0, x, y, .ptr 4 0, .ptr 5 0, .imm (.int .i64 (B8.parse (List.take (s.length - i.toNat) (List.drop i.toNat s))).1), .imm (.int .i64 (B8.parse (List.take (s.length - i.toNat) (List.drop i.toNat s))).2.1),
 .imm (.bool (B8.parse (List.take (s.length - i.toNat) (List.drop i.toNat s))).2.2), T 8, T 9, T 10, T 11, T 12, T 13, T 14, T 15, .tup [.imm (.int .i64 (B8.parse (List.take (s.length - i.toNat) (List.drop i.toNat s))).1), .imm (.int .i64 (B8.parse (List.take (s.length - i.toNat) (List.drop i.toNat s))).2.1), .imm (.bool (B8.parse (List.take (s.length - i.toNat) (List.drop i.toNat s))).2.2)], .ptr 3 0, .ptr 3 0, .ptr 3 0, .imm (.str s), .ptr 3 0, .ptr 3 0, .ptr 3 1, .imm (.int .i64 i), .imm (.str (List.take (s.length - i.toNat) (List.drop i.toNat s))), .tup [.imm (.int .i64 (B8.parse (List.take (s.length - i.toNat) (List.drop i.toNat s))).1), .imm (.int .i64 (B8.parse (List.take (s.length - i.toNat) (List.drop i.toNat s))).2.1), .imm (.bool (B8.parse (List.take (s.length - i.toNat) (List.drop i.toNat s))).2.2)], .imm (.int .i64 (B8.parse (List.take (s.length - i.toNat) (List.drop i.toNat s))).1), .imm (.int .i64 (B8.parse (List.take (s.length - i.toNat) (List.drop i.toNat s))).2.1), .imm (.bool (B8.parse (List.take (s.length - i.toNat) (List.drop i.toNat s))).2.2), .imm (.bool (B8.parse (List.take (s.length - i.toNat) (List.drop i.toNat s))).2.2), .ptr 3 0, T 32, T 33, T 34, T 35, T
 36, T 37, T 38, T 39, T 40, T 41, T 42, T 43, T 44] [(0, Ob.mk true 0 (AObj.cells R0)), (1, Ob.mk true 0 (AObj.cells [.imm (.int .i64 0)])), (2, Ob.mk true 0 (AObj.cells [.imm (.int .i64 0)])), (3, Ob.mk true 0 (AObj.cells [.imm (.str s), .imm (.int .i64 i)])), (4, Ob.mk true 0 (AObj.cells [.imm (.str a), .imm (.int .i64 o), .imm (.bool h), .imm (.str b), .imm (.int .i64 p), .imm (.int .i64 k), .imm (.int .i64 d), .imm (.int .i64 m), .imm (.int .i64 w), .imm (.int .i64 e), .imm (.int .i64 t), .imm (.int .i64 k'), .imm (.int .i64 d'), .imm (.int .i64 m'), .imm (.int .i64 w'), .imm (.int .i64 e'), .imm (.int .i64 t')])), (5, Ob.mk true 0 (AObj.cells R2))] (6 : Nat) OUT)) (K AX.normal (St.mk [.ptr 3 0, x, y, .ptr 4 0, .ptr 5 0, .imm (.int .i64 (B8.parse (List.take (s.length - i.toNat) (List.drop i.toNat s))).1), .imm (.int .i64 (B8.parse (List.take (s.length - i.toNat) (List.drop i.toNat s))).2.1), .imm (.bool (B8.parse (List.take (s.length - i.toNat) (List.drop i.toNat s))).2.2), T 8, T 9, T 10, T 11, T 12, T 13, T 14, T 15, .tup [.imm (.int .i64 (B8.parse (List.take (s.length - i.toNat) (List.drop i.toNat s))).1), .imm (.int .i64 (B8.parse (List.take (s.length - i.toNat) (List.drop
 i.toNat s))).2.1), .imm (.bool (B8.parse (List.take (s.length - i.toNat) (List.drop i.toNat s))).2.2)], .ptr 3 0, .ptr 3 0, .ptr 3 0, .imm (.str s), .ptr 3 0, .ptr 3 0, .ptr 3 1, .imm (.int .i64 i), .imm (.str (List.take (s.length - i.toNat) (List.drop i.toNat s))), .tup [.imm (.int .i64 (B8.parse (List.take (s.length - i.toNat) (List.drop i.toNat s))).1), .imm (.int .i64 (B8.parse (List.take (s.length - i.toNat) (List.drop i.toNat s))).2.1), .imm (.bool (B8.parse (List.take (s.length - i.toNat) (List.drop i.toNat s))).2.2)], .imm (.int .i64 (B8.parse (List.take (s.length - i.toNat) (List.drop i.toNat s))).1), .imm (.int .i64 (B8.parse (List.take (s.length - i.toNat) (List.drop i.toNat s))).2.1), .imm (.bool (B8.parse (List.take (s.length - i.toNat) (List.drop i.toNat s))).2.2), .imm (.bool (B8.parse (List.take (s.length - i.toNat) (List.drop i.toNat s))).2.2), .ptr 3 0, .imm (.int .i64 (IntKind.wrap .i64 ((0 : Int) - (B8.parse (List.take (s.length - i.toNat) (List.drop i.toNat s))).1))), .ptr 4 4, T 34, T 35, T 36, T 37, T 38, T 39, T 40, T 41, T 42, T 43, T 44] [(0, Ob.mk true 0 (AObj.cells R0)), (1, Ob.mk true 0 (AObj.cells [.imm (.int .i64 0)])), (2, Ob.mk true 0 (AObj.cells
 [.imm (.int .i64 0)])), (3, Ob.mk true 0 (AObj.cells [.imm (.str s), .imm (.int .i64 (IntKind.wrap .i64 (i + (B8.parse (List.take (s.length - i.toNat) (List.drop i.toNat s))).2.1)))])), (4, Ob.mk true 0 (AObj.cells [.imm (.str a), .imm (.int .i64 o), .imm (.bool h), .imm (.str b), .imm (.int .i64 (IntKind.wrap .i64 ((0 : Int) - (B8.parse (List.take (s.length - i.toNat) (List.drop i.toNat s))).1))), .imm (.int .i64 k), .imm (.int .i64 d), .imm (.int .i64 m), .imm (.int .i64 w), .imm (.int .i64 e), .imm (.int .i64 t), .imm (.int .i64 k'), .imm (.int .i64 d'), .imm (.int .i64 m'), .imm (.int .i64 w'), .imm (.int .i64 e'), .imm (.int .i64 t')])), (5, Ob.mk true 0 (AObj.cells R2))] (6 : Nat) OUT))) (K AX.normal (St.mk [.ptr 3 0, x, y, .ptr 4 0, .ptr 5 0, .imm (.int .i64 (B8.parse (List.take (s.length - i.toNat) (List.drop i.toNat s))).1), .imm (.int .i64 (B8.parse (List.take (s.length - i.toNat) (List.drop i.toNat s))).2.1), .imm (.bool (B8.parse (List.take (s.length - i.toNat) (List.drop i.toNat s))).2.2), T 8, T 9, T 10, T 11, T 12, T 13, T 14, T 15, .tup [.imm (.int .i64 (B8.parse (List.take (s.length - i.toNat) (List.drop i.toNat s))).1), .imm (.int .i64 (B8.parse (List.take
 (s.length - i.toNat) (List.drop i.toNat s))).2.1), .imm (.bool (B8.parse (List.take (s.length - i.toNat) (List.drop i.toNat s))).2.2)], .ptr 3 0, .ptr 3 0, .ptr 3 0, .imm (.str s), .ptr 3 0, .ptr 3 0, .ptr 3 1, .imm (.int .i64 i), .imm (.str (List.take (s.length - i.toNat) (List.drop i.toNat s))), .tup [.imm (.int .i64 (B8.parse (List.take (s.length - i.toNat) (List.drop i.toNat s))).1), .imm (.int .i64 (B8.parse (List.take (s.length - i.toNat) (List.drop i.toNat s))).2.1), .imm (.bool (B8.parse (List.take (s.length - i.toNat) (List.drop i.toNat s))).2.2)], .imm (.int .i64 (B8.parse (List.take (s.length - i.toNat) (List.drop i.toNat s))).1), .imm (.int .i64 (B8.parse (List.take (s.length - i.toNat) (List.drop i.toNat s))).2.1), .imm (.bool (B8.parse (List.take (s.length - i.toNat) (List.drop i.toNat s))).2.2), .imm (.bool (B8.parse (List.take (s.length - i.toNat) (List.drop i.toNat s))).2.2), T 31, T 32, T 33, T 34, T 35, T 36, T 37, T 38, T 39, T 40, T 41, T 42, T 43, T 44] [(0, Ob.mk true 0 (AObj.cells R0)), (1, Ob.mk true 0 (AObj.cells [.imm (.int .i64 0)])), (2, Ob.mk true 0 (AObj.cells [.imm (.int .i64 0)])), (3, Ob.mk true 0 (AObj.cells [.imm (.str s), .imm (.int .i64 i)])),
 (4, Ob.mk true 0 (AObj.cells [.imm (.str a), .imm (.int .i64 o), .imm (.bool h), .imm (.str b), .imm (.int .i64 p), .imm (.int .i64 k), .imm (.int .i64 d), .imm (.int .i64 m), .imm (.int .i64 w), .imm (.int .i64 e), .imm (.int .i64 t), .imm (.int .i64 k'), .imm (.int .i64 d'), .imm (.int .i64 m'), .imm (.int .i64 w'), .imm (.int .i64 e'), .imm (.int .i64 t')])), (5, Ob.mk true 0 (AObj.cells R2))] (6 : Nat) OUT))) := by kernel_rfl
theorem d_3 (s : List UInt8) (i : Int) (R0 : List AV) (R2 : List AV) (a : List UInt8) (o : Int) (h : Bool) (b : List UInt8) (p : Int) (k : Int) (d : Int) (m : Int) (w : Int) (e : Int) (t : Int) (k' : Int) (d' : Int) (m' : Int) (w' : Int) (e' : Int) (t' : Int) (x : AV) (y : AV) (OUT : List AV) (T : Nat → AV) (K : AX → St → Prop) : evCode C4i (c19 [Dir.r, Dir.r, Dir.r, Dir.l]) (S19 s i R0 (R17 a o h b p k d m w e t k' d' m' w' e' t') R2 x y OUT T) K = ((decide (i < (s.length : Int)) = true → (0 : Int) ≤ i) ∧ (decide (i < (s.length : Int)) = true → i < (s.length : Int)) ∧ brn (!(decide (i < (s.length : Int)) && (↑(UInt8.toNat (List.getD s i.toNat (0 : UInt8))) : Int) == 44)) (K (AX.panic (AV.ifc (66 : Nat) (.agg [.imm (.int .i64 i)]))) (St.mk [.ptr 3 0, x, y, .ptr 4 0, .ptr 5 0, T 5, T 6, T 7, T 8, T 9, T 10, T 11, T 12, T 13, T 14, T 15, T 16, T 17, T 18, T 19, T 20, T 21, T 22, T 23, T 24, T 25, T 26, T 27, T 28, T 29, T 30, T 31, T 32, T 33, .ptr 3 0, T 35, T 36, T 37, T 38, T 39, T 40, T 41, T 42, T 43, T 44] [(0, Ob.mk true 0 (AObj.cells R0)), (1, Ob.mk true 0 (AObj.cells [.imm (.int .i64 0)])), (2, Ob.mk true 0 (AObj.cells [.imm (.int .i64 0)])), (3, Ob.mk true 0 (AObj.cells
 [.imm (.str s), .imm (.int .i64 i)])), (4, Ob.mk true 0 (AObj.cells [.imm (.str a), .imm (.int .i64 o), .imm (.bool h), .imm (.str b), .imm (.int .i64 p), .imm (.int .i64 k), .imm (.int .i64 d), .imm (.int .i64 m), .imm (.int .i64 w), .imm (.int .i64 e), .imm (.int .i64 t), .imm (.int .i64 k'), .imm (.int .i64 d'), .imm (.int .i64 m'), .imm (.int .i64 w'), .imm (.int .i64 e'), .imm (.int .i64 t')])), (5, Ob.mk true 0 (AObj.cells R2))] (6 : Nat) OUT)) (K AX.normal (St.mk [.ptr 3 0, x, y, .ptr 4 0, .ptr 5 0, T 5, T 6, T 7, T 8, T 9, T 10, T 11, T 12, T 13, T 14, T 15, T 16, T 17, T 18, T 19, T 20, T 21, T 22, T 23, T 24, T 25, T 26, T 27, T 28, T 29, T 30, T 31, T 32, T 33, .ptr 3 0, .tup [], T 36, T 37, T 38, T 39, T 40, T 41, T 42, T 43, T 44] [(0, Ob.mk true 0 (AObj.cells R0)), (1, Ob.mk true 0 (AObj.cells [.imm (.int .i64 0)])), (2, Ob.mk true 0 (AObj.cells [.imm (.int .i64 0)])), (3, Ob.mk true 0 (AObj.cells [.imm (.str s), .imm (.int .i64 (IntKind.wrap .i64 (i + 1)))])), (4, Ob.mk true 0 (AObj.cells [.imm (.str a), .imm (.int .i64 o), .imm (.bool h), .imm (.str b), .imm (.int .i64 p), .imm (.int .i64 k), .imm (.int .i64 d), .imm (.int .i64 m), .imm (.int .i64 w), .imm (.int .i64
 e), .imm (.int .i64 t), .imm (.int .i64 k'), .imm (.int .i64 d'), .imm (.int .i64 m'), .imm (.int .i64 w'), .imm (.int .i64 e'), .imm (.int .i64 t')])), (5, Ob.mk true 0 (AObj.cells R2))] (6 : Nat) OUT))) := by kernel_rfl
theorem d_4 (s : List UInt8) (i : Int) (R0 : List AV) (R2 : List AV) (a : List UInt8) (o : Int) (h : Bool) (b : List UInt8) (p : Int) (k : Int) (d : Int) (m : Int) (w : Int) (e : Int) (t : Int) (k' : Int) (d' : Int) (m' : Int) (w' : Int) (e' : Int) (t' : Int) (x : AV) (y : AV) (OUT : List AV) (T : Nat → AV) (K : AX → St → Prop) : evCode C4i (c19 [Dir.r, Dir.r, Dir.r, Dir.r, Dir.l]) (S19 s i R0 (R17 a o h b p k d m w e t k' d' m' w' e' t') R2 x y OUT T) K = ((0 : Int) ≤ i ∧ i ≤ (s.length : Int) ∧ ((↑(List.take (s.length - i.toNat) (List.drop i.toNat s)).length : Int) ≤ big - 20 ∧ brn (!Dy.ok (day (List.take (s.length - i.toNat) (List.drop i.toNat s)))) (K (AX.panic (AV.ifc (66 : Nat) (.agg [.imm (.int .i64 i)]))) (St.mk [.ptr 3 0, x, y, .ptr 4 0, .ptr 5 0, T 5, T 6, T 7, T 8, T 9, T 10, T 11, T 12, T 13, T 14, T 15, T 16, T 17, T 18, T 19, T 20, T 21, T 22, T 23, T 24, T 25, T 26, T 27, T 28, T 29, T 30, T 31, T 32, T 33, T 34, T 35, .ptr 3 0, T 37, T 38, T 39, T 40, T 41, T 42, T 43, T 44] [(0, Ob.mk true 0 (AObj.cells R0)), (1, Ob.mk true 0 (AObj.cells [.imm (.int .i64 0)])), (2, Ob.mk true 0 (AObj.cells [.imm (.int .i64 0)])), (3, Ob.mk true 0 (AObj.cells [.imm (.str s), .imm
 (.int .i64 i)])), (4, Ob.mk true 0 (AObj.cells [.imm (.str a), .imm (.int .i64 o), .imm (.bool h), .imm (.str b), .imm (.int .i64 p), .imm (.int .i64 k), .imm (.int .i64 d), .imm (.int .i64 m), .imm (.int .i64 w), .imm (.int .i64 e), .imm (.int .i64 t), .imm (.int .i64 k'), .imm (.int .i64 d'), .imm (.int .i64 m'), .imm (.int .i64 w'), .imm (.int .i64 e'), .imm (.int .i64 t')])), (5, Ob.mk true 0 (AObj.cells R2)), (6, Ob.mk true 0 (AObj.cells [.imm (.int .i64 0), .imm (.int .i64 0), .imm (.int .i64 0), .imm (.int .i64 0), .imm (.int .i64 0), .imm (.int .i64 0)])), (7, Ob.mk true 0 (AObj.cells [.imm (.int .i64 (Dy.k (day (List.take (s.length - i.toNat) (List.drop i.toNat s))))), .imm (.int .i64 (Dy.d (day (List.take (s.length - i.toNat) (List.drop i.toNat s))))), .imm (.int .i64 (Dy.m (day (List.take (s.length - i.toNat) (List.drop i.toNat s))))), .imm (.int .i64 (Dy.w (day (List.take (s.length - i.toNat) (List.drop i.toNat s))))), .imm (.int .i64 (Dy.e (day (List.take (s.length - i.toNat) (List.drop i.toNat s))))), .imm (.int .i64 (Dy.t (day (List.take (s.length - i.toNat) (List.drop i.toNat s)))))]))] (8 : Nat) OUT)) (K AX.normal (St.mk [.ptr 3 0, x, y, .ptr 4 0, .ptr 5 0, T 5, T
 6, T 7, T 8, T 9, T 10, T 11, T 12, T 13, T 14, T 15, T 16, T 17, T 18, T 19, T 20, T 21, T 22, T 23, T 24, T 25, T 26, T 27, T 28, T 29, T 30, T 31, T 32, T 33, T 34, T 35, .ptr 3 0, .agg [.imm (.int .i64 (Dy.k (day (List.take (s.length - i.toNat) (List.drop i.toNat s))))), .imm (.int .i64 (Dy.d (day (List.take (s.length - i.toNat) (List.drop i.toNat s))))), .imm (.int .i64 (Dy.m (day (List.take (s.length - i.toNat) (List.drop i.toNat s))))), .imm (.int .i64 (Dy.w (day (List.take (s.length - i.toNat) (List.drop i.toNat s))))), .imm (.int .i64 (Dy.e (day (List.take (s.length - i.toNat) (List.drop i.toNat s))))), .imm (.int .i64 (Dy.t (day (List.take (s.length - i.toNat) (List.drop i.toNat s)))))], .ptr 4 5, T 39, T 40, T 41, T 42, T 43, T 44] [(0, Ob.mk true 0 (AObj.cells R0)), (1, Ob.mk true 0 (AObj.cells [.imm (.int .i64 0)])), (2, Ob.mk true 0 (AObj.cells [.imm (.int .i64 0)])), (3, Ob.mk true 0 (AObj.cells [.imm (.str s), .imm (.int .i64 (IntKind.wrap .i64 (i + Dy.n (day (List.take (s.length - i.toNat) (List.drop i.toNat s))))))])), (4, Ob.mk true 0 (AObj.cells [.imm (.str a), .imm (.int .i64 o), .imm (.bool h), .imm (.str b), .imm (.int .i64 p), .imm (.int .i64 (Dy.k (day
 (List.take (s.length - i.toNat) (List.drop i.toNat s))))), .imm (.int .i64 (Dy.d (day (List.take (s.length - i.toNat) (List.drop i.toNat s))))), .imm (.int .i64 (Dy.m (day (List.take (s.length - i.toNat) (List.drop i.toNat s))))), .imm (.int .i64 (Dy.w (day (List.take (s.length - i.toNat) (List.drop i.toNat s))))), .imm (.int .i64 (Dy.e (day (List.take (s.length - i.toNat) (List.drop i.toNat s))))), .imm (.int .i64 (Dy.t (day (List.take (s.length - i.toNat) (List.drop i.toNat s))))), .imm (.int .i64 k'), .imm (.int .i64 d'), .imm (.int .i64 m'), .imm (.int .i64 w'), .imm (.int .i64 e'), .imm (.int .i64 t')])), (5, Ob.mk true 0 (AObj.cells R2)), (6, Ob.mk true 0 (AObj.cells [.imm (.int .i64 (Dy.k (day (List.take (s.length - i.toNat) (List.drop i.toNat s))))), .imm (.int .i64 (Dy.d (day (List.take (s.length - i.toNat) (List.drop i.toNat s))))), .imm (.int .i64 (Dy.m (day (List.take (s.length - i.toNat) (List.drop i.toNat s))))), .imm (.int .i64 (Dy.w (day (List.take (s.length - i.toNat) (List.drop i.toNat s))))), .imm (.int .i64 (Dy.e (day (List.take (s.length - i.toNat) (List.drop i.toNat s))))), .imm (.int .i64 (Dy.t (day (List.take (s.length - i.toNat) (List.drop i.toNat s)))))])),
 (7, Ob.mk true 0 (AObj.cells [.imm (.int .i64 (Dy.k (day (List.take (s.length - i.toNat) (List.drop i.toNat s))))), .imm (.int .i64 (Dy.d (day (List.take (s.length - i.toNat) (List.drop i.toNat s))))), .imm (.int .i64 (Dy.m (day (List.take (s.length - i.toNat) (List.drop i.toNat s))))), .imm (.int .i64 (Dy.w (day (List.take (s.length - i.toNat) (List.drop i.toNat s))))), .imm (.int .i64 (Dy.e (day (List.take (s.length - i.toNat) (List.drop i.toNat s))))), .imm (.int .i64 (Dy.t (day (List.take (s.length - i.toNat) (List.drop i.toNat s)))))]))] (8 : Nat) OUT)) ∧ brn (!Dy.ok (day (List.take (s.length - i.toNat) (List.drop i.toNat s)))) (K (AX.panic (AV.ifc (66 : Nat) (.agg [.imm (.int .i64 i)]))) (St.mk [.ptr 3 0, x, y, .ptr 4 0, .ptr 5 0, T 5, T 6, T 7, T 8, T 9, T 10, T 11, T 12, T 13, T 14, T 15, T 16, T 17, T 18, T 19, T 20, T 21, T 22, T 23, T 24, T 25, T 26, T 27, T 28, T 29, T 30, T 31, T 32, T 33, T 34, T 35, .ptr 3 0, T 37, T 38, T 39, T 40, T 41, T 42, T 43, T 44] [(0, Ob.mk true 0 (AObj.cells R0)), (1, Ob.mk true 0 (AObj.cells [.imm (.int .i64 0)])), (2, Ob.mk true 0 (AObj.cells [.imm (.int .i64 0)])), (3, Ob.mk true 0 (AObj.cells [.imm (.str s), .imm (.int .i64 i)])), (4,
 Ob.mk true 0 (AObj.cells [.imm (.str a), .imm (.int .i64 o), .imm (.bool h), .imm (.str b), .imm (.int .i64 p), .imm (.int .i64 k), .imm (.int .i64 d), .imm (.int .i64 m), .imm (.int .i64 w), .imm (.int .i64 e), .imm (.int .i64 t), .imm (.int .i64 k'), .imm (.int .i64 d'), .imm (.int .i64 m'), .imm (.int .i64 w'), .imm (.int .i64 e'), .imm (.int .i64 t')])), (5, Ob.mk true 0 (AObj.cells R2)), (6, Ob.mk true 0 (AObj.cells [.imm (.int .i64 0), .imm (.int .i64 0), .imm (.int .i64 0), .imm (.int .i64 0), .imm (.int .i64 0), .imm (.int .i64 0)])), (7, Ob.mk true 0 (AObj.cells [.imm (.int .i64 (Dy.k (day (List.take (s.length - i.toNat) (List.drop i.toNat s))))), .imm (.int .i64 (Dy.d (day (List.take (s.length - i.toNat) (List.drop i.toNat s))))), .imm (.int .i64 (Dy.m (day (List.take (s.length - i.toNat) (List.drop i.toNat s))))), .imm (.int .i64 (Dy.w (day (List.take (s.length - i.toNat) (List.drop i.toNat s))))), .imm (.int .i64 (Dy.e (day (List.take (s.length - i.toNat) (List.drop i.toNat s))))), .imm (.int .i64 (Dy.t (day (List.take (s.length - i.toNat) (List.drop i.toNat s)))))]))] (8 : Nat) OUT)) (K AX.normal (St.mk [.ptr 3 0, x, y, .ptr 4 0, .ptr 5 0, T 5, T 6, T 7, T 8, T 9, T 10,
 T 11, T 12, T 13, T 14, T 15, T 16, T 17, T 18, T 19, T 20, T 21, T 22, T 23, T 24, T 25, T 26, T 27, T 28, T 29, T 30, T 31, T 32, T 33, T 34, T 35, .ptr 3 0, .agg [.imm (.int .i64 (Dy.k (day (List.take (s.length - i.toNat) (List.drop i.toNat s))))), .imm (.int .i64 (Dy.d (day (List.take (s.length - i.toNat) (List.drop i.toNat s))))), .imm (.int .i64 (Dy.m (day (List.take (s.length - i.toNat) (List.drop i.toNat s))))), .imm (.int .i64 (Dy.w (day (List.take (s.length - i.toNat) (List.drop i.toNat s))))), .imm (.int .i64 (Dy.e (day (List.take (s.length - i.toNat) (List.drop i.toNat s))))), .imm (.int .i64 (Dy.t (day (List.take (s.length - i.toNat) (List.drop i.toNat s)))))], .ptr 4 5, T 39, T 40, T 41, T 42, T 43, T 44] [(0, Ob.mk true 0 (AObj.cells R0)), (1, Ob.mk true 0 (AObj.cells [.imm (.int .i64 0)])), (2, Ob.mk true 0 (AObj.cells [.imm (.int .i64 0)])), (3, Ob.mk true 0 (AObj.cells [.imm (.str s), .imm (.int .i64 (IntKind.wrap .i64 (i + Dy.n (day (List.take (s.length - i.toNat) (List.drop i.toNat s))))))])), (4, Ob.mk true 0 (AObj.cells [.imm (.str a), .imm (.int .i64 o), .imm (.bool h), .imm (.str b), .imm (.int .i64 p), .imm (.int .i64 (Dy.k (day (List.take (s.length -
 i.toNat) (List.drop i.toNat s))))), .imm (.int .i64 (Dy.d (day (List.take (s.length - i.toNat) (List.drop i.toNat s))))), .imm (.int .i64 (Dy.m (day (List.take (s.length - i.toNat) (List.drop i.toNat s))))), .imm (.int .i64 (Dy.w (day (List.take (s.length - i.toNat) (List.drop i.toNat s))))), .imm (.int .i64 (Dy.e (day (List.take (s.length - i.toNat) (List.drop i.toNat s))))), .imm (.int .i64 (Dy.t (day (List.take (s.length - i.toNat) (List.drop i.toNat s))))), .imm (.int .i64 k'), .imm (.int .i64 d'), .imm (.int .i64 m'), .imm (.int .i64 w'), .imm (.int .i64 e'), .imm (.int .i64 t')])), (5, Ob.mk true 0 (AObj.cells R2)), (6, Ob.mk true 0 (AObj.cells [.imm (.int .i64 (Dy.k (day (List.take (s.length - i.toNat) (List.drop i.toNat s))))), .imm (.int .i64 (Dy.d (day (List.take (s.length - i.toNat) (List.drop i.toNat s))))), .imm (.int .i64 (Dy.m (day (List.take (s.length - i.toNat) (List.drop i.toNat s))))), .imm (.int .i64 (Dy.w (day (List.take (s.length - i.toNat) (List.drop i.toNat s))))), .imm (.int .i64 (Dy.e (day (List.take (s.length - i.toNat) (List.drop i.toNat s))))), .imm (.int .i64 (Dy.t (day (List.take (s.length - i.toNat) (List.drop i.toNat s)))))])), (7, Ob.mk true 0
 (AObj.cells [.imm (.int .i64 (Dy.k (day (List.take (s.length - i.toNat) (List.drop i.toNat s))))), .imm (.int .i64 (Dy.d (day (List.take (s.length - i.toNat) (List.drop i.toNat s))))), .imm (.int .i64 (Dy.m (day (List.take (s.length - i.toNat) (List.drop i.toNat s))))), .imm (.int .i64 (Dy.w (day (List.take (s.length - i.toNat) (List.drop i.toNat s))))), .imm (.int .i64 (Dy.e (day (List.take (s.length - i.toNat) (List.drop i.toNat s))))), .imm (.int .i64 (Dy.t (day (List.take (s.length - i.toNat) (List.drop i.toNat s)))))]))] (8 : Nat) OUT))) ∧ (↑(List.take (s.length - i.toNat) (List.drop i.toNat s)).length : Int) ≤ big - 20 ∧ brn (!Dy.ok (day (List.take (s.length - i.toNat) (List.drop i.toNat s)))) (K (AX.panic (AV.ifc (66 : Nat) (.agg [.imm (.int .i64 i)]))) (St.mk [.ptr 3 0, x, y, .ptr 4 0, .ptr 5 0, T 5, T 6, T 7, T 8, T 9, T 10, T 11, T 12, T 13, T 14, T 15, T 16, T 17, T 18, T 19, T 20, T 21, T 22, T 23, T 24, T 25, T 26, T 27, T 28, T 29, T 30, T 31, T 32, T 33, T 34, T 35, .ptr 3 0, T 37, T 38, T 39, T 40, T 41, T 42, T 43, T 44] [(0, Ob.mk true 0 (AObj.cells R0)), (1, Ob.mk true 0 (AObj.cells [.imm (.int .i64 0)])), (2, Ob.mk true 0 (AObj.cells [.imm (.int .i64 0)])), (3,
 Ob.mk true 0 (AObj.cells [.imm (.str s), .imm (.int .i64 i)])), (4, Ob.mk true 0 (AObj.cells [.imm (.str a), .imm (.int .i64 o), .imm (.bool h), .imm (.str b), .imm (.int .i64 p), .imm (.int .i64 k), .imm (.int .i64 d), .imm (.int .i64 m), .imm (.int .i64 w), .imm (.int .i64 e), .imm (.int .i64 t), .imm (.int .i64 k'), .imm (.int .i64 d'), .imm (.int .i64 m'), .imm (.int .i64 w'), .imm (.int .i64 e'), .imm (.int .i64 t')])), (5, Ob.mk true 0 (AObj.cells R2)), (6, Ob.mk true 0 (AObj.cells [.imm (.int .i64 0), .imm (.int .i64 0), .imm (.int .i64 0), .imm (.int .i64 0), .imm (.int .i64 0), .imm (.int .i64 0)])), (7, Ob.mk true 0 (AObj.cells [.imm (.int .i64 (Dy.k (day (List.take (s.length - i.toNat) (List.drop i.toNat s))))), .imm (.int .i64 (Dy.d (day (List.take (s.length - i.toNat) (List.drop i.toNat s))))), .imm (.int .i64 (Dy.m (day (List.take (s.length - i.toNat) (List.drop i.toNat s))))), .imm (.int .i64 (Dy.w (day (List.take (s.length - i.toNat) (List.drop i.toNat s))))), .imm (.int .i64 (Dy.e (day (List.take (s.length - i.toNat) (List.drop i.toNat s))))), .imm (.int .i64 (Dy.t (day (List.take (s.length - i.toNat) (List.drop i.toNat s)))))]))] (8 : Nat) OUT)) (K AX.normal (St.mk
 [.ptr 3 0, x, y, .ptr 4 0, .ptr 5 0, T 5, T 6, T 7, T 8, T 9, T 10, T 11, T 12, T 13, T 14, T 15, T 16, T 17, T 18, T 19, T 20, T 21, T 22, T 23, T 24, T 25, T 26, T 27, T 28, T 29, T 30, T 31, T 32, T 33, T 34, T 35, .ptr 3 0, .agg [.imm (.int .i64 (Dy.k (day (List.take (s.length - i.toNat) (List.drop i.toNat s))))), .imm (.int .i64 (Dy.d (day (List.take (s.length - i.toNat) (List.drop i.toNat s))))), .imm (.int .i64 (Dy.m (day (List.take (s.length - i.toNat) (List.drop i.toNat s))))), .imm (.int .i64 (Dy.w (day (List.take (s.length - i.toNat) (List.drop i.toNat s))))), .imm (.int .i64 (Dy.e (day (List.take (s.length - i.toNat) (List.drop i.toNat s))))), .imm (.int .i64 (Dy.t (day (List.take (s.length - i.toNat) (List.drop i.toNat s)))))], .ptr 4 5, T 39, T 40, T 41, T 42, T 43, T 44] [(0, Ob.mk true 0 (AObj.cells R0)), (1, Ob.mk true 0 (AObj.cells [.imm (.int .i64 0)])), (2, Ob.mk true 0 (AObj.cells [.imm (.int .i64 0)])), (3, Ob.mk true 0 (AObj.cells [.imm (.str s), .imm (.int .i64 (IntKind.wrap .i64 (i + Dy.n (day (List.take (s.length - i.toNat) (List.drop i.toNat s))))))])), (4, Ob.mk true 0 (AObj.cells [.imm (.str a), .imm (.int .i64 o), .imm (.bool h), .imm (.str b), .imm
 (.int .i64 p), .imm (.int .i64 (Dy.k (day (List.take (s.length - i.toNat) (List.drop i.toNat s))))), .imm (.int .i64 (Dy.d (day (List.take (s.length - i.toNat) (List.drop i.toNat s))))), .imm (.int .i64 (Dy.m (day (List.take (s.length - i.toNat) (List.drop i.toNat s))))), .imm (.int .i64 (Dy.w (day (List.take (s.length - i.toNat) (List.drop i.toNat s))))), .imm (.int .i64 (Dy.e (day (List.take (s.length - i.toNat) (List.drop i.toNat s))))), .imm (.int .i64 (Dy.t (day (List.take (s.length - i.toNat) (List.drop i.toNat s))))), .imm (.int .i64 k'), .imm (.int .i64 d'), .imm (.int .i64 m'), .imm (.int .i64 w'), .imm (.int .i64 e'), .imm (.int .i64 t')])), (5, Ob.mk true 0 (AObj.cells R2)), (6, Ob.mk true 0 (AObj.cells [.imm (.int .i64 (Dy.k (day (List.take (s.length - i.toNat) (List.drop i.toNat s))))), .imm (.int .i64 (Dy.d (day (List.take (s.length - i.toNat) (List.drop i.toNat s))))), .imm (.int .i64 (Dy.m (day (List.take (s.length - i.toNat) (List.drop i.toNat s))))), .imm (.int .i64 (Dy.w (day (List.take (s.length - i.toNat) (List.drop i.toNat s))))), .imm (.int .i64 (Dy.e (day (List.take (s.length - i.toNat) (List.drop i.toNat s))))), .imm (.int .i64 (Dy.t (day (List.take
 (s.length - i.toNat) (List.drop i.toNat s)))))])), (7, Ob.mk true 0 (AObj.cells [.imm (.int .i64 (Dy.k (day (List.take (s.length - i.toNat) (List.drop i.toNat s))))), .imm (.int .i64 (Dy.d (day (List.take (s.length - i.toNat) (List.drop i.toNat s))))), .imm (.int .i64 (Dy.m (day (List.take (s.length - i.toNat) (List.drop i.toNat s))))), .imm (.int .i64 (Dy.w (day (List.take (s.length - i.toNat) (List.drop i.toNat s))))), .imm (.int .i64 (Dy.e (day (List.take (s.length - i.toNat) (List.drop i.toNat s))))), .imm (.int .i64 (Dy.t (day (List.take (s.length - i.toNat) (List.drop i.toNat s)))))]))] (8 : Nat) OUT))) := by kernel_rfl
theorem d_5 (s : List UInt8) (i : Int) (R0 : List AV) (R2 : List AV) (a : List UInt8) (o : Int) (h : Bool) (b : List UInt8) (p : Int) (k : Int) (d : Int) (m : Int) (w : Int) (e : Int) (t : Int) (k' : Int) (d' : Int) (m' : Int) (w' : Int) (e' : Int) (t' : Int) (x : AV) (y : AV) (OUT : List AV) (X : List AV) (Y : List AV) (T : Nat → AV) (K : AX → St → Prop) : evCode C4i (c19 [Dir.r, Dir.r, Dir.r, Dir.r, Dir.r, Dir.l]) (S19b s i R0 (R17 a o h b p k d m w e t k' d' m' w' e' t') R2 x y OUT X Y T) K = ((decide (i < (s.length : Int)) = true → (0 : Int) ≤ i) ∧ (decide (i < (s.length : Int)) = true → i < (s.length : Int)) ∧ brn (!(decide (i < (s.length : Int)) && (↑(UInt8.toNat (List.getD s i.toNat (0 : UInt8))) : Int) == 44)) (K (AX.panic (AV.ifc (66 : Nat) (.agg [.imm (.int .i64 i)]))) (St.mk [.ptr 3 0, x, y, .ptr 4 0, .ptr 5 0, T 5, T 6, T 7, T 8, T 9, T 10, T 11, T 12, T 13, T 14, T 15, T 16, T 17, T 18, T 19, T 20, T 21, T 22, T 23, T 24, T 25, T 26, T 27, T 28, T 29, T 30, T 31, T 32, T 33, T 34, T 35, T 36, T 37, T 38, .ptr 3 0, T 40, T 41, T 42, T 43, T 44] [(0, Ob.mk true 0 (AObj.cells R0)), (1, Ob.mk true 0 (AObj.cells [.imm (.int .i64 0)])), (2, Ob.mk true 0 (AObj.cells [.imm
 (.int .i64 0)])), (3, Ob.mk true 0 (AObj.cells [.imm (.str s), .imm (.int .i64 i)])), (4, Ob.mk true 0 (AObj.cells [.imm (.str a), .imm (.int .i64 o), .imm (.bool h), .imm (.str b), .imm (.int .i64 p), .imm (.int .i64 k), .imm (.int .i64 d), .imm (.int .i64 m), .imm (.int .i64 w), .imm (.int .i64 e), .imm (.int .i64 t), .imm (.int .i64 k'), .imm (.int .i64 d'), .imm (.int .i64 m'), .imm (.int .i64 w'), .imm (.int .i64 e'), .imm (.int .i64 t')])), (5, Ob.mk true 0 (AObj.cells R2)), (6, Ob.mk true 0 (AObj.cells X)), (7, Ob.mk true 0 (AObj.cells Y))] (8 : Nat) OUT)) (K AX.normal (St.mk [.ptr 3 0, x, y, .ptr 4 0, .ptr 5 0, T 5, T 6, T 7, T 8, T 9, T 10, T 11, T 12, T 13, T 14, T 15, T 16, T 17, T 18, T 19, T 20, T 21, T 22, T 23, T 24, T 25, T 26, T 27, T 28, T 29, T 30, T 31, T 32, T 33, T 34, T 35, T 36, T 37, T 38, .ptr 3 0, .tup [], T 41, T 42, T 43, T 44] [(0, Ob.mk true 0 (AObj.cells R0)), (1, Ob.mk true 0 (AObj.cells [.imm (.int .i64 0)])), (2, Ob.mk true 0 (AObj.cells [.imm (.int .i64 0)])), (3, Ob.mk true 0 (AObj.cells [.imm (.str s), .imm (.int .i64 (IntKind.wrap .i64 (i + 1)))])), (4, Ob.mk true 0 (AObj.cells [.imm (.str a), .imm (.int .i64 o), .imm (.bool h), .imm (.str b),
 .imm (.int .i64 p), .imm (.int .i64 k), .imm (.int .i64 d), .imm (.int .i64 m), .imm (.int .i64 w), .imm (.int .i64 e), .imm (.int .i64 t), .imm (.int .i64 k'), .imm (.int .i64 d'), .imm (.int .i64 m'), .imm (.int .i64 w'), .imm (.int .i64 e'), .imm (.int .i64 t')])), (5, Ob.mk true 0 (AObj.cells R2)), (6, Ob.mk true 0 (AObj.cells X)), (7, Ob.mk true 0 (AObj.cells Y))] (8 : Nat) OUT))) := by kernel_rfl
theorem d_6 (s : List UInt8) (i : Int) (R0 : List AV) (R2 : List AV) (a : List UInt8) (o : Int) (h : Bool) (b : List UInt8) (p : Int) (k : Int) (d : Int) (m : Int) (w : Int) (e : Int) (t : Int) (k' : Int) (d' : Int) (m' : Int) (w' : Int) (e' : Int) (t' : Int) (x : AV) (y : AV) (OUT : List AV) (X : List AV) (Y : List AV) (T : Nat → AV) (K : AX → St → Prop) : evCode C4i (c19 [Dir.r, Dir.r, Dir.r, Dir.r, Dir.r, Dir.r, Dir.l]) (S19b s i R0 (R17 a o h b p k d m w e t k' d' m' w' e' t') R2 x y OUT X Y T) K = ((0 : Int) ≤ i ∧ i ≤ (s.length : Int) ∧ ((↑(List.take (s.length - i.toNat) (List.drop i.toNat s)).length : Int) ≤ big - 20 ∧ brn (!Dy.ok (day (List.take (s.length - i.toNat) (List.drop i.toNat s)))) (K (AX.panic (AV.ifc (66 : Nat) (.agg [.imm (.int .i64 i)]))) (St.mk [.ptr 3 0, x, y, .ptr 4 0, .ptr 5 0, T 5, T 6, T 7, T 8, T 9, T 10, T 11, T 12, T 13, T 14, T 15, T 16, T 17, T 18, T 19, T 20, T 21, T 22, T 23, T 24, T 25, T 26, T 27, T 28, T 29, T 30, T 31, T 32, T 33, T 34, T 35, T 36, T 37, T 38, T 39, T 40, .ptr 3 0, T 42, T 43, T 44] [(0, Ob.mk true 0 (AObj.cells R0)), (1, Ob.mk true 0 (AObj.cells [.imm (.int .i64 0)])), (2, Ob.mk true 0 (AObj.cells [.imm (.int .i64 0)])), (3,
 Ob.mk true 0 (AObj.cells [.imm (.str s), .imm (.int .i64 i)])), (4, Ob.mk true 0 (AObj.cells [.imm (.str a), .imm (.int .i64 o), .imm (.bool h), .imm (.str b), .imm (.int .i64 p), .imm (.int .i64 k), .imm (.int .i64 d), .imm (.int .i64 m), .imm (.int .i64 w), .imm (.int .i64 e), .imm (.int .i64 t), .imm (.int .i64 k'), .imm (.int .i64 d'), .imm (.int .i64 m'), .imm (.int .i64 w'), .imm (.int .i64 e'), .imm (.int .i64 t')])), (5, Ob.mk true 0 (AObj.cells R2)), (6, Ob.mk true 0 (AObj.cells X)), (7, Ob.mk true 0 (AObj.cells Y)), (8, Ob.mk true 0 (AObj.cells [.imm (.int .i64 0), .imm (.int .i64 0), .imm (.int .i64 0), .imm (.int .i64 0), .imm (.int .i64 0), .imm (.int .i64 0)])), (9, Ob.mk true 0 (AObj.cells [.imm (.int .i64 (Dy.k (day (List.take (s.length - i.toNat) (List.drop i.toNat s))))), .imm (.int .i64 (Dy.d (day (List.take (s.length - i.toNat) (List.drop i.toNat s))))), .imm (.int .i64 (Dy.m (day (List.take (s.length - i.toNat) (List.drop i.toNat s))))), .imm (.int .i64 (Dy.w (day (List.take (s.length - i.toNat) (List.drop i.toNat s))))), .imm (.int .i64 (Dy.e (day (List.take (s.length - i.toNat) (List.drop i.toNat s))))), .imm (.int .i64 (Dy.t (day (List.take (s.length -
 i.toNat) (List.drop i.toNat s)))))]))] (10 : Nat) OUT)) (K AX.normal (St.mk [.ptr 3 0, x, y, .ptr 4 0, .ptr 5 0, T 5, T 6, T 7, T 8, T 9, T 10, T 11, T 12, T 13, T 14, T 15, T 16, T 17, T 18, T 19, T 20, T 21, T 22, T 23, T 24, T 25, T 26, T 27, T 28, T 29, T 30, T 31, T 32, T 33, T 34, T 35, T 36, T 37, T 38, T 39, T 40, .ptr 3 0, .agg [.imm (.int .i64 (Dy.k (day (List.take (s.length - i.toNat) (List.drop i.toNat s))))), .imm (.int .i64 (Dy.d (day (List.take (s.length - i.toNat) (List.drop i.toNat s))))), .imm (.int .i64 (Dy.m (day (List.take (s.length - i.toNat) (List.drop i.toNat s))))), .imm (.int .i64 (Dy.w (day (List.take (s.length - i.toNat) (List.drop i.toNat s))))), .imm (.int .i64 (Dy.e (day (List.take (s.length - i.toNat) (List.drop i.toNat s))))), .imm (.int .i64 (Dy.t (day (List.take (s.length - i.toNat) (List.drop i.toNat s)))))], .ptr 4 11, T 44] [(0, Ob.mk true 0 (AObj.cells R0)), (1, Ob.mk true 0 (AObj.cells [.imm (.int .i64 0)])), (2, Ob.mk true 0 (AObj.cells [.imm (.int .i64 0)])), (3, Ob.mk true 0 (AObj.cells [.imm (.str s), .imm (.int .i64 (IntKind.wrap .i64 (i + Dy.n (day (List.take (s.length - i.toNat) (List.drop i.toNat s))))))])), (4, Ob.mk true 0
 (AObj.cells [.imm (.str a), .imm (.int .i64 o), .imm (.bool h), .imm (.str b), .imm (.int .i64 p), .imm (.int .i64 k), .imm (.int .i64 d), .imm (.int .i64 m), .imm (.int .i64 w), .imm (.int .i64 e), .imm (.int .i64 t), .imm (.int .i64 (Dy.k (day (List.take (s.length - i.toNat) (List.drop i.toNat s))))), .imm (.int .i64 (Dy.d (day (List.take (s.length - i.toNat) (List.drop i.toNat s))))), .imm (.int .i64 (Dy.m (day (List.take (s.length - i.toNat) (List.drop i.toNat s))))), .imm (.int .i64 (Dy.w (day (List.take (s.length - i.toNat) (List.drop i.toNat s))))), .imm (.int .i64 (Dy.e (day (List.take (s.length - i.toNat) (List.drop i.toNat s))))), .imm (.int .i64 (Dy.t (day (List.take (s.length - i.toNat) (List.drop i.toNat s)))))])), (5, Ob.mk true 0 (AObj.cells R2)), (6, Ob.mk true 0 (AObj.cells X)), (7, Ob.mk true 0 (AObj.cells Y)), (8, Ob.mk true 0 (AObj.cells [.imm (.int .i64 (Dy.k (day (List.take (s.length - i.toNat) (List.drop i.toNat s))))), .imm (.int .i64 (Dy.d (day (List.take (s.length - i.toNat) (List.drop i.toNat s))))), .imm (.int .i64 (Dy.m (day (List.take (s.length - i.toNat) (List.drop i.toNat s))))), .imm (.int .i64 (Dy.w (day (List.take (s.length - i.toNat) (List.drop
 i.toNat s))))), .imm (.int .i64 (Dy.e (day (List.take (s.length - i.toNat) (List.drop i.toNat s))))), .imm (.int .i64 (Dy.t (day (List.take (s.length - i.toNat) (List.drop i.toNat s)))))])), (9, Ob.mk true 0 (AObj.cells [.imm (.int .i64 (Dy.k (day (List.take (s.length - i.toNat) (List.drop i.toNat s))))), .imm (.int .i64 (Dy.d (day (List.take (s.length - i.toNat) (List.drop i.toNat s))))), .imm (.int .i64 (Dy.m (day (List.take (s.length - i.toNat) (List.drop i.toNat s))))), .imm (.int .i64 (Dy.w (day (List.take (s.length - i.toNat) (List.drop i.toNat s))))), .imm (.int .i64 (Dy.e (day (List.take (s.length - i.toNat) (List.drop i.toNat s))))), .imm (.int .i64 (Dy.t (day (List.take (s.length - i.toNat) (List.drop i.toNat s)))))]))] (10 : Nat) OUT)) ∧ brn (!Dy.ok (day (List.take (s.length - i.toNat) (List.drop i.toNat s)))) (K (AX.panic (AV.ifc (66 : Nat) (.agg [.imm (.int .i64 i)]))) (St.mk [.ptr 3 0, x, y, .ptr 4 0, .ptr 5 0, T 5, T 6, T 7, T 8, T 9, T 10, T 11, T 12, T 13, T 14, T 15, T 16, T 17, T 18, T 19, T 20, T 21, T 22, T 23, T 24, T 25, T 26, T 27, T 28, T 29, T 30, T 31, T 32, T 33, T 34, T 35, T 36, T 37, T 38, T 39, T 40, .ptr 3 0, T 42, T 43, T 44] [(0, Ob.mk true 0
 (AObj.cells R0)), (1, Ob.mk true 0 (AObj.cells [.imm (.int .i64 0)])), (2, Ob.mk true 0 (AObj.cells [.imm (.int .i64 0)])), (3, Ob.mk true 0 (AObj.cells [.imm (.str s), .imm (.int .i64 i)])), (4, Ob.mk true 0 (AObj.cells [.imm (.str a), .imm (.int .i64 o), .imm (.bool h), .imm (.str b), .imm (.int .i64 p), .imm (.int .i64 k), .imm (.int .i64 d), .imm (.int .i64 m), .imm (.int .i64 w), .imm (.int .i64 e), .imm (.int .i64 t), .imm (.int .i64 k'), .imm (.int .i64 d'), .imm (.int .i64 m'), .imm (.int .i64 w'), .imm (.int .i64 e'), .imm (.int .i64 t')])), (5, Ob.mk true 0 (AObj.cells R2)), (6, Ob.mk true 0 (AObj.cells X)), (7, Ob.mk true 0 (AObj.cells Y)), (8, Ob.mk true 0 (AObj.cells [.imm (.int .i64 0), .imm (.int .i64 0), .imm (.int .i64 0), .imm (.int .i64 0), .imm (.int .i64 0), .imm (.int .i64 0)])), (9, Ob.mk true 0 (AObj.cells [.imm (.int .i64 (Dy.k (day (List.take (s.length - i.toNat) (List.drop i.toNat s))))), .imm (.int .i64 (Dy.d (day (List.take (s.length - i.toNat) (List.drop i.toNat s))))), .imm (.int .i64 (Dy.m (day (List.take (s.length - i.toNat) (List.drop i.toNat s))))), .imm (.int .i64 (Dy.w (day (List.take (s.length - i.toNat) (List.drop i.toNat s))))), .imm (.int
 .i64 (Dy.e (day (List.take (s.length - i.toNat) (List.drop i.toNat s))))), .imm (.int .i64 (Dy.t (day (List.take (s.length - i.toNat) (List.drop i.toNat s)))))]))] (10 : Nat) OUT)) (K AX.normal (St.mk [.ptr 3 0, x, y, .ptr 4 0, .ptr 5 0, T 5, T 6, T 7, T 8, T 9, T 10, T 11, T 12, T 13, T 14, T 15, T 16, T 17, T 18, T 19, T 20, T 21, T 22, T 23, T 24, T 25, T 26, T 27, T 28, T 29, T 30, T 31, T 32, T 33, T 34, T 35, T 36, T 37, T 38, T 39, T 40, .ptr 3 0, .agg [.imm (.int .i64 (Dy.k (day (List.take (s.length - i.toNat) (List.drop i.toNat s))))), .imm (.int .i64 (Dy.d (day (List.take (s.length - i.toNat) (List.drop i.toNat s))))), .imm (.int .i64 (Dy.m (day (List.take (s.length - i.toNat) (List.drop i.toNat s))))), .imm (.int .i64 (Dy.w (day (List.take (s.length - i.toNat) (List.drop i.toNat s))))), .imm (.int .i64 (Dy.e (day (List.take (s.length - i.toNat) (List.drop i.toNat s))))), .imm (.int .i64 (Dy.t (day (List.take (s.length - i.toNat) (List.drop i.toNat s)))))], .ptr 4 11, T 44] [(0, Ob.mk true 0 (AObj.cells R0)), (1, Ob.mk true 0 (AObj.cells [.imm (.int .i64 0)])), (2, Ob.mk true 0 (AObj.cells [.imm (.int .i64 0)])), (3, Ob.mk true 0 (AObj.cells [.imm (.str s), .imm (.int .i64
 (IntKind.wrap .i64 (i + Dy.n (day (List.take (s.length - i.toNat) (List.drop i.toNat s))))))])), (4, Ob.mk true 0 (AObj.cells [.imm (.str a), .imm (.int .i64 o), .imm (.bool h), .imm (.str b), .imm (.int .i64 p), .imm (.int .i64 k), .imm (.int .i64 d), .imm (.int .i64 m), .imm (.int .i64 w), .imm (.int .i64 e), .imm (.int .i64 t), .imm (.int .i64 (Dy.k (day (List.take (s.length - i.toNat) (List.drop i.toNat s))))), .imm (.int .i64 (Dy.d (day (List.take (s.length - i.toNat) (List.drop i.toNat s))))), .imm (.int .i64 (Dy.m (day (List.take (s.length - i.toNat) (List.drop i.toNat s))))), .imm (.int .i64 (Dy.w (day (List.take (s.length - i.toNat) (List.drop i.toNat s))))), .imm (.int .i64 (Dy.e (day (List.take (s.length - i.toNat) (List.drop i.toNat s))))), .imm (.int .i64 (Dy.t (day (List.take (s.length - i.toNat) (List.drop i.toNat s)))))])), (5, Ob.mk true 0 (AObj.cells R2)), (6, Ob.mk true 0 (AObj.cells X)), (7, Ob.mk true 0 (AObj.cells Y)), (8, Ob.mk true 0 (AObj.cells [.imm (.int .i64 (Dy.k (day (List.take (s.length - i.toNat) (List.drop i.toNat s))))), .imm (.int .i64 (Dy.d (day (List.take (s.length - i.toNat) (List.drop i.toNat s))))), .imm (.int .i64 (Dy.m (day (List.take
 (s.length - i.toNat) (List.drop i.toNat s))))), .imm (.int .i64 (Dy.w (day (List.take (s.length - i.toNat) (List.drop i.toNat s))))), .imm (.int .i64 (Dy.e (day (List.take (s.length - i.toNat) (List.drop i.toNat s))))), .imm (.int .i64 (Dy.t (day (List.take (s.length - i.toNat) (List.drop i.toNat s)))))])), (9, Ob.mk true 0 (AObj.cells [.imm (.int .i64 (Dy.k (day (List.take (s.length - i.toNat) (List.drop i.toNat s))))), .imm (.int .i64 (Dy.d (day (List.take (s.length - i.toNat) (List.drop i.toNat s))))), .imm (.int .i64 (Dy.m (day (List.take (s.length - i.toNat) (List.drop i.toNat s))))), .imm (.int .i64 (Dy.w (day (List.take (s.length - i.toNat) (List.drop i.toNat s))))), .imm (.int .i64 (Dy.e (day (List.take (s.length - i.toNat) (List.drop i.toNat s))))), .imm (.int .i64 (Dy.t (day (List.take (s.length - i.toNat) (List.drop i.toNat s)))))]))] (10 : Nat) OUT))) ∧ (↑(List.take (s.length - i.toNat) (List.drop i.toNat s)).length : Int) ≤ big - 20 ∧ brn (!Dy.ok (day (List.take (s.length - i.toNat) (List.drop i.toNat s)))) (K (AX.panic (AV.ifc (66 : Nat) (.agg [.imm (.int .i64 i)]))) (St.mk [.ptr 3 0, x, y, .ptr 4 0, .ptr 5 0, T 5, T 6, T 7, T 8, T 9, T 10, T 11, T 12, T 13, T 14, T
 15, T 16, T 17, T 18, T 19, T 20, T 21, T 22, T 23, T 24, T 25, T 26, T 27, T 28, T 29, T 30, T 31, T 32, T 33, T 34, T 35, T 36, T 37, T 38, T 39, T 40, .ptr 3 0, T 42, T 43, T 44] [(0, Ob.mk true 0 (AObj.cells R0)), (1, Ob.mk true 0 (AObj.cells [.imm (.int .i64 0)])), (2, Ob.mk true 0 (AObj.cells [.imm (.int .i64 0)])), (3, Ob.mk true 0 (AObj.cells [.imm (.str s), .imm (.int .i64 i)])), (4, Ob.mk true 0 (AObj.cells [.imm (.str a), .imm (.int .i64 o), .imm (.bool h), .imm (.str b), .imm (.int .i64 p), .imm (.int .i64 k), .imm (.int .i64 d), .imm (.int .i64 m), .imm (.int .i64 w), .imm (.int .i64 e), .imm (.int .i64 t), .imm (.int .i64 k'), .imm (.int .i64 d'), .imm (.int .i64 m'), .imm (.int .i64 w'), .imm (.int .i64 e'), .imm (.int .i64 t')])), (5, Ob.mk true 0 (AObj.cells R2)), (6, Ob.mk true 0 (AObj.cells X)), (7, Ob.mk true 0 (AObj.cells Y)), (8, Ob.mk true 0 (AObj.cells [.imm (.int .i64 0), .imm (.int .i64 0), .imm (.int .i64 0), .imm (.int .i64 0), .imm (.int .i64 0), .imm (.int .i64 0)])), (9, Ob.mk true 0 (AObj.cells [.imm (.int .i64 (Dy.k (day (List.take (s.length - i.toNat) (List.drop i.toNat s))))), .imm (.int .i64 (Dy.d (day (List.take (s.length - i.toNat) (List.drop
 i.toNat s))))), .imm (.int .i64 (Dy.m (day (List.take (s.length - i.toNat) (List.drop i.toNat s))))), .imm (.int .i64 (Dy.w (day (List.take (s.length - i.toNat) (List.drop i.toNat s))))), .imm (.int .i64 (Dy.e (day (List.take (s.length - i.toNat) (List.drop i.toNat s))))), .imm (.int .i64 (Dy.t (day (List.take (s.length - i.toNat) (List.drop i.toNat s)))))]))] (10 : Nat) OUT)) (K AX.normal (St.mk [.ptr 3 0, x, y, .ptr 4 0, .ptr 5 0, T 5, T 6, T 7, T 8, T 9, T 10, T 11, T 12, T 13, T 14, T 15, T 16, T 17, T 18, T 19, T 20, T 21, T 22, T 23, T 24, T 25, T 26, T 27, T 28, T 29, T 30, T 31, T 32, T 33, T 34, T 35, T 36, T 37, T 38, T 39, T 40, .ptr 3 0, .agg [.imm (.int .i64 (Dy.k (day (List.take (s.length - i.toNat) (List.drop i.toNat s))))), .imm (.int .i64 (Dy.d (day (List.take (s.length - i.toNat) (List.drop i.toNat s))))), .imm (.int .i64 (Dy.m (day (List.take (s.length - i.toNat) (List.drop i.toNat s))))), .imm (.int .i64 (Dy.w (day (List.take (s.length - i.toNat) (List.drop i.toNat s))))), .imm (.int .i64 (Dy.e (day (List.take (s.length - i.toNat) (List.drop i.toNat s))))), .imm (.int .i64 (Dy.t (day (List.take (s.length - i.toNat) (List.drop i.toNat s)))))], .ptr 4 11, T 44]
 [(0, Ob.mk true 0 (AObj.cells R0)), (1, Ob.mk true 0 (AObj.cells [.imm (.int .i64 0)])), (2, Ob.mk true 0 (AObj.cells [.imm (.int .i64 0)])), (3, Ob.mk true 0 (AObj.cells [.imm (.str s), .imm (.int .i64 (IntKind.wrap .i64 (i + Dy.n (day (List.take (s.length - i.toNat) (List.drop i.toNat s))))))])), (4, Ob.mk true 0 (AObj.cells [.imm (.str a), .imm (.int .i64 o), .imm (.bool h), .imm (.str b), .imm (.int .i64 p), .imm (.int .i64 k), .imm (.int .i64 d), .imm (.int .i64 m), .imm (.int .i64 w), .imm (.int .i64 e), .imm (.int .i64 t), .imm (.int .i64 (Dy.k (day (List.take (s.length - i.toNat) (List.drop i.toNat s))))), .imm (.int .i64 (Dy.d (day (List.take (s.length - i.toNat) (List.drop i.toNat s))))), .imm (.int .i64 (Dy.m (day (List.take (s.length - i.toNat) (List.drop i.toNat s))))), .imm (.int .i64 (Dy.w (day (List.take (s.length - i.toNat) (List.drop i.toNat s))))), .imm (.int .i64 (Dy.e (day (List.take (s.length - i.toNat) (List.drop i.toNat s))))), .imm (.int .i64 (Dy.t (day (List.take (s.length - i.toNat) (List.drop i.toNat s)))))])), (5, Ob.mk true 0 (AObj.cells R2)), (6, Ob.mk true 0 (AObj.cells X)), (7, Ob.mk true 0 (AObj.cells Y)), (8, Ob.mk true 0 (AObj.cells [.imm (.int
 .i64 (Dy.k (day (List.take (s.length - i.toNat) (List.drop i.toNat s))))), .imm (.int .i64 (Dy.d (day (List.take (s.length - i.toNat) (List.drop i.toNat s))))), .imm (.int .i64 (Dy.m (day (List.take (s.length - i.toNat) (List.drop i.toNat s))))), .imm (.int .i64 (Dy.w (day (List.take (s.length - i.toNat) (List.drop i.toNat s))))), .imm (.int .i64 (Dy.e (day (List.take (s.length - i.toNat) (List.drop i.toNat s))))), .imm (.int .i64 (Dy.t (day (List.take (s.length - i.toNat) (List.drop i.toNat s)))))])), (9, Ob.mk true 0 (AObj.cells [.imm (.int .i64 (Dy.k (day (List.take (s.length - i.toNat) (List.drop i.toNat s))))), .imm (.int .i64 (Dy.d (day (List.take (s.length - i.toNat) (List.drop i.toNat s))))), .imm (.int .i64 (Dy.m (day (List.take (s.length - i.toNat) (List.drop i.toNat s))))), .imm (.int .i64 (Dy.w (day (List.take (s.length - i.toNat) (List.drop i.toNat s))))), .imm (.int .i64 (Dy.e (day (List.take (s.length - i.toNat) (List.drop i.toNat s))))), .imm (.int .i64 (Dy.t (day (List.take (s.length - i.toNat) (List.drop i.toNat s)))))]))] (10 : Nat) OUT))) := by kernel_rfl
end B9
