/- TznameAlphabet: for every name, place and byte the law returns true and changes no argument; no further condition. -/
import Derived.Test.YtphhooapdgaoaaaAe2
import Derived.KernelRfl
set_option linter.all false
set_option maxRecDepth 100000
namespace Z07
open Go Go.AE Go.Proofs
attribute [local irreducible] loopK evCode evSpec loopB norm
theorem take_place {s : List UInt8} {c : UInt8} (h : place s c < s.length) : s.take (place s c + 1) = s.take (place s c) ++ [c] := by
  induction s with
  | nil => simp [place] at h
  | cons b s ih =>
    rw [place_cons] at h ⊢
    by_cases hb : b = c
    · subst hb; simp
    · rw [if_neg hb] at h ⊢
      have h' : place s c < s.length := by simpa using h
      rw [List.take_succ_cons, ih h', List.take_succ_cons, List.cons_append]
/-- What a parsed designation is. -/
def Form (s a : List UInt8) (n : Int) : Prop := ∃ k : Nat, n = k ∧ k ≤ s.length ∧ 3 ≤ k ∧ valid a = true ∧ (s.take k = a ∨ s.take k = [60] ++ a ++ [62])
theorem parse_form (s : List UInt8) : (∃ a n, parse s = (a, n, true) ∧ Form s a n) ∨ parse s = ([], 0, false) := by
  have hP : ∀ s, (∃ a n, parseP s = (a, n, true) ∧ Form s a n) ∨ parseP s = ([], 0, false) := by
    intro s
    unfold parseP
    by_cases hv : valid (s.take (letters s)) = true
    · rw [if_pos hv]
      have hl := letters_le s
      have h3 := (valid_len hv).1
      rw [List.length_take] at h3
      exact Or.inl ⟨_, _, rfl, letters s, rfl, hl, by omega, hv, Or.inl rfl⟩
    · rw [if_neg hv]; exact Or.inr rfl
  cases s with
  | nil => exact hP []
  | cons b r =>
    by_cases hb : b = 60
    · subst hb
      rw [parse60]
      unfold parseQ
      by_cases hp : place r 62 < r.length
      · rw [if_pos hp]
        by_cases hv : valid (r.take (place r 62)) = true
        · rw [if_pos hv]
          have h3 := (valid_len hv).1
          rw [List.length_take] at h3
          refine Or.inl ⟨_, _, rfl, place r 62 + 2, by omega, by simp; omega, by omega, hv, Or.inr ?_⟩
          rw [List.take_succ_cons, take_place hp]
          rfl
        · rw [if_neg hv]; exact Or.inr rfl
      · rw [if_neg hp]; exact Or.inr rfl
    · rw [show parse (b :: r) = parseP (b :: r) from by simp [parse, hb]]; exact hP (b :: r)
theorem f5_ev (s : List UInt8) (K : List AV → Prop) (hK : K [bo true]) : evSpec C6 Try.f5 [.imm (.str s)] K := by
  rw [f5_in]
  refine brn_intro (fun h => hK) (fun h => ?_)
  have hs : s.length ≤ 1000 := by simp at h; omega
  have tail : (List.length s ≤ 9223372036854775807 ∧
      brn (!valid s) (K [AV.imm (IV.bool true)])
        (List.length [(60 : UInt8)] + List.length s ≤ (9223372036854775807 : Nat) ∧
          List.length ([(60 : UInt8)] ++ s) + List.length [(62 : UInt8), (120 : UInt8)] ≤
              (9223372036854775807 : Nat) ∧
            List.length ([(60 : UInt8)] ++ s ++ [(62 : UInt8), (120 : UInt8)]) ≤
                (9223372036854775800 : Nat) ∧
              K
                [AV.imm
                    (IV.bool
                      (Prod.snd
                            (Prod.snd (parse ([(60 : UInt8)] ++ s ++ [(62 : UInt8), (120 : UInt8)]))) &&
                          decide
                            (Prod.fst (parse ([(60 : UInt8)] ++ s ++ [(62 : UInt8), (120 : UInt8)])) =
                              s) &&
                        Prod.fst
                            (Prod.snd (parse ([(60 : UInt8)] ++ s ++ [(62 : UInt8), (120 : UInt8)]))) ==
                          IntKind.wrap IntKind.i64
                            ((↑(List.length s) : Int) + (2 : Int))))])) := by
    refine ⟨by omega, brn_intro (fun _ => hK) (fun h => ?_)⟩
    have hv : valid s = true := by simpa using h
    refine ⟨by simp; omega, by simp; omega, by simp; omega, ?_⟩
    have e : [(60 : UInt8)] ++ s ++ [62, 120] = 60 :: (s ++ 62 :: [120]) := by simp
    rw [e, parse60, parseQ_of hv, wrap64 (by omega) (by omega)]
    simpa [bo] using hK
  rcases parse_form s with ⟨a, n, e, k, rfl, hk, h3, hv, hf⟩ | e
  · have hla := valid_len hv
    rw [e]
    refine ⟨by omega, fun _ => by show a.length ≤ _; omega, fun _ _ => by show (0 : Int) ≤ (k : Int); omega, fun _ _ => by show (k : Int) ≤ (s.length : Int); omega, fun _ _ _ => by show (0 : Int) ≤ (k : Int); omega, fun _ _ _ => by show (k : Int) ≤ (s.length : Int); omega,
      fun _ _ _ => by show 1 + a.length ≤ _; omega, fun _ _ _ => by simp; omega, brn_intro (fun h => ?_) (fun _ => tail)⟩
    exfalso
    have e1 : decide ((k : Int) > (s.length : Int)) = false := by simp; omega
    have e2 : decide ((k : Int) < 3) = false := by simp; omega
    simp only [hv, e1, e2, Int.toNat_natCast, Nat.sub_zero, List.drop_zero] at h
    rcases hf with hf | hf <;> simp [hf] at h
  · rw [e]
    refine ⟨by omega, fun h => by simp at h, fun h => by simp at h, fun h => by simp at h, fun h => by simp at h, fun h => by simp at h, fun h => by simp at h, fun h => by simp at h, brn_intro (fun h => ?_) (fun _ => tail)⟩
    simp at h
end Z07

set_option maxRecDepth 100000
namespace Z07
open Go Go.AE Go.Proofs
attribute [local irreducible] loopK evCode evSpec loopB norm
theorem f6_in (s : List
  UInt8) (n : Int) (c : Int) (K : List AV →
  Prop) : evSpec C6 Try.f6 [AV.imm (IV.str s), AV.imm (IV.int IntKind.u16 n), AV.imm (IV.int IntKind.u8 c)] K =
  (((!true) = false → List.length s ≤ (9223372036854775807 : Nat)) ∧
  brn (!true || !valid s) (K [AV.imm (IV.bool true)])
    (IntKind.wrap IntKind.i64 ((↑(List.length s) : Int) + (1 : Int)) ≠ (0 : Int) ∧
      (0 : Int) ≤
          Int.tmod (IntKind.wrap IntKind.i64 n) (IntKind.wrap IntKind.i64 ((↑(List.length s) : Int) + (1 : Int))) ∧
        Int.tmod (IntKind.wrap IntKind.i64 n) (IntKind.wrap IntKind.i64 ((↑(List.length s) : Int) + (1 : Int))) ≤
            (↑(List.length s) : Int) ∧
          (0 : Int) ≤
              Int.tmod (IntKind.wrap IntKind.i64 n) (IntKind.wrap IntKind.i64 ((↑(List.length s) : Int) + (1 : Int))) ∧
            Int.tmod (IntKind.wrap IntKind.i64 n) (IntKind.wrap IntKind.i64 ((↑(List.length s) : Int) + (1 : Int))) ≤
                (↑(List.length s) : Int) ∧
              List.length
                      (List.take
                        (Int.toNat
                            (Int.tmod (IntKind.wrap IntKind.i64 n)
                              (IntKind.wrap IntKind.i64 ((↑(List.length s) : Int) + (1 : Int)))) -
                          (0 : Nat))
                        (List.drop (0 : Nat) s)) +
                    List.length (List.map u8 [c]) ≤
                  (9223372036854775807 : Nat) ∧
                List.length
                        (List.take
                            (Int.toNat
                                (Int.tmod (IntKind.wrap IntKind.i64 n)
                                  (IntKind.wrap IntKind.i64 ((↑(List.length s) : Int) + (1 : Int)))) -
                              (0 : Nat))
                            (List.drop (0 : Nat) s) ++
                          List.map u8 [c]) +
                      List.length
                        (List.take
                          (List.length s -
                            Int.toNat
                              (Int.tmod (IntKind.wrap IntKind.i64 n)
                                (IntKind.wrap IntKind.i64 ((↑(List.length s) : Int) + (1 : Int)))))
                          (List.drop
                            (Int.toNat
                              (Int.tmod (IntKind.wrap IntKind.i64 n)
                                (IntKind.wrap IntKind.i64 ((↑(List.length s) : Int) + (1 : Int)))))
                            s)) ≤
                    (9223372036854775807 : Nat) ∧
                  List.length
                        (List.take
                              (Int.toNat
                                  (Int.tmod (IntKind.wrap IntKind.i64 n)
                                    (IntKind.wrap IntKind.i64 ((↑(List.length s) : Int) + (1 : Int)))) -
                                (0 : Nat))
                              (List.drop (0 : Nat) s) ++
                            List.map u8 [c] ++
                          List.take
                            (List.length s -
                              Int.toNat
                                (Int.tmod (IntKind.wrap IntKind.i64 n)
                                  (IntKind.wrap IntKind.i64 ((↑(List.length s) : Int) + (1 : Int)))))
                            (List.drop
                              (Int.toNat
                                (Int.tmod (IntKind.wrap IntKind.i64 n)
                                  (IntKind.wrap IntKind.i64 ((↑(List.length s) : Int) + (1 : Int)))))
                              s)) ≤
                      (9223372036854775807 : Nat) ∧
                    ((valid
                              (List.take
                                    (Int.toNat
                                        (Int.tmod (IntKind.wrap IntKind.i64 n)
                                          (IntKind.wrap IntKind.i64 ((↑(List.length s) : Int) + (1 : Int)))) -
                                      (0 : Nat))
                                    (List.drop (0 : Nat) s) ++
                                  List.map u8 [c] ++
                                List.take
                                  (List.length s -
                                    Int.toNat
                                      (Int.tmod (IntKind.wrap IntKind.i64 n)
                                        (IntKind.wrap IntKind.i64 ((↑(List.length s) : Int) + (1 : Int)))))
                                  (List.drop
                                    (Int.toNat
                                      (Int.tmod (IntKind.wrap IntKind.i64 n)
                                        (IntKind.wrap IntKind.i64 ((↑(List.length s) : Int) + (1 : Int)))))
                                    s)) ==
                            ((isAlpha c || decide (c ≥ (48 : Int)) && decide (c ≤ (57 : Int)) || c == (43 : Int) ||
                                c == (45 : Int)) &&
                              decide ((↑(List.length s) : Int) < (255 : Int)))) =
                          true →
                        (0 : Int) ≤ (2 : Int)) ∧
                      ((valid
                                (List.take
                                      (Int.toNat
                                          (Int.tmod (IntKind.wrap IntKind.i64 n)
                                            (IntKind.wrap IntKind.i64 ((↑(List.length s) : Int) + (1 : Int)))) -
                                        (0 : Nat))
                                      (List.drop (0 : Nat) s) ++
                                    List.map u8 [c] ++
                                  List.take
                                    (List.length s -
                                      Int.toNat
                                        (Int.tmod (IntKind.wrap IntKind.i64 n)
                                          (IntKind.wrap IntKind.i64 ((↑(List.length s) : Int) + (1 : Int)))))
                                    (List.drop
                                      (Int.toNat
                                        (Int.tmod (IntKind.wrap IntKind.i64 n)
                                          (IntKind.wrap IntKind.i64 ((↑(List.length s) : Int) + (1 : Int)))))
                                      s)) ==
                              ((isAlpha c || decide (c ≥ (48 : Int)) && decide (c ≤ (57 : Int)) || c == (43 : Int) ||
                                  c == (45 : Int)) &&
                                decide ((↑(List.length s) : Int) < (255 : Int)))) =
                            true →
                          (2 : Int) ≤ (↑(List.length s) : Int)) ∧
                        ((valid
                                  (List.take
                                        (Int.toNat
                                            (Int.tmod (IntKind.wrap IntKind.i64 n)
                                              (IntKind.wrap IntKind.i64 ((↑(List.length s) : Int) + (1 : Int)))) -
                                          (0 : Nat))
                                        (List.drop (0 : Nat) s) ++
                                      List.map u8 [c] ++
                                    List.take
                                      (List.length s -
                                        Int.toNat
                                          (Int.tmod (IntKind.wrap IntKind.i64 n)
                                            (IntKind.wrap IntKind.i64 ((↑(List.length s) : Int) + (1 : Int)))))
                                      (List.drop
                                        (Int.toNat
                                          (Int.tmod (IntKind.wrap IntKind.i64 n)
                                            (IntKind.wrap IntKind.i64 ((↑(List.length s) : Int) + (1 : Int)))))
                                        s)) ==
                                ((isAlpha c || decide (c ≥ (48 : Int)) && decide (c ≤ (57 : Int)) || c == (43 : Int) ||
                                    c == (45 : Int)) &&
                                  decide ((↑(List.length s) : Int) < (255 : Int)))) =
                              true →
                            List.length (List.take (Int.toNat (2 : Int) - (0 : Nat)) (List.drop (0 : Nat) s)) ≤
                              (9223372036854775807 : Nat)) ∧
                          ((valid
                                      (List.take
                                            (Int.toNat
                                                (Int.tmod (IntKind.wrap IntKind.i64 n)
                                                  (IntKind.wrap IntKind.i64 ((↑(List.length s) : Int) + (1 : Int)))) -
                                              (0 : Nat))
                                            (List.drop (0 : Nat) s) ++
                                          List.map u8 [c] ++
                                        List.take
                                          (List.length s -
                                            Int.toNat
                                              (Int.tmod (IntKind.wrap IntKind.i64 n)
                                                (IntKind.wrap IntKind.i64 ((↑(List.length s) : Int) + (1 : Int)))))
                                          (List.drop
                                            (Int.toNat
                                              (Int.tmod (IntKind.wrap IntKind.i64 n)
                                                (IntKind.wrap IntKind.i64 ((↑(List.length s) : Int) + (1 : Int)))))
                                            s)) ==
                                    ((isAlpha c || decide (c ≥ (48 : Int)) && decide (c ≤ (57 : Int)) ||
                                          c == (43 : Int) ||
                                        c == (45 : Int)) &&
                                      decide ((↑(List.length s) : Int) < (255 : Int))) &&
                                  !valid (List.take (Int.toNat (2 : Int) - (0 : Nat)) (List.drop (0 : Nat) s))) =
                                true →
                              List.length s ≤ (9223372036854775807 : Nat)) ∧
                            K
                              [AV.imm
                                  (IV.bool
                                    (valid
                                            (List.take
                                                  (Int.toNat
                                                      (Int.tmod (IntKind.wrap IntKind.i64 n)
                                                        (IntKind.wrap IntKind.i64
                                                          ((↑(List.length s) : Int) + (1 : Int)))) -
                                                    (0 : Nat))
                                                  (List.drop (0 : Nat) s) ++
                                                List.map u8 [c] ++
                                              List.take
                                                (List.length s -
                                                  Int.toNat
                                                    (Int.tmod (IntKind.wrap IntKind.i64 n)
                                                      (IntKind.wrap IntKind.i64
                                                        ((↑(List.length s) : Int) + (1 : Int)))))
                                                (List.drop
                                                  (Int.toNat
                                                    (Int.tmod (IntKind.wrap IntKind.i64 n)
                                                      (IntKind.wrap IntKind.i64
                                                        ((↑(List.length s) : Int) + (1 : Int)))))
                                                  s)) ==
                                          ((isAlpha c || decide (c ≥ (48 : Int)) && decide (c ≤ (57 : Int)) ||
                                                c == (43 : Int) ||
                                              c == (45 : Int)) &&
                                            decide ((↑(List.length s) : Int) < (255 : Int))) &&
                                        !valid (List.take (Int.toNat (2 : Int) - (0 : Nat)) (List.drop (0 : Nat) s)) &&
                                      valid s))])) := by kernel_rfl
end Z07

set_option maxRecDepth 100000
namespace Z07
open Go Go.AE Go.Proofs
attribute [local irreducible] loopK evCode evSpec loopB norm
theorem u8_nat {c : Int} (h0 : 0 ≤ c) (h1 : c ≤ 255) : ((u8 c).toNat : Int) = c := by
  unfold u8
  simp [UInt8.toNat_ofNat']
  omega
theorem good_u8 {c : Int} (h0 : 0 ≤ c) (h1 : c ≤ 255) : goodB (u8 c) = (isAlpha c || decide (c ≥ 48) && decide (c ≤ 57) || c == 43 || c == 45) := by
  have e := u8_nat h0 h1
  unfold goodB alphaB
  rw [e]
  congr 1
  congr 1
  congr 1
  · congr 1 <;> (rw [Bool.eq_iff_iff]; simp only [decide_eq_true_eq]; omega)
  · rw [Bool.eq_iff_iff]; simp only [beq_iff_eq]; omega
  · rw [Bool.eq_iff_iff]; simp only [beq_iff_eq]; omega
theorem valid_insert {s : List UInt8} (hv : valid s = true) {k : Nat} (hk : k ≤ s.length) (b : UInt8) :
    valid (s.take k ++ [b] ++ (s.drop k).take (s.length - k)) = (goodB b && decide (s.length < 255)) := by
  have hg := valid_good hv
  obtain ⟨h3, h4⟩ := valid_len hv
  have hl : (s.take k ++ [b] ++ (s.drop k).take (s.length - k)).length = s.length + 1 := by simp; omega
  unfold valid
  rw [hl]
  have h1 : (s.take k).all goodB = true := by rw [List.all_eq_true]; exact fun x hx => hg x (List.mem_of_mem_take hx)
  have h2 : ((s.drop k).take (s.length - k)).all goodB = true := by rw [List.all_eq_true]; exact fun x hx => hg x (List.mem_of_mem_drop (List.mem_of_mem_take hx))
  simp only [List.all_append, h1, h2, List.all_cons, List.all_nil, Bool.and_true, Bool.true_and]
  cases goodB b with
  | false => rfl
  | true =>
    simp only [Bool.true_and]
    rw [Bool.eq_iff_iff]
    simp only [Bool.and_eq_true, decide_eq_true_eq]
    omega
theorem valid_two {s : List UInt8} (hv : valid s = true) : valid ((s.drop 0).take (2 - 0)) = false := by
  cases h : valid ((s.drop 0).take (2 - 0)) with
  | false => rfl
  | true =>
    have := (valid_len h).1
    simp at this
    omega
theorem f6_ev (s : List UInt8) (n c : Int) (hs : s.length ≤ 9223372036854775807) (hn0 : 0 ≤ n) (hn1 : n ≤ 65535) (hc0 : 0 ≤ c) (hc1 : c ≤ 255) (K : List AV → Prop) (hK : K [bo true]) : evSpec C6 Try.f6 [.imm (.str s), .imm (.int .u16 n), .imm (.int .u8 c)] K := by
  rw [f6_in]
  refine ⟨fun _ => hs, brn_intro (fun h => hK) (fun h => ?_)⟩
  have hv : valid s = true := by simpa using h
  obtain ⟨h3, h4⟩ := valid_len hv
  have e1 : IntKind.wrap .i64 n = n := wrap64 (by omega) (by omega)
  have e2 : IntKind.wrap .i64 ((s.length : Int) + 1) = (s.length : Int) + 1 := wrap64 (by omega) (by omega)
  obtain ⟨k, ek, hk⟩ : ∃ k : Nat, Int.tmod n ((s.length : Int) + 1) = (k : Int) ∧ k ≤ s.length := by
    have h1 : 0 ≤ Int.tmod n ((s.length : Int) + 1) := Int.tmod_nonneg _ hn0
    have h2 : Int.tmod n ((s.length : Int) + 1) < (s.length : Int) + 1 := Int.tmod_lt_of_pos _ (by omega)
    exact ⟨(Int.tmod n ((s.length : Int) + 1)).toNat, by omega, by omega⟩
  rw [e1, e2, ek]
  have ev := valid_insert hv hk (u8 c)
  rw [good_u8 hc0 hc1] at ev
  simp only [List.map_cons, List.map_nil, Int.toNat_natCast, Nat.sub_zero, List.drop_zero] at ev ⊢
  rw [ev]
  have e5 : decide ((s.length : Int) < 255) = decide (s.length < 255) := by rw [Bool.eq_iff_iff]; simp only [decide_eq_true_eq]; omega
  have e6 := valid_two hv
  simp only [List.drop_zero, Nat.sub_zero] at e6
  rw [e5]
  have hl : (s.take k ++ [u8 c] ++ (s.drop k).take (s.length - k)).length = s.length + 1 := by simp; omega
  refine ⟨by omega, by omega, by omega, by omega, by omega, by simp; omega, by simp; omega, by omega, fun _ => by omega, fun _ => by omega, fun _ => by simp; omega, fun _ => by omega, ?_⟩
  rw [show Int.toNat 2 = 2 from rfl, e6, hv]
  simpa [bo] using hK
end Z07

namespace Go.Proofs.Ytphhooapdgaoaaa
open Go Go.AE Go.Proofs Z07
open Go.ChangeShapes Go.WideShapes Go.ChangeAt Go.RowKit Go.ChangeMaps
theorem Try.own : ownKnob Try.prog.godebug = none := by kernel_rfl
set_option maxRecDepth 100000 in
theorem f6_lifted (os : Os) (started : os.Started) (H : Type) (enc : TypeId × Value → H) :
    ReturnsInHanded {} Try.checked os 6 .any (Rows.tznameAlphabetSpec.pre6 enc Try.prog Try.f6 Rows.tznameAlphabetRow.domain false) (Rows.tznameAlphabetSpec.post enc Try.prog Try.f6 false true false false) := by
  refine returnsInHanded_of_change (C := Try.checked) Try.own started (by kernel_rfl) Try.func6
    (ChangeSpec.witness6 (enc := enc) (C := Try.checked) false ⟨#[], #[.string ⟨#[]⟩, .int .u16 0, .int .u8 0], []⟩ 8 (by kernel_rfl) (by kernel_rfl) (by kernel_rfl) (by kernel_rfl)) ?_
  intro W base args ds gs before hval0 hW hcnd _
  have hval : ∀ (j : Nat) t v, Try.f6.params[j]? = some t → args[j]? = some v → Value.okWide Try.prog W .any base t v := hval0
  have hW' := hW
  obtain ⟨p, q, hA0, hV, rfl, hfz, hnd⟩ := hW
  have hA : DataW.TrodAll enc Try.prog W 0 (fun _ => true) true Try.f6.params.toList args.toList ds p := hA0
  rw [Try.params6] at hA hval
  obtain ⟨v0, v1, v2, d0, d1, d2, p0, p1, p2, rfl, rfl, rfl, h0, h1, h2⟩ := trodAll_three hA
  obtain ⟨rfl, rfl⟩ := trodVars_none hV
  obtain ⟨a0, rfl, rfl, rfl, w0⟩ := open_string Try.underlying9 (hval 0 9 v0 rfl rfl) h0
  obtain ⟨a1, rfl, rfl, rfl, w1⟩ := open_int Try.underlying30 (hval 1 30 v1 rfl rfl) h1
  obtain ⟨a2, rfl, rfl, rfl, w2⟩ := open_int Try.underlying5 (hval 2 5 v2 rfl rfl) h2
  clear hA0 hval0
  simp only [List.append_nil] at hW'
  have m0 : (bytesOf a0).length ≤ 9223372036854775807 := by rw [← size_bytes]; exact w0
  have m1 : InR .u16 a1 := by
    simp only [Lit.wf, Bool.and_eq_true, decide_eq_true_eq] at w1
    exact ⟨by have := w1.1; omega, by have := w1.2; omega⟩
  have m2 : InR .u8 a2 := by
    simp only [Lit.wf, Bool.and_eq_true, decide_eq_true_eq] at w2
    exact ⟨by have := w2.1; omega, by have := w2.2; omega⟩
  have hspec := mk (pres := []) (args := [.imm (.str (bytesOf a0)), .imm (.int .u16 a1), .imm (.int .u8 a2)]) (res := [bo true]) okE6 at6 (by decide) rfl (fun _ K hK => f6_ev (bytesOf a0) a1 a2 m0 m1.1 m1.2 m2.1 m2.2  K hK)
  refine (bool_calls hspec (fun p h => by cases h) W _ rfl (fun j c hc => ?_) (fun n l h => by cases h)).mono fun e W' ⟨he, hw⟩ => ?_
  · match j with
    | 0 => simp only [List.getElem?_cons_zero, Option.some.injEq] at hc; subst hc; exact .imm (.str rfl m0)
    | 1 => simp only [List.getElem?_cons_succ, List.getElem?_cons_zero, Option.some.injEq] at hc; subst hc; exact .imm (.int m1)
    | 2 => simp only [List.getElem?_cons_succ, List.getElem?_cons_zero, Option.some.injEq] at hc; subst hc; exact .imm (.int m2)
    | j + 3 => simp at hc
  subst he
  exact ⟨_, rfl, post_of_below (pa := []) (pv := []) hW' (fun _ _ _ => trodAll_mk1 (shut_bool Try.underlying4 true)) (fun sp _ => trodAll_mk3 (shut_string Try.underlying9 w0) (shut_int Try.underlying30 w1) (shut_int Try.underlying5 w2)) (fun _ _ => rfl) rfl
    hw (ok_one (by kernel_rfl) rfl (okWide_bool_mk Try.underlying4 true))⟩
theorem f6_holds : Rows.TznameAlphabetSaid :=
  OpenClaim.holds_of_wide 6 Try.f6 rfl rfl rfl rfl rfl rfl rfl ⟨rfl, rfl, rfl, rfl, rfl⟩ rfl rfl rfl rfl rfl (by kernel_rfl) Try.func6 (by kernel_rfl)
    (of_decide_eq_true (by kernel_rfl)) (by unfold Func.isWrapper; first | (rw [if_pos (by decide +kernel)]; kernel_rfl) | (rw [if_neg (by decide +kernel)]; exact ⟨rfl, rfl⟩))
    (fun os started H enc _ => f6_lifted os started H enc)
end Go.Proofs.Ytphhooapdgaoaaa

