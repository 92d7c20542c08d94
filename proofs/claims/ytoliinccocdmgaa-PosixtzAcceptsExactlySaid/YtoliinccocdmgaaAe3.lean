/- The walk's evaluator and its laws (over whatever program), and contracts of the program's functions. -/
import Derived.Test.YtoliinccocdmgaaAe2
import Derived.Laws.BitsLemmas
import Derived.Lib.RuneCount
import Derived.KernelRfl
import Derived.Test.YtoliinccocdmgaaProg
import Derived.Shelf.LaysM
import Derived.Shelf.Strconv.Itoa3
set_option linter.all false
set_option maxRecDepth 100000
namespace A7
open Go Go.AE Go.Proofs
attribute [local irreducible] loopK evCode evSpec loopB norm

theorem wrap64 {n : Int} (h1 : -9223372036854775808 ≤ n) (h2 : n ≤ 9223372036854775807) : IntKind.wrap .i64 n = n := by
  have := IntKind.wrap_i64 n
  rw [show IntKind.wrap .i64 n = IntKind.i64.wrap n from rfl, this]; omega
theorem getD_drop {s : List UInt8} {n : Nat} (h : n < s.length) : s.drop n = s.getD n 0 :: s.drop (n + 1) := by
  rw [List.drop_eq_getElem_cons h]
  simp [List.getD_eq_getElem?_getD, List.getElem?_eq_getElem h]

def p18 : Plan := ⟨[], [true, false, true, true], []⟩
theorem f18_ev (s : List UInt8) (hs : s.length ≤ 9223372036854775806) (K : List AV → Prop) (hK : K [i64 (letters s)]) : evSpec C3 Try.f26 [.imm (.str s)] K := by
  rw [f18_in]
  unfold LoopI
  refine loop_rule (fun n : Nat => h18 s n) (fun n => n ≤ s.length ∧ letters s = n + letters (s.drop n)) (fun n => s.length - n) (fun n hP K' hnorm hexit => ?_) rfl 0 p18 _ ⟨Nat.zero_le _, by simp⟩ (by kernel_rfl)
  obtain ⟨hle, hl⟩ := hP
  rw [f18_lp]
  refine ⟨fun _ => by omega, fun h => by simpa using h, brn_intro (fun h => ?_) (fun h => ?_)⟩
  · simp only [Bool.and_eq_true, decide_eq_true_eq, Int.toNat_natCast] at h
    have hlt : n < s.length := by omega
    have e : IntKind.wrap .i64 ((n : Int) + 1) = ((n + 1 : Nat) : Int) := by rw [wrap64 (by omega) (by omega)]; rfl
    refine hnorm (n + 1) p18 _ ⟨hlt, ?_⟩ (by omega) (by rw [← e]; kernel_rfl)
    rw [hl, getD_drop hlt]
    have : alphaB (s.getD n 0) = true := h.2
    simp only [letters, List.takeWhile_cons, this, if_true, List.length_cons]
    omega
  · refine hexit _ _ (by simp) ?_
    have hz : letters (s.drop n) = 0 := by
      by_cases hlt : n < s.length
      · have h2 : alphaB (s.getD n 0) = false := by
          simp only [Bool.and_eq_false_iff, decide_eq_false_iff_not, Int.toNat_natCast] at h
          rcases h with h | h
          · omega
          · exact h
        rw [getD_drop hlt]
        rw [letters, List.takeWhile_cons, h2]; rfl
      · rw [List.drop_eq_nil_of_le (by omega)]; rfl
    rw [hl, hz] at hK
    exact Eq.mp (by kernel_rfl) hK

theorem getD_at {s : List UInt8} {n : Nat} (h : n < s.length) (p : UInt8 → Bool) : (s.drop n).all p = (p (s.getD n 0) && (s.drop (n + 1)).all p) := by
  rw [getD_drop h, List.all_cons]

def p11 : Plan := ⟨[], [true, false, true, true], []⟩
theorem goodB_eq (b : UInt8) : (!isAlpha (b.toNat : Int) && (decide ((b.toNat : Int) < 48) || decide ((b.toNat : Int) > 57)) && (b.toNat : Int) != 43 && (b.toNat : Int) != 45) = !goodB b := by
  unfold goodB alphaB
  cases isAlpha (b.toNat : Int) with
  | true => simp
  | false =>
    rw [Bool.eq_iff_iff]
    simp only [Bool.not_false, Bool.true_and, Bool.false_or, Bool.and_eq_true, Bool.or_eq_true, decide_eq_true_eq, bne_iff_ne, ne_eq, Bool.not_eq_true', Bool.or_eq_false_iff, Bool.and_eq_false_iff, decide_eq_false_iff_not, beq_eq_false_iff_ne]
    omega
theorem f11_ev (s : List UInt8) (hs : s.length ≤ 9223372036854775807) (K : List AV → Prop) (hK : K [bo (valid s)]) : evSpec C2 Try.f10 [.imm (.str s)] K := by
  rw [f11_in]
  unfold LoopI
  refine loop_rule (fun n : Nat => h11 s n) (fun n => n ≤ s.length ∧ s.all goodB = (s.drop n).all goodB) (fun n => s.length - n) (fun n hP K' hnorm hexit => ?_) rfl 0 p11 _ ⟨Nat.zero_le _, by simp⟩ (by kernel_rfl)
  obtain ⟨hle, hl⟩ := hP
  rw [f11_lp]
  refine brn_intro (fun h => ?_) (fun h => ?_)
  · have hlt : n < s.length := by simpa using h
    refine ⟨by omega, by omega, ?_⟩
    rw [getD_at hlt] at hl
    refine brn_intro (fun h => ?_) (fun h => ?_)
    · refine hexit _ _ (by simp) ?_
      rw [goodB_eq, Int.toNat_natCast, Bool.not_eq_true'] at h
      have hv : valid s = false := by unfold valid; rw [hl, h]; rfl
      rw [hv] at hK
      exact Eq.mp (by kernel_rfl) hK
    · rw [goodB_eq, Int.toNat_natCast, Bool.not_eq_false'] at h
      have e : IntKind.wrap .i64 ((n : Int) + 1) = ((n + 1 : Nat) : Int) := by rw [wrap64 (by omega) (by omega)]; rfl
      refine hnorm (n + 1) p11 _ ⟨hlt, ?_⟩ (by omega) (by rw [← e]; kernel_rfl)
      rw [hl, h, Bool.true_and]
  · have hge : ¬ n < s.length := by simpa using h
    refine hexit _ _ (by simp) ?_
    have hv : valid s = (decide ((s.length : Int) ≥ 3) && decide ((s.length : Int) ≤ 255)) := by
      unfold valid
      rw [hl, List.drop_eq_nil_of_le (by omega), List.all_nil, Bool.true_and]
      congr 1 <;> rw [Bool.eq_iff_iff] <;> simp <;> omega
    rw [hv] at hK
    exact Eq.mp (by kernel_rfl) hK
end A7

set_option maxRecDepth 100000
namespace A7
open Go Go.AE Go.Proofs
attribute [local irreducible] loopK evCode evSpec loopB norm

theorem rune_low {s : List UInt8} {n : Nat} (h : n < s.length) (hb : (s.getD n 0).toNat < 128) : runeAt s n = (((s.getD n 0).toNat : Int), 1) := by
  have hg : s.getD n 0 = s[n] := by simp [List.getD_eq_getElem?_getD, List.getElem?_eq_getElem h]
  have hsz : n < (⟨s.toArray⟩ : ByteArray).size := by simpa [ByteArray.size] using h
  have he : (⟨s.toArray⟩ : ByteArray)[n]'hsz = s[n] := by
    show s.toArray[n] = s[n]
    simp
  unfold runeAt
  rw [decode_ascii ⟨s.toArray⟩ n hsz (by rw [he, ← hg]; exact hb), he, hg]
theorem rune_high {s : List UInt8} {n : Nat} (h : n < s.length) (hb : ¬ (s.getD n 0).toNat < 128) : 128 ≤ (runeAt s n).1 := by
  have hg : s.getD n 0 = s[n] := by simp [List.getD_eq_getElem?_getD, List.getElem?_eq_getElem h]
  have hsz : n < (⟨s.toArray⟩ : ByteArray).size := by simpa [ByteArray.size] using h
  have he : (⟨s.toArray⟩ : ByteArray)[n]'hsz = s[n] := by
    show s.toArray[n] = s[n]
    simp
  have := (decode_high ⟨s.toArray⟩ n hsz (by rw [he, ← hg]; omega)).1
  unfold runeAt
  simp only
  omega

theorem alphaB_high {b : UInt8} (hb : ¬ b.toNat < 128) : alphaB b = false := by
  unfold alphaB isAlpha
  simp
  omega
theorem goodB_high {b : UInt8} (hb : ¬ b.toNat < 128) : goodB b = false := by
  unfold goodB
  rw [alphaB_high hb]
  simp
  omega
theorem wrap_low {n : Nat} (h : n < 128) : IntKind.wrap .u8 (n : Int) = n := by
  have := IntKind.wrap_u8 n
  rw [show IntKind.wrap .u8 (n : Int) = IntKind.u8.wrap n from rfl, this]; omega
theorem allowed_rune {s : List UInt8} {n : Nat} (h : n < s.length) : allowed (runeAt s n).1 = goodB (s.getD n 0) := by
  by_cases hb : (s.getD n 0).toNat < 128
  · rw [rune_low h hb]
    unfold allowed goodB alphaB
    simp only [wrap_low hb]
    generalize isAlpha _ = x
    generalize (s.getD n 0).toNat = m at hb
    rw [Bool.eq_iff_iff]
    cases x <;> simp <;> omega
  · have hr := rune_high h hb
    rw [goodB_high hb]
    unfold allowed
    simp
    omega

def p10 : Plan := ⟨[], [true, false, true, false, false, true, true], [0]⟩
theorem f10_ev (s : List UInt8) (K : List AV → Prop) (hK : K [bo (valid s)]) : evSpec C2 Try.f21 [.imm (.str s)] K := by
  rw [f10_in]
  unfold LoopI
  refine loop_rule (fun n : Nat => h10 s n) (fun n => s.all goodB = (s.drop n).all goodB) (fun n => s.length - n) (fun n hl K' hnorm hexit => ?_) rfl 0 p10 _ (by simp) (by kernel_rfl)
  rw [f10_lp]
  refine brn_intro (fun h => ?_) (fun h => ?_)
  · have hlt : n < s.length := by simpa using h
    rw [getD_at hlt] at hl
    refine brn_intro (fun h => ?_) (fun h => ?_)
    · refine hexit _ _ (by simp) ?_
      rw [allowed_rune hlt, Bool.not_eq_true'] at h
      have hv : valid s = false := by unfold valid; rw [hl, h]; rfl
      rw [hv] at hK
      exact Eq.mp (by kernel_rfl) hK
    · rw [allowed_rune hlt, Bool.not_eq_false'] at h
      have hb : (s.getD n 0).toNat < 128 := by
        by_cases hb : (s.getD n 0).toNat < 128
        · exact hb
        · rw [goodB_high hb] at h; cases h
      have e : n + (runeAt s n).2 = n + 1 := by rw [rune_low hlt hb]
      refine hnorm (n + 1) p10 _ ?_ (by omega) (by rw [← e]; kernel_rfl)
      rw [hl, h, Bool.true_and]
  · have hge : ¬ n < s.length := by simpa using h
    refine hexit _ _ (by simp) ?_
    have hv : valid s = (decide ((s.length : Int) ≥ 3) && decide ((s.length : Int) ≤ 255)) := by
      unfold valid
      rw [hl, List.drop_eq_nil_of_le (by omega), List.all_nil, Bool.true_and]
      congr 1 <;> rw [Bool.eq_iff_iff] <;> simp <;> omega
    rw [hv] at hK
    exact Eq.mp (by kernel_rfl) hK

theorem bare_rune {s : List UInt8} {n : Nat} (h : n < s.length) : (decide ((runeAt s n).1 ≥ 128) || !isAlpha (IntKind.wrap .u8 (runeAt s n).1)) = !alphaB (s.getD n 0) := by
  by_cases hb : (s.getD n 0).toNat < 128
  · rw [rune_low h hb]
    unfold alphaB
    simp only [wrap_low hb]
    generalize isAlpha _ = x
    generalize (s.getD n 0).toNat = m at hb
    cases x <;> simp <;> omega
  · have hr := rune_high h hb
    rw [alphaB_high hb]
    simp
    omega
def p20 : Plan := ⟨[], [true, false, true, false, false, true, true], [0]⟩
theorem ok10 : ∀ args pres res, sValid args = some (pres, res) → SpecOK Try.prog G0 21 args pres res := by
  intro args pres res h
  unfold sValid at h
  split at h
  case h_2 => cases h
  cases h
  exact mk okE2 at10 (by decide) rfl (fun _ K hK => f10_ev _ K hK)
theorem ok11 : ∀ args pres res, sValid args = some (pres, res) → SpecOK Try.prog G0 10 args pres res := by
  intro args pres res h
  unfold sValid at h
  split at h
  case h_2 => cases h
  cases h
  exact mk okE2 at11 (by decide) rfl (fun hp K hK => f11_ev _ (hp _ (by simp)) K hK)
theorem okE3 : EOK Try.prog E3 G0 := addE_ok (addE_ok okE2 ok10) ok11
theorem ok18 : ∀ args pres res, sLetters args = some (pres, res) → SpecOK Try.prog G0 26 args pres res := by
  intro args pres res h
  unfold sLetters at h
  split at h
  case h_2 => cases h
  cases h
  exact mk okE3 at18 (by decide) rfl (fun hp K hK => f18_ev _ (hp _ (by simp)) K hK)
end A7

set_option maxRecDepth 100000
namespace A7
open Go Go.AE Go.Proofs
attribute [local irreducible] loopK evCode evSpec loopB norm

theorem pfx_len {s t : List UInt8} (h : pfx s t = true) : t.length ≤ s.length := by
  rw [pfx_eq] at h
  simp at h
  exact h.1
theorem ok21 : ∀ args pres res, sCut args = some (pres, res) → SpecOK Try.prog G0 44 args pres res := by
  intro args pres res h
  unfold sCut at h
  split at h
  case h_2 => cases h
  cases h
  rename_i s t
  refine mk okE3 at21 (by decide) rfl (fun _ K hK => ?_)
  rw [show cx E3 = C3 from rfl, f21_in]
  unfold bo st at hK
  refine brn_intro (fun h => ?_) (fun h => ?_)
  · rw [Bool.not_eq_true'] at h
    rw [h] at hK
    exact hK
  · rw [Bool.not_eq_false'] at h
    have hl := pfx_len h
    refine ⟨by omega, by omega, ?_⟩
    rw [h] at hK
    have e : List.take (s.length - Int.toNat (t.length : Int)) (List.drop (Int.toNat (t.length : Int)) s) = s.drop t.length := by
      rw [Int.toNat_natCast, List.take_of_length_le (by simp)]
    rw [e]
    exact hK
def E3b := addE (addE E3 26 sLetters) 44 sCut
theorem okE3b : EOK Try.prog E3b G0 := addE_ok (addE_ok okE3 ok18) ok21
theorem f16_in (s t : List UInt8) (K : List AV → Prop) : evSpec (cx E3b) Try.f39 [.imm (.str s), .imm (.str t)] K = K [st (if pfx s t then s.drop t.length else s), bo (pfx s t)] := by kernel_rfl
theorem ok16 : ∀ args pres res, sCut args = some (pres, res) → SpecOK Try.prog G0 39 args pres res := by
  intro args pres res h
  unfold sCut at h
  split at h
  case h_2 => cases h
  cases h
  exact mk okE3b at16 (by decide) rfl (fun _ K hK => by rw [f16_in]; exact hK)
theorem okE4 : EOK Try.prog E4 G0 := addE_ok okE3b ok16
theorem letters_bare (s : List UInt8) : (((letters s : Nat) : Int) == (s.length : Int)) = bare s := by
  unfold letters bare
  rw [Bool.eq_iff_iff]
  simp only [beq_iff_eq, Int.natCast_inj]
  induction s with
  | nil => simp
  | cons b r ih =>
    cases h : alphaB b with
    | true => simp [List.takeWhile_cons, h, ih]
    | false => simp [List.takeWhile_cons, h]
theorem ok15 : ∀ args pres res, sFmt args = some (pres, res) → SpecOK Try.prog G0 13 args pres res := by
  intro args pres res h
  unfold sFmt at h
  split at h
  case h_2 => cases h
  cases h
  rename_i s
  refine mk okE4 at15 (by decide) rfl (fun hp K hK => ?_)
  have hl : s.length ≤ 9223372036854775800 := hp _ (by simp)
  rw [show cx E4 = C4 from rfl, f15_in]
  unfold st fmt at hK
  simp only [letters_bare]
  first
  | refine ⟨by omega, ?_⟩
  | skip
  refine brn_intro (fun h => ?_) (fun h => ?_)
  · rw [h] at hK; exact hK
  · rw [h] at hK
    refine ⟨by simp; omega, by simp; omega, ?_⟩
    exact hK
end A7

set_option maxRecDepth 100000
namespace A7
open Go Go.AE Go.Proofs
theorem f8_out (s : List
  UInt8) (i : Int) (K : List AV →
  Prop) : loopK C4 (bodyOf Try.f30) (0 : Nat) (finK C4 Try.f30 K) (AX.exit (0 : Nat))
  (St.mk
    (let y :=
      let y :=
        let y := [AV.dead, AV.dead, AV.dead, AV.dead, AV.dead, AV.dead];
        AV.opt [((29 : Nat), true)]
            (AV.imm (IV.bool (isAlpha (↑(UInt8.toNat (List.getD s (Int.toNat i) (0 : UInt8))) : Int)))) ::
          AV.imm
              (IV.bool
                (decide (i < (↑(List.length s) : Int)) &&
                  isAlpha (↑(UInt8.toNat (List.getD s (Int.toNat i) (0 : UInt8))) : Int))) ::
            AV.dead :: AV.dead :: AV.dead :: AV.dead :: y;
      let y :=
        AV.imm (IV.int IntKind.i64 (↑(List.length s) : Int)) ::
          AV.imm (IV.bool (decide (i < (↑(List.length s) : Int)))) ::
            AV.imm (IV.bool (decide (i < (↑(List.length s) : Int)))) ::
              AV.opt [((29 : Nat), true)] (AV.imm (IV.str s)) ::
                AV.opt [((29 : Nat), true)] (AV.imm (IV.int IntKind.i64 i)) ::
                  AV.opt [((29 : Nat), true)]
                      (AV.imm (IV.int IntKind.u8 (↑(UInt8.toNat (List.getD s (Int.toNat i) (0 : UInt8))) : Int))) ::
                    y;
      AV.dead :: AV.dead :: AV.dead :: AV.imm (IV.int IntKind.i64 i) :: AV.imm (IV.str s) :: y;
    let y :=
      let y := AV.dead :: AV.dead :: AV.dead :: AV.dead :: AV.dead :: AV.dead :: y;
      AV.dead :: AV.dead :: AV.dead :: AV.dead :: AV.dead :: y;
    let y := AV.imm (IV.str []) :: AV.imm (IV.int IntKind.i64 i) :: AV.dead :: AV.dead :: AV.dead :: AV.dead :: y;
    AV.imm (IV.str s) ::
      AV.dead :: AV.imm (IV.str []) :: AV.imm (IV.int IntKind.i64 (0 : Int)) :: AV.imm (IV.bool false) :: y)
    [] (0 : Nat) []) =
  ((0 : Int) ≤ i ∧
  i ≤ (↑(List.length s) : Int) ∧
    List.length (List.take (Int.toNat i - (0 : Nat)) (List.drop (0 : Nat) s)) ≤ (9223372036854775807 : Nat) ∧
      brn (!valid (List.take (Int.toNat i - (0 : Nat)) (List.drop (0 : Nat) s)))
        (K [AV.imm (IV.str []), AV.imm (IV.int IntKind.i64 (0 : Int)), AV.imm (IV.bool false)])
        (K
          [AV.imm (IV.str (List.take (Int.toNat i - (0 : Nat)) (List.drop (0 : Nat) s))), AV.imm (IV.int IntKind.i64 i),
            AV.imm (IV.bool true)])) := by kernel_rfl
end A7

set_option maxRecDepth 100000
namespace A7
open Go Go.AE Go.Proofs
attribute [local irreducible] loopK evCode evSpec loopB norm

theorem letters_le (s : List UInt8) : letters s ≤ s.length := by unfold letters; exact (List.takeWhile_sublist _).length_le
theorem place_le (s : List UInt8) (b : UInt8) : place s b ≤ s.length := by unfold place; exact (List.takeWhile_sublist _).length_le
theorem pfx60 (s : List UInt8) : (∃ r, s = 60 :: r ∧ pfx s [60] = true) ∨ (pfx s [60] = false ∧ parse s = parseP s) := by
  cases s with
  | nil => exact .inr ⟨rfl, rfl⟩
  | cons b r =>
    by_cases h : b = 60
    · subst h; exact .inl ⟨r, rfl, by simp [pfx]⟩
    · right
      refine ⟨by
        rw [pfx_eq]
        simp [h], by simp [parse, h]⟩

def p8 : Plan := ⟨[], [true, false, true, true, true, true, true], []⟩
theorem f8_ev (s : List UInt8) (hs : s.length ≤ 9223372036854775800) (K : List AV → Prop) (hK : K [st (parse s).1, i64 (parse s).2.1, bo (parse s).2.2]) : evSpec C4 Try.f30 [.imm (.str s)] K := by
  rw [f8_in]
  unfold st i64 bo at hK
  refine brn_intro (fun h => ?_) (fun h => ?_)
  · rcases pfx60 s with ⟨r, rfl, hp⟩ | ⟨hp, _⟩
    case inr => rw [hp] at h; cases h
    have e : (if pfx (60 :: r) [60] = true then List.drop (List.length [(60 : UInt8)]) (60 :: r) else (60 :: r)) = r := by rw [if_pos hp]; rfl
    simp only [e]
    have hpar : parse (60 :: r) = parseQ r := by simp [parse]
    rw [hpar] at hK
    simp only [List.length_cons] at hs
    refine ⟨by decide, by decide, ?_⟩
    have hidx : idx r 62 = if place r 62 < r.length then (place r 62 : Int) else -1 := rfl
    rw [hidx]
    unfold parseQ at hK
    by_cases hl : place r 62 < r.length
    · rw [if_pos hl] at hK ⊢
      simp only [Int.toNat_natCast, Nat.sub_zero, List.drop_zero]
      refine brn_intro (fun h => ?_) (fun _ => ?_)
      · simp at h; omega
      refine ⟨by omega, by omega, by simp; omega, ?_⟩
      refine brn_intro (fun h => ?_) (fun h => ?_)
      · rw [Bool.not_eq_true'] at h
        rw [h] at hK
        exact hK
      · rw [Bool.not_eq_false'] at h
        rw [h, if_pos rfl] at hK
        rw [wrap64 (by omega) (by omega)]
        exact hK
    · rw [if_neg hl] at hK ⊢
      exact hK
  · rcases pfx60 s with ⟨r, rfl, hp⟩ | ⟨hp, hpar⟩
    · rw [hp] at h; cases h
    rw [hpar] at hK
    unfold parseP at hK
    unfold LoopI
    refine loop_rule (fun n : Nat => h8 s n) (fun n => n ≤ s.length ∧ letters s = n + letters (s.drop n)) (fun n => s.length - n) (fun n hP K' hnorm hexit => ?_) rfl 0 p8 _ ⟨Nat.zero_le _, by simp⟩ (by kernel_rfl)
    obtain ⟨hle, hl⟩ := hP
    rw [f8_lp]
    refine ⟨fun _ => by omega, fun h => by simpa using h, brn_intro (fun h => ?_) (fun h => ?_)⟩
    · simp only [Bool.and_eq_true, decide_eq_true_eq, Int.toNat_natCast] at h
      have hlt : n < s.length := by omega
      have e : IntKind.wrap .i64 ((n : Int) + 1) = ((n + 1 : Nat) : Int) := by rw [wrap64 (by omega) (by omega)]; rfl
      refine hnorm (n + 1) p8 _ ⟨hlt, ?_⟩ (by omega) (by rw [← e]; kernel_rfl)
      rw [hl, getD_drop hlt]
      have : alphaB (s.getD n 0) = true := h.2
      simp only [letters, List.takeWhile_cons, this, if_true, List.length_cons]
      omega
    · refine hexit _ _ (by simp) ?_
      have hz : letters (s.drop n) = 0 := by
        by_cases hlt : n < s.length
        · have h2 : alphaB (s.getD n 0) = false := by
            simp only [Bool.and_eq_false_iff, decide_eq_false_iff_not, Int.toNat_natCast] at h
            rcases h with h | h
            · omega
            · exact h
          rw [getD_drop hlt]
          rw [letters, List.takeWhile_cons, h2]; rfl
        · rw [List.drop_eq_nil_of_le (by omega)]; rfl
      have hn : letters s = n := by omega
      rw [hn] at hK
      rw [f8_out]
      refine ⟨by omega, by omega, by simp; omega, ?_⟩
      simp only [Int.toNat_natCast, Nat.sub_zero, List.drop_zero]
      refine brn_intro (fun h => ?_) (fun h => ?_)
      · rw [Bool.not_eq_true'] at h
        rw [h] at hK
        exact hK
      · rw [Bool.not_eq_false'] at h
        rw [h, if_pos rfl] at hK
        exact hK
end A7

set_option maxRecDepth 100000
namespace A7
open Go Go.AE Go.Proofs
attribute [local irreducible] loopK evCode evSpec loopB norm
theorem ok8 : ∀ args pres res, sParse args = some (pres, res) → SpecOK Try.prog G0 30 args pres res := by
  intro args pres res h
  unfold sParse at h
  split at h
  case h_2 => cases h
  cases h
  exact mk okE4 at8 (by decide) rfl (fun hp K hK => f8_ev _ (hp _ (by simp)) K hK)
theorem okE5 : EOK Try.prog E5 G0 := addE_ok (addE_ok okE4 ok8) ok15
end A7

namespace A8
open Go Go.AE Go.Proofs

/-! ### what the functions of chapter 08 compute -/
def isD (b : UInt8) : Bool := decide (48 ≤ b.toNat) && decide (b.toNat ≤ 57)
def dv (b : UInt8) : Nat := b.toNat - 48
def digit (s : List UInt8) (i : Nat) : Nat × Bool := match s[i]? with
  | some b => if isD b then (dv b, true) else (0, false)
  | none => (0, false)
def num (ds : List UInt8) : Nat := ds.foldl (fun v b => v * 10 + dv b) 0
def runD (l : List UInt8) : List UInt8 := l.takeWhile isD
def hoursP (s : List UInt8) (at' : Nat) : Int × Int × Bool :=
  if (runD (s.drop at')).length ≤ 3 then ((num (runD (s.drop at')) : Int), ((at' + (runD (s.drop at')).length : Nat) : Int), decide (0 < (runD (s.drop at')).length) && decide (num (runD (s.drop at')) ≤ 167)) else (0, 0, false)
def field (l : List UInt8) : Option Nat := match l with
  | c :: a :: b :: _ => if c = 58 ∧ isD a = true ∧ isD b = true ∧ dv a * 10 + dv b < 60 then some (dv a * 10 + dv b) else none
  | _ => none
def fieldsP (s : List UInt8) (at' : Nat) : Int × Int := match field (s.drop at') with
  | none => (0, (at' : Int))
  | some m => match field (s.drop (at' + 3)) with
    | none => (60 * (m : Int), ((at' + 3 : Nat) : Int))
    | some c => (60 * (m : Int) + c, ((at' + 6 : Nat) : Int))
def fieldR (s : List UInt8) (i : Nat) : Int := match field (s.drop i) with
  | none => -1
  | some m => m
def sgn : List UInt8 → Int
  | b :: _ => if b = 45 then -1 else 1
  | [] => 1
def off : List UInt8 → Nat
  | b :: _ => if b = 45 ∨ b = 43 then 1 else 0
  | [] => 0
def parse (s : List UInt8) : Int × Int × Bool :=
  if (hoursP s (off s)).2.2 then (sgn s * ((hoursP s (off s)).1 * 3600 + (fieldsP s (hoursP s (off s)).2.1.toNat).1), (fieldsP s (hoursP s (off s)).2.1.toNat).2, true) else (0, 0, false)
def inRange (n : Int) : Bool := decide (n ≥ -604799) && decide (n ≤ 604799)
def dg (n : Nat) : UInt8 := UInt8.ofNat (48 + n)
def dd (n : Nat) : List UInt8 := if n < 10 then [dg n] else if n < 100 then [dg (n / 10), dg (n % 10)] else [dg (n / 100), dg (n / 10 % 10), dg (n % 10)]
def two (n : Nat) : List UInt8 := [58, dg (n / 10), dg (n % 10)]
def fmtN (n : Nat) : List UInt8 := dd (n / 3600) ++ (if n % 3600 = 0 then [] else two (n % 3600 / 60)) ++ (if n % 60 = 0 then [] else two (n % 60))
def fmt (n : Int) : List UInt8 := if n < 0 then 45 :: fmtN n.natAbs else fmtN n.natAbs
def pfx (s t : List UInt8) : Bool := t.isPrefixOf s

def bo (b : Bool) : AV := .imm (.bool b)
def i64 (n : Int) : AV := .imm (.int .i64 n)
def st (s : List UInt8) : AV := .imm (.str s)
def big : Int := 9223372036854775000
def sInRange : List AV → Option (List Prop × List AV)
  | [.imm (.int .i64 n)] => some ([], [bo (inRange n)])
  | _ => none
def sDigit : List AV → Option (List Prop × List AV)
  | [.imm (.str s), .imm (.int .i64 i)] => some ([0 ≤ i], [i64 (digit s i.toNat).1, bo (digit s i.toNat).2])
  | _ => none
def sPfx : List AV → Option (List Prop × List AV)
  | [.imm (.str s), .imm (.str t)] => some ([], [bo (pfx s t)])
  | _ => none
def sPair : List AV → Option (List Prop × List AV)
  | [.imm (.int .i64 n)] => some ([0 ≤ n, n < 100], [st [dg (n.toNat / 10), dg (n.toNat % 10)]])
  | _ => none
def sHours : List AV → Option (List Prop × List AV)
  | [.imm (.str s), .imm (.int .i64 i)] => some ([0 ≤ i, i ≤ 1, (s.length : Int) ≤ big], [i64 (hoursP s i.toNat).1, i64 (hoursP s i.toNat).2.1, bo (hoursP s i.toNat).2.2])
  | _ => none
def sFields : List AV → Option (List Prop × List AV)
  | [.imm (.str s), .imm (.int .i64 i), .imm (.ints .i64 [60, 1])] => some ([0 ≤ i, i ≤ (s.length : Int), (s.length : Int) ≤ big], [i64 (fieldsP s i.toNat).1, i64 (fieldsP s i.toNat).2])
  | _ => none
def sField : List AV → Option (List Prop × List AV)
  | [.imm (.str s), .imm (.int .i64 i)] => some ([0 ≤ i, i ≤ (s.length : Int), (s.length : Int) ≤ big], [i64 (fieldR s i.toNat)])
  | _ => none
def sParse : List AV → Option (List Prop × List AV)
  | [.imm (.str s)] => some ([(s.length : Int) ≤ big], [i64 (parse s).1, i64 (parse s).2.1, bo (parse s).2.2])
  | _ => none
def sFmt0 : List AV → Option (List Prop × List AV)
  | [.imm (.int .i64 n)] => some ([0 ≤ n, n ≤ 604799], [st (fmt n)])
  | _ => none
def sFmt : List AV → Option (List Prop × List AV)
  | [.imm (.int .i64 n)] => some ([-604799 ≤ n, n ≤ 604799], [st (fmt n)])
  | _ => none
def gTab : Nat := 0
def tab10 : List AV := [1, 10, 100, 1000, 10000, 100000, 1000000, 10000000, 100000000, 1000000000, 10000000000, 100000000000, 1000000000000, 10000000000000, 100000000000000, 1000000000000000, 10000000000000000, 100000000000000000, 1000000000000000000, 10000000000000000000].map fun n => .imm (.int .u64 n)
def G8 : Nat → Option (List AV) := fun _ => none
noncomputable def cx (E : FuncId → List AV → Option (List Prop × List AV)) : Cx := ⟨Try.prog, E, noCall, G8, 0⟩
noncomputable def cxu (E : FuncId → List AV → Option (List Prop × List AV)) : Cx := ⟨Try.prog, E, noCall, G8, 3⟩
def E1 := addE (addE (addE noE 43 sDigit) 42 sPfx) 25 sPair
def E2 := addE E1 36 sPfx
def E3 := addE (addE E2 37 sHours) 38 sFields
def E4 := addE (addE E3 29 sParse) 12 sFmt
noncomputable def C0 : Cx := cx noE
noncomputable def C1 : Cx := cx E1
noncomputable def C2 : Cx := cx E2
noncomputable def D2 : Cx := cxu E2
noncomputable def C3 : Cx := cx E3
noncomputable def C4 : Cx := cx E4
def h17 (s : List UInt8) (i h n d : Int) (ok : Bool) : St := ⟨lapp [st s, i64 i, .dead, .dead, i64 0, i64 0, bo false, i64 h, i64 n, i64 d, bo ok] (lrepl 33 .dead), [], 0, []⟩
def S14 (n : Int) (s : List UInt8) (h : AV) (t : Nat → AV) : St := ⟨lapp [i64 n, .dead, st [], st s, h] (lmap t (ldrop 5 (upto 54 []))), [], 0, []⟩
noncomputable def c14 : List Dir → Code := fun p => codeAt p (bodyOf Try.f12)
noncomputable def a14 : Code := .seq (c14 [.r, .r, .r, .l]) (.seq (c14 [.r, .r, .r, .r, .l]) (.seq (c14 [.r, .r, .r, .r, .r, .l]) (c14 [.r, .r, .r, .r, .r, .r, .l])))
/-! ### HmsFields, in pieces -/
def u8v (n : Int) : AV := .imm (.int .u8 n)
def S6 (a b c : Int) (r f h : AV) (t : Nat → AV) : St := ⟨lapp [u8v a, u8v b, u8v c, .dead, .dead, .dead, r, f, h] (lmap t (ldrop 9 (upto 126 []))), [], 0, []⟩
end A8

set_option maxRecDepth 100000
namespace A8
open Go Go.AE Go.Proofs
attribute [local irreducible] loopK evCode evSpec loopB norm
theorem f25_in (s : List
  UInt8) (n : Int) (K : List AV → Prop) : evSpec C0 Try.f43 [AV.imm (IV.str s), AV.imm (IV.int IntKind.i64 n)] K =
  ((decide (n ≥ (↑(List.length s) : Int)) = false → (0 : Int) ≤ n) ∧
  (decide (n ≥ (↑(List.length s) : Int)) = false → n < (↑(List.length s) : Int)) ∧
    ((decide (n ≥ (↑(List.length s) : Int)) ||
            decide ((↑(UInt8.toNat (List.getD s (Int.toNat n) (0 : UInt8))) : Int) < (48 : Int))) =
          false →
        (0 : Int) ≤ n) ∧
      ((decide (n ≥ (↑(List.length s) : Int)) ||
              decide ((↑(UInt8.toNat (List.getD s (Int.toNat n) (0 : UInt8))) : Int) < (48 : Int))) =
            false →
          n < (↑(List.length s) : Int)) ∧
        brn
          (decide (n ≥ (↑(List.length s) : Int)) ||
              decide ((↑(UInt8.toNat (List.getD s (Int.toNat n) (0 : UInt8))) : Int) < (48 : Int)) ||
            decide ((↑(UInt8.toNat (List.getD s (Int.toNat n) (0 : UInt8))) : Int) > (57 : Int)))
          (K [AV.imm (IV.int IntKind.i64 (0 : Int)), AV.imm (IV.bool false)])
          ((0 : Int) ≤ n ∧
            n < (↑(List.length s) : Int) ∧
              K
                [AV.imm
                    (IV.int IntKind.i64
                      (IntKind.wrap IntKind.i64
                        (IntKind.wrap IntKind.u8
                          ((↑(UInt8.toNat (List.getD s (Int.toNat n) (0 : UInt8))) : Int) - (48 : Int))))),
                  AV.imm (IV.bool true)])) := by kernel_rfl
theorem f24_in (s : List
  UInt8) (t : List UInt8) (K : List AV → Prop) : evSpec C0 Try.f42 [AV.imm (IV.str s), AV.imm (IV.str t)] K =
  ((decide ((↑(List.length s) : Int) ≥ (↑(List.length t) : Int)) = true → (0 : Int) ≤ (↑(List.length t) : Int)) ∧
  (decide ((↑(List.length s) : Int) ≥ (↑(List.length t) : Int)) = true →
      (↑(List.length t) : Int) ≤ (↑(List.length s) : Int)) ∧
    K
      [AV.imm
          (IV.bool
            (decide ((↑(List.length s) : Int) ≥ (↑(List.length t) : Int)) &&
              decide
                (List.take (Int.toNat (↑(List.length t) : Int) - (0 : Nat)) (List.drop (0 : Nat) s) =
                  t)))]) := by kernel_rfl
theorem f23_in (n : Int) (K : List AV → Prop) : evSpec C0 Try.f25 [AV.imm (IV.int IntKind.i64 n)] K =
  ((10 : Int) ≠ (0 : Int) ∧
  (10 : Int) ≠ (0 : Int) ∧
    K
      [AV.imm
          (IV.str
            (List.map u8
              [IntKind.wrap IntKind.u8
                  (IntKind.wrap IntKind.i64 ((48 : Int) + IntKind.wrap IntKind.i64 (Int.tdiv n (10 : Int)))),
                IntKind.wrap IntKind.u8
                  (IntKind.wrap IntKind.i64 ((48 : Int) + Int.tmod n (10 : Int)))]))]) := by kernel_rfl
theorem f16_in (s : List
  UInt8) (t : List UInt8) (K : List AV → Prop) : evSpec C1 Try.f36 [AV.imm (IV.str s), AV.imm (IV.str t)] K =
  (K [AV.imm (IV.bool (pfx s t))]) := by kernel_rfl
theorem f17_in (s : List
  UInt8) (n : Int) (K : List AV → Prop) : evSpec C2 Try.f37 [AV.imm (IV.str s), AV.imm (IV.int IntKind.i64 n)] K =
  ((0 : Int) ≤ n ∧
  LoopI C2 (bodyOf Try.f37) (0 : Nat)
    (St.mk
      [AV.imm (IV.str s), AV.imm (IV.int IntKind.i64 n), AV.dead, AV.dead, AV.imm (IV.int IntKind.i64 (0 : Int)),
        AV.imm (IV.int IntKind.i64 (0 : Int)), AV.imm (IV.bool false), AV.imm (IV.int IntKind.i64 (0 : Int)),
        AV.imm (IV.int IntKind.i64 n), AV.imm (IV.int IntKind.i64 (↑(Prod.fst (digit s (Int.toNat n))) : Int)),
        AV.imm (IV.bool (Prod.snd (digit s (Int.toNat n)))), AV.imm (IV.int IntKind.i64 n),
        AV.tup
          [AV.imm (IV.int IntKind.i64 (↑(Prod.fst (digit s (Int.toNat n))) : Int)),
            AV.imm (IV.bool (Prod.snd (digit s (Int.toNat n))))],
        AV.imm (IV.str s), AV.imm (IV.int IntKind.i64 n),
        AV.tup
          [AV.imm (IV.int IntKind.i64 (↑(Prod.fst (digit s (Int.toNat n))) : Int)),
            AV.imm (IV.bool (Prod.snd (digit s (Int.toNat n))))],
        AV.imm (IV.int IntKind.i64 (↑(Prod.fst (digit s (Int.toNat n))) : Int)),
        AV.imm (IV.bool (Prod.snd (digit s (Int.toNat n)))), AV.dead, AV.dead, AV.dead, AV.dead, AV.dead, AV.dead,
        AV.dead, AV.dead, AV.dead, AV.dead, AV.dead, AV.dead, AV.dead, AV.dead, AV.dead, AV.dead, AV.dead, AV.dead,
        AV.dead, AV.dead, AV.dead, AV.dead, AV.dead, AV.dead, AV.dead, AV.dead]
      [] (0 : Nat) [])
    (finK C2 Try.f37 K)) := by kernel_rfl
theorem f18_in (s : List
  UInt8) (n : Int) (K : List AV →
  Prop) : evSpec D2 Try.f38
  [AV.imm (IV.str s), AV.imm (IV.int IntKind.i64 n), AV.imm (IV.ints IntKind.i64 [(60 : Int), (1 : Int)])] K =
  ((0 : Int) ≤ (0 : Int) ∧
  (0 : Int) < (↑(List.length [(60 : Int), (1 : Int)]) : Int) ∧
    (0 : Int) ≤ IntKind.wrap IntKind.i64 (n + (1 : Int)) ∧
      (0 : Int) ≤ IntKind.wrap IntKind.i64 (n + (2 : Int)) ∧
        ((0 : Int) ≤ if (↑(List.length s) : Int) < n then (↑(List.length s) : Int) else n) ∧
          (if (↑(List.length s) : Int) < n then (↑(List.length s) : Int) else n) ≤ (↑(List.length s) : Int) ∧
            brn
              (!pfx
                        (List.take
                          (List.length s -
                            Int.toNat (if (↑(List.length s) : Int) < n then (↑(List.length s) : Int) else n))
                          (List.drop (Int.toNat (if (↑(List.length s) : Int) < n then (↑(List.length s) : Int) else n))
                            s))
                        [(58 : UInt8)] ||
                    !Prod.snd (digit s (Int.toNat (IntKind.wrap IntKind.i64 (n + (1 : Int))))) ||
                  !Prod.snd (digit s (Int.toNat (IntKind.wrap IntKind.i64 (n + (2 : Int))))) ||
                decide
                  (IntKind.wrap IntKind.i64
                      (IntKind.wrap IntKind.i64
                          ((↑(Prod.fst (digit s (Int.toNat (IntKind.wrap IntKind.i64 (n + (1 : Int)))))) : Int) *
                            (10 : Int)) +
                        (↑(Prod.fst (digit s (Int.toNat (IntKind.wrap IntKind.i64 (n + (2 : Int)))))) : Int)) ≥
                    (60 : Int)))
              (K [AV.imm (IV.int IntKind.i64 (0 : Int)), AV.imm (IV.int IntKind.i64 n)])
              ((0 : Int) ≤ IntKind.wrap IntKind.i64 ((0 : Int) + (1 : Int)) ∧
                IntKind.wrap IntKind.i64 ((0 : Int) + (1 : Int)) < (↑(List.length [(60 : Int), (1 : Int)]) : Int) ∧
                  (0 : Int) ≤ IntKind.wrap IntKind.i64 (IntKind.wrap IntKind.i64 (n + (3 : Int)) + (1 : Int)) ∧
                    (0 : Int) ≤ IntKind.wrap IntKind.i64 (IntKind.wrap IntKind.i64 (n + (3 : Int)) + (2 : Int)) ∧
                      ((0 : Int) ≤
                          if (↑(List.length s) : Int) < IntKind.wrap IntKind.i64 (n + (3 : Int)) then
                            (↑(List.length s) : Int)
                          else IntKind.wrap IntKind.i64 (n + (3 : Int))) ∧
                        (if (↑(List.length s) : Int) < IntKind.wrap IntKind.i64 (n + (3 : Int)) then
                              (↑(List.length s) : Int)
                            else IntKind.wrap IntKind.i64 (n + (3 : Int))) ≤
                            (↑(List.length s) : Int) ∧
                          brn
                            (!pfx
                                      (List.take
                                        (List.length s -
                                          Int.toNat
                                            (if (↑(List.length s) : Int) < IntKind.wrap IntKind.i64 (n + (3 : Int)) then
                                              (↑(List.length s) : Int)
                                            else IntKind.wrap IntKind.i64 (n + (3 : Int))))
                                        (List.drop
                                          (Int.toNat
                                            (if (↑(List.length s) : Int) < IntKind.wrap IntKind.i64 (n + (3 : Int)) then
                                              (↑(List.length s) : Int)
                                            else IntKind.wrap IntKind.i64 (n + (3 : Int))))
                                          s))
                                      [(58 : UInt8)] ||
                                  !Prod.snd
                                      (digit s
                                        (Int.toNat
                                          (IntKind.wrap IntKind.i64
                                            (IntKind.wrap IntKind.i64 (n + (3 : Int)) + (1 : Int))))) ||
                                !Prod.snd
                                    (digit s
                                      (Int.toNat
                                        (IntKind.wrap IntKind.i64
                                          (IntKind.wrap IntKind.i64 (n + (3 : Int)) + (2 : Int))))) ||
                              decide
                                (IntKind.wrap IntKind.i64
                                    (IntKind.wrap IntKind.i64
                                        ((↑(Prod.fst
                                                (digit s
                                                  (Int.toNat
                                                    (IntKind.wrap IntKind.i64
                                                      (IntKind.wrap IntKind.i64 (n + (3 : Int)) + (1 : Int)))))) :
                                            Int) *
                                          (10 : Int)) +
                                      (↑(Prod.fst
                                            (digit s
                                              (Int.toNat
                                                (IntKind.wrap IntKind.i64
                                                  (IntKind.wrap IntKind.i64 (n + (3 : Int)) + (2 : Int)))))) :
                                        Int)) ≥
                                  (60 : Int)))
                            (K
                              [AV.imm
                                  (IV.int IntKind.i64
                                    (IntKind.wrap IntKind.i64
                                      ((0 : Int) +
                                        IntKind.wrap IntKind.i64
                                          (List.getD [(60 : Int), (1 : Int)] (Int.toNat (0 : Int)) (0 : Int) *
                                            IntKind.wrap IntKind.i64
                                              (IntKind.wrap IntKind.i64
                                                  ((↑(Prod.fst
                                                          (digit s
                                                            (Int.toNat (IntKind.wrap IntKind.i64 (n + (1 : Int)))))) :
                                                      Int) *
                                                    (10 : Int)) +
                                                (↑(Prod.fst
                                                      (digit s
                                                        (Int.toNat (IntKind.wrap IntKind.i64 (n + (2 : Int)))))) :
                                                  Int)))))),
                                AV.imm (IV.int IntKind.i64 (IntKind.wrap IntKind.i64 (n + (3 : Int))))])
                            (K
                              [AV.imm
                                  (IV.int IntKind.i64
                                    (IntKind.wrap IntKind.i64
                                      (IntKind.wrap IntKind.i64
                                          ((0 : Int) +
                                            IntKind.wrap IntKind.i64
                                              (List.getD [(60 : Int), (1 : Int)] (Int.toNat (0 : Int)) (0 : Int) *
                                                IntKind.wrap IntKind.i64
                                                  (IntKind.wrap IntKind.i64
                                                      ((↑(Prod.fst
                                                              (digit s
                                                                (Int.toNat
                                                                  (IntKind.wrap IntKind.i64 (n + (1 : Int)))))) :
                                                          Int) *
                                                        (10 : Int)) +
                                                    (↑(Prod.fst
                                                          (digit s
                                                            (Int.toNat (IntKind.wrap IntKind.i64 (n + (2 : Int)))))) :
                                                      Int)))) +
                                        IntKind.wrap IntKind.i64
                                          (List.getD [(60 : Int), (1 : Int)]
                                              (Int.toNat (IntKind.wrap IntKind.i64 ((0 : Int) + (1 : Int)))) (0 : Int) *
                                            IntKind.wrap IntKind.i64
                                              (IntKind.wrap IntKind.i64
                                                  ((↑(Prod.fst
                                                          (digit s
                                                            (Int.toNat
                                                              (IntKind.wrap IntKind.i64
                                                                (IntKind.wrap IntKind.i64 (n + (3 : Int)) +
                                                                  (1 : Int)))))) :
                                                      Int) *
                                                    (10 : Int)) +
                                                (↑(Prod.fst
                                                      (digit s
                                                        (Int.toNat
                                                          (IntKind.wrap IntKind.i64
                                                            (IntKind.wrap IntKind.i64 (n + (3 : Int)) + (2 : Int)))))) :
                                                  Int)))))),
                                AV.imm
                                  (IV.int IntKind.i64
                                    (IntKind.wrap IntKind.i64
                                      (IntKind.wrap IntKind.i64 (n + (3 : Int)) + (3 : Int))))]))) := by kernel_rfl
theorem f9_in (s : List UInt8) (K : List AV → Prop) : evSpec C3 Try.f29 [AV.imm (IV.str s)] K =
  (brn (pfx s [(45 : UInt8)] || pfx s [(43 : UInt8)])
  ((0 : Int) ≤ (0 : Int) ∧
    (0 : Int) < (↑(List.length s) : Int) ∧
      brn ((↑(UInt8.toNat (List.getD s (Int.toNat (0 : Int)) (0 : UInt8))) : Int) == (45 : Int))
        ((0 : Int) ≤ (1 : Int) ∧
          (1 : Int) ≤ (1 : Int) ∧
            (↑(List.length s) : Int) ≤ big ∧
              brn (!Prod.snd (Prod.snd (hoursP s (Int.toNat (1 : Int)))))
                (K
                  [AV.imm (IV.int IntKind.i64 (0 : Int)), AV.imm (IV.int IntKind.i64 (0 : Int)),
                    AV.imm (IV.bool false)])
                ((0 : Int) ≤ Prod.fst (Prod.snd (hoursP s (Int.toNat (1 : Int)))) ∧
                  Prod.fst (Prod.snd (hoursP s (Int.toNat (1 : Int)))) ≤ (↑(List.length s) : Int) ∧
                    (↑(List.length s) : Int) ≤ big ∧
                      K
                        [AV.imm
                            (IV.int IntKind.i64
                              (IntKind.wrap IntKind.i64
                                ((-1 : Int) *
                                  IntKind.wrap IntKind.i64
                                    (IntKind.wrap IntKind.i64
                                        (Prod.fst (hoursP s (Int.toNat (1 : Int))) * (3600 : Int)) +
                                      Prod.fst
                                        (fieldsP s
                                          (Int.toNat (Prod.fst (Prod.snd (hoursP s (Int.toNat (1 : Int))))))))))),
                          AV.imm
                            (IV.int IntKind.i64
                              (Prod.snd
                                (fieldsP s (Int.toNat (Prod.fst (Prod.snd (hoursP s (Int.toNat (1 : Int))))))))),
                          AV.imm (IV.bool true)]))
        ((0 : Int) ≤ (1 : Int) ∧
          (1 : Int) ≤ (1 : Int) ∧
            (↑(List.length s) : Int) ≤ big ∧
              brn (!Prod.snd (Prod.snd (hoursP s (Int.toNat (1 : Int)))))
                (K
                  [AV.imm (IV.int IntKind.i64 (0 : Int)), AV.imm (IV.int IntKind.i64 (0 : Int)),
                    AV.imm (IV.bool false)])
                ((0 : Int) ≤ Prod.fst (Prod.snd (hoursP s (Int.toNat (1 : Int)))) ∧
                  Prod.fst (Prod.snd (hoursP s (Int.toNat (1 : Int)))) ≤ (↑(List.length s) : Int) ∧
                    (↑(List.length s) : Int) ≤ big ∧
                      K
                        [AV.imm
                            (IV.int IntKind.i64
                              (IntKind.wrap IntKind.i64
                                ((1 : Int) *
                                  IntKind.wrap IntKind.i64
                                    (IntKind.wrap IntKind.i64
                                        (Prod.fst (hoursP s (Int.toNat (1 : Int))) * (3600 : Int)) +
                                      Prod.fst
                                        (fieldsP s
                                          (Int.toNat (Prod.fst (Prod.snd (hoursP s (Int.toNat (1 : Int))))))))))),
                          AV.imm
                            (IV.int IntKind.i64
                              (Prod.snd
                                (fieldsP s (Int.toNat (Prod.fst (Prod.snd (hoursP s (Int.toNat (1 : Int))))))))),
                          AV.imm (IV.bool true)])))
  ((0 : Int) ≤ (0 : Int) ∧
    (0 : Int) ≤ (1 : Int) ∧
      (↑(List.length s) : Int) ≤ big ∧
        brn (!Prod.snd (Prod.snd (hoursP s (Int.toNat (0 : Int)))))
          (K [AV.imm (IV.int IntKind.i64 (0 : Int)), AV.imm (IV.int IntKind.i64 (0 : Int)), AV.imm (IV.bool false)])
          ((0 : Int) ≤ Prod.fst (Prod.snd (hoursP s (Int.toNat (0 : Int)))) ∧
            Prod.fst (Prod.snd (hoursP s (Int.toNat (0 : Int)))) ≤ (↑(List.length s) : Int) ∧
              (↑(List.length s) : Int) ≤ big ∧
                K
                  [AV.imm
                      (IV.int IntKind.i64
                        (IntKind.wrap IntKind.i64
                          ((1 : Int) *
                            IntKind.wrap IntKind.i64
                              (IntKind.wrap IntKind.i64 (Prod.fst (hoursP s (Int.toNat (0 : Int))) * (3600 : Int)) +
                                Prod.fst
                                  (fieldsP s (Int.toNat (Prod.fst (Prod.snd (hoursP s (Int.toNat (0 : Int))))))))))),
                    AV.imm
                      (IV.int IntKind.i64
                        (Prod.snd (fieldsP s (Int.toNat (Prod.fst (Prod.snd (hoursP s (Int.toNat (0 : Int))))))))),
                    AV.imm (IV.bool true)]))) := by kernel_rfl
end A8

set_option maxRecDepth 100000
namespace A8
open Go Go.AE Go.Proofs
attribute [local irreducible] loopK evCode evSpec loopB norm
theorem f17_lp (s : List
  UInt8) (i : Int) (h : Int) (n : Int) (d : Int) (ok : Bool) (k : AX →
  St → Prop) : evCode C2 (loopB (bodyOf Try.f37) (0 : Nat)) (h17 s i h n d ok) k =
  (brn ok
  (brn (decide (IntKind.wrap IntKind.i64 (IntKind.wrap IntKind.i64 (n + (1 : Int)) - i) > (3 : Int)))
    (k AX.ret
      (St.mk
        [AV.imm (IV.str s), AV.imm (IV.int IntKind.i64 i), AV.dead, AV.dead, AV.imm (IV.int IntKind.i64 (0 : Int)),
          AV.imm (IV.int IntKind.i64 (0 : Int)), AV.imm (IV.bool false), AV.imm (IV.int IntKind.i64 h),
          AV.imm (IV.int IntKind.i64 (IntKind.wrap IntKind.i64 (n + (1 : Int)))), AV.imm (IV.int IntKind.i64 d),
          AV.imm (IV.bool ok), AV.dead, AV.dead, AV.dead, AV.dead, AV.dead, AV.dead, AV.dead, AV.imm (IV.bool ok),
          AV.dead, AV.dead, AV.dead, AV.dead, AV.dead, AV.dead, AV.imm (IV.int IntKind.i64 n),
          AV.imm (IV.int IntKind.i64 (IntKind.wrap IntKind.i64 (n + (1 : Int)))),
          AV.imm (IV.int IntKind.i64 (IntKind.wrap IntKind.i64 (n + (1 : Int)))), AV.imm (IV.int IntKind.i64 i),
          AV.imm (IV.int IntKind.i64 (IntKind.wrap IntKind.i64 (IntKind.wrap IntKind.i64 (n + (1 : Int)) - i))),
          AV.imm
            (IV.bool (decide (IntKind.wrap IntKind.i64 (IntKind.wrap IntKind.i64 (n + (1 : Int)) - i) > (3 : Int)))),
          AV.dead, AV.dead, AV.dead, AV.dead, AV.dead, AV.dead, AV.dead, AV.dead, AV.dead, AV.dead, AV.dead, AV.dead,
          AV.dead]
        [] (0 : Nat) []))
    ((0 : Int) ≤ IntKind.wrap IntKind.i64 (n + (1 : Int)) ∧
      k AX.normal
        (St.mk
          [AV.imm (IV.str s), AV.imm (IV.int IntKind.i64 i), AV.dead, AV.dead, AV.imm (IV.int IntKind.i64 (0 : Int)),
            AV.imm (IV.int IntKind.i64 (0 : Int)), AV.imm (IV.bool false),
            AV.imm (IV.int IntKind.i64 (IntKind.wrap IntKind.i64 (IntKind.wrap IntKind.i64 (h * (10 : Int)) + d))),
            AV.imm (IV.int IntKind.i64 (IntKind.wrap IntKind.i64 (n + (1 : Int)))),
            AV.imm
              (IV.int IntKind.i64 (↑(Prod.fst (digit s (Int.toNat (IntKind.wrap IntKind.i64 (n + (1 : Int)))))) : Int)),
            AV.imm (IV.bool (Prod.snd (digit s (Int.toNat (IntKind.wrap IntKind.i64 (n + (1 : Int))))))), AV.dead,
            AV.dead, AV.dead, AV.dead, AV.dead, AV.dead, AV.dead, AV.imm (IV.bool ok),
            AV.tup
              [AV.imm
                  (IV.int IntKind.i64
                    (↑(Prod.fst (digit s (Int.toNat (IntKind.wrap IntKind.i64 (n + (1 : Int)))))) : Int)),
                AV.imm (IV.bool (Prod.snd (digit s (Int.toNat (IntKind.wrap IntKind.i64 (n + (1 : Int)))))))],
            AV.imm (IV.str s), AV.imm (IV.int IntKind.i64 (IntKind.wrap IntKind.i64 (n + (1 : Int)))),
            AV.tup
              [AV.imm
                  (IV.int IntKind.i64
                    (↑(Prod.fst (digit s (Int.toNat (IntKind.wrap IntKind.i64 (n + (1 : Int)))))) : Int)),
                AV.imm (IV.bool (Prod.snd (digit s (Int.toNat (IntKind.wrap IntKind.i64 (n + (1 : Int)))))))],
            AV.imm
              (IV.int IntKind.i64 (↑(Prod.fst (digit s (Int.toNat (IntKind.wrap IntKind.i64 (n + (1 : Int)))))) : Int)),
            AV.imm (IV.bool (Prod.snd (digit s (Int.toNat (IntKind.wrap IntKind.i64 (n + (1 : Int))))))),
            AV.imm (IV.int IntKind.i64 n), AV.imm (IV.int IntKind.i64 (IntKind.wrap IntKind.i64 (n + (1 : Int)))),
            AV.imm (IV.int IntKind.i64 (IntKind.wrap IntKind.i64 (n + (1 : Int)))), AV.imm (IV.int IntKind.i64 i),
            AV.imm (IV.int IntKind.i64 (IntKind.wrap IntKind.i64 (IntKind.wrap IntKind.i64 (n + (1 : Int)) - i))),
            AV.imm
              (IV.bool (decide (IntKind.wrap IntKind.i64 (IntKind.wrap IntKind.i64 (n + (1 : Int)) - i) > (3 : Int)))),
            AV.imm (IV.int IntKind.i64 h), AV.imm (IV.int IntKind.i64 (IntKind.wrap IntKind.i64 (h * (10 : Int)))),
            AV.imm (IV.int IntKind.i64 d),
            AV.imm (IV.int IntKind.i64 (IntKind.wrap IntKind.i64 (IntKind.wrap IntKind.i64 (h * (10 : Int)) + d))),
            AV.dead, AV.dead, AV.dead, AV.dead, AV.dead, AV.dead, AV.dead, AV.dead, AV.dead]
          [] (0 : Nat) [])))
  (k (AX.exit (0 : Nat))
    (St.mk
      [AV.imm (IV.str s), AV.imm (IV.int IntKind.i64 i), AV.dead, AV.dead, AV.imm (IV.int IntKind.i64 (0 : Int)),
        AV.imm (IV.int IntKind.i64 (0 : Int)), AV.imm (IV.bool false), AV.imm (IV.int IntKind.i64 h),
        AV.imm (IV.int IntKind.i64 n), AV.imm (IV.int IntKind.i64 d), AV.imm (IV.bool ok), AV.dead, AV.dead, AV.dead,
        AV.dead, AV.dead, AV.dead, AV.dead, AV.imm (IV.bool ok), AV.dead, AV.dead, AV.dead, AV.dead, AV.dead, AV.dead,
        AV.dead, AV.dead, AV.dead, AV.dead, AV.dead, AV.dead, AV.dead, AV.dead, AV.dead, AV.dead, AV.dead, AV.dead,
        AV.dead, AV.dead, AV.dead, AV.dead, AV.dead, AV.dead, AV.dead]
      [] (0 : Nat) []))) := by kernel_rfl
end A8

set_option maxRecDepth 100000
namespace A8
open Go Go.AE Go.Proofs
attribute [local irreducible] loopK evCode evSpec loopB norm

theorem at9 : Try.prog.funcs[29]? = some Try.f29 := by kernel_rfl
theorem at14 : Try.prog.funcs[12]? = some Try.f12 := by kernel_rfl
theorem at16 : Try.prog.funcs[36]? = some Try.f36 := by kernel_rfl
theorem at17 : Try.prog.funcs[37]? = some Try.f37 := by kernel_rfl
theorem at18 : Try.prog.funcs[38]? = some Try.f38 := by kernel_rfl
theorem at23 : Try.prog.funcs[25]? = some Try.f25 := by kernel_rfl
theorem at24 : Try.prog.funcs[42]? = some Try.f42 := by kernel_rfl
theorem at25 : Try.prog.funcs[43]? = some Try.f43 := by kernel_rfl

/-- A contract, from what the evaluator says. -/
theorem mk {E : FuncId → List AV → Option (List Prop × List AV)} (hE : EOK Try.prog E G8) {f : FuncId} {fn : Func} {args res : List AV} {pres : List Prop} (hf : Try.prog.funcs[f]? = some fn) (hn : (fn.name == "runtime.NumGoroutine") = false) (hb : fn.body.isNone = false)
    (h : (∀ p, p ∈ pres → p) → ∀ K : List AV → Prop, K res → evSpec (cx E) fn args K) : SpecOK Try.prog G8 f args pres res :=
  spec_ok (C := cx E) hE noCall_ok hf hn hb (fun hp => h hp _ rfl)
theorem mku {E : FuncId → List AV → Option (List Prop × List AV)} (hE : EOK Try.prog E G8) {f : FuncId} {fn : Func} {args res : List AV} {pres : List Prop} (hf : Try.prog.funcs[f]? = some fn) (hn : (fn.name == "runtime.NumGoroutine") = false) (hb : fn.body.isNone = false)
    (h : (∀ p, p ∈ pres → p) → ∀ K : List AV → Prop, K res → evSpec (cxu E) fn args K) : SpecOK Try.prog G8 f args pres res :=
  spec_ok (C := cxu E) hE noCall_ok hf hn hb (fun hp => h hp _ rfl)
theorem ok0 : EOK Try.prog noE G8 := noE_ok

theorem wrap64 {n : Int} (h1 : -9223372036854775808 ≤ n) (h2 : n ≤ 9223372036854775807) : IntKind.wrap .i64 n = n := by
  have := IntKind.wrap_i64 n
  rw [show IntKind.wrap .i64 n = IntKind.i64.wrap n from rfl, this]; omega
theorem wrap8 {n : Int} (h1 : 0 ≤ n) (h2 : n ≤ 255) : IntKind.wrap .u8 n = n := by
  have := IntKind.wrap_u8 n
  rw [show IntKind.wrap .u8 n = IntKind.u8.wrap n from rfl, this]; omega
theorem getD_drop {s : List UInt8} {n : Nat} (h : n < s.length) : s.drop n = s.getD n 0 :: s.drop (n + 1) := by
  rw [List.drop_eq_getElem_cons h]
  simp [List.getD_eq_getElem?_getD, List.getElem?_eq_getElem h]
theorem digit_eq (s : List UInt8) (i : Nat) : digit s i = if i < s.length then (if isD (s.getD i 0) = true then (dv (s.getD i 0), true) else (0, false)) else (0, false) := by
  unfold digit
  by_cases h : i < s.length
  · rw [List.getElem?_eq_getElem h, if_pos h]
    simp [List.getD_eq_getElem?_getD, List.getElem?_eq_getElem h]
  · rw [List.getElem?_eq_none (by omega), if_neg h]
theorem isD_iff (b : UInt8) : isD b = true ↔ 48 ≤ b.toNat ∧ b.toNat ≤ 57 := by
  unfold isD
  simp
theorem nat_of {n : Int} (h : 0 ≤ n) : ∃ i : Nat, n = (i : Int) := ⟨n.toNat, by omega⟩

theorem f25_ev (s : List UInt8) (i : Nat) (K : List AV → Prop) (hK : K [i64 (digit s i).1, bo (digit s i).2]) : evSpec C0 Try.f43 [.imm (.str s), .imm (.int .i64 i)] K := by
  rw [f25_in]
  simp only [Int.toNat_natCast]
  rw [digit_eq] at hK
  have hb := isD_iff (s.getD i 0)
  refine ⟨fun h => by omega, fun h => by simpa using h, fun h => by omega, fun h => by simp at h; omega, brn_intro (fun h => ?_) (fun h => ?_)⟩
  · have : ¬ (i < s.length ∧ isD (s.getD i 0) = true) := by
      rw [hb]
      simp only [Bool.or_eq_true, decide_eq_true_eq] at h
      omega
    by_cases h1 : i < s.length
    · rw [if_pos h1, if_neg (fun h2 => this ⟨h1, h2⟩)] at hK; exact hK
    · rw [if_neg h1] at hK; exact hK
  · simp only [Bool.or_eq_false_iff, decide_eq_false_iff_not] at h
    have h1 : i < s.length := by omega
    have h2 : isD (s.getD i 0) = true := hb.2 (by omega)
    rw [if_pos h1, if_pos h2] at hK
    have e : IntKind.wrap .i64 (IntKind.wrap .u8 (((s.getD i 0).toNat : Int) - 48)) = ((dv (s.getD i 0) : Nat) : Int) := by
      have := hb.1 h2
      rw [wrap8 (by omega) (by omega), wrap64 (by omega) (by omega)]
      unfold dv
      omega
    rw [e]
    exact ⟨by omega, by omega, hK⟩
theorem ok25 : ∀ args pres res, sDigit args = some (pres, res) → SpecOK Try.prog G8 43 args pres res := by
  intro args pres res h
  unfold sDigit at h
  split at h
  case h_2 => cases h
  cases h
  rename_i s n
  refine mk ok0 at25 (by decide) rfl (fun hp K hK => ?_)
  have h0 := hp _ (List.mem_singleton.2 rfl)
  obtain ⟨i, rfl⟩ := nat_of h0
  exact f25_ev s i K (by simpa only [Int.toNat_natCast] using hK)
theorem pfx_eq (s t : List UInt8) : pfx s t = (decide (t.length ≤ s.length) && decide (s.take t.length = t)) := by
  unfold pfx
  rw [Bool.eq_iff_iff]
  simp only [List.isPrefixOf_iff_prefix, Bool.and_eq_true, decide_eq_true_eq]
  constructor
  · intro h
    exact ⟨h.length_le, (List.prefix_iff_eq_take.1 h).symm⟩
  · rintro ⟨_, h⟩
    rw [← h]
    exact List.take_prefix _ _
theorem ok24 : ∀ args pres res, sPfx args = some (pres, res) → SpecOK Try.prog G8 42 args pres res := by
  intro args pres res h
  unfold sPfx at h
  split at h
  case h_2 => cases h
  cases h
  rename_i s t
  refine mk ok0 at24 (by decide) rfl (fun _ K hK => ?_)
  rw [show cx noE = C0 from rfl, f24_in]
  refine ⟨fun _ => by omega, fun h => by simpa using h, ?_⟩
  simp only [Int.toNat_natCast, Nat.sub_zero, List.drop_zero]
  rw [pfx_eq] at hK
  have e : decide ((s.length : Int) ≥ (t.length : Int)) = decide (t.length ≤ s.length) := by
    rw [Bool.eq_iff_iff]; simp only [decide_eq_true_eq]; omega
  rw [e]
  exact hK
theorem tdiv10 (n : Nat) : Int.tdiv (n : Int) 10 = ((n / 10 : Nat) : Int) := by simp [Int.tdiv]
theorem tmod10 (n : Nat) : Int.tmod (n : Int) 10 = ((n % 10 : Nat) : Int) := by simp [Int.tmod]
theorem tdivN (n m : Nat) : Int.tdiv (n : Int) (m : Int) = ((n / m : Nat) : Int) := by simp [Int.tdiv]
theorem tmodN (n m : Nat) : Int.tmod (n : Int) (m : Int) = ((n % m : Nat) : Int) := by simp [Int.tmod]
theorem u8_dg {n : Nat} (h : n < 10) : u8 (((48 + n : Nat) : Int)) = dg n := by
  unfold u8 dg
  rw [Int.toNat_natCast]
theorem ok23 : ∀ args pres res, sPair args = some (pres, res) → SpecOK Try.prog G8 25 args pres res := by
  intro args pres res h
  unfold sPair at h
  split at h
  case h_2 => cases h
  cases h
  rename_i n
  refine mk ok0 at23 (by decide) rfl (fun hp K hK => ?_)
  have h0 := hp _ (List.mem_cons_self ..)
  have h1 := hp _ (List.mem_cons_of_mem _ (List.mem_cons_self ..))
  obtain ⟨i, rfl⟩ := nat_of h0
  rw [show cx noE = C0 from rfl, f23_in]
  refine ⟨by decide, by decide, ?_⟩
  rw [tdiv10, tmod10]
  have hi : i < 100 := by omega
  have e1 : IntKind.wrap .u8 (IntKind.wrap .i64 (48 + IntKind.wrap .i64 ((i / 10 : Nat) : Int))) = ((48 + i / 10 : Nat) : Int) := by
    rw [wrap64 (n := ((i / 10 : Nat) : Int)) (by omega) (by omega), wrap64 (by omega) (by omega), wrap8 (by omega) (by omega)]
    omega
  have e2 : IntKind.wrap .u8 (IntKind.wrap .i64 (48 + ((i % 10 : Nat) : Int))) = ((48 + i % 10 : Nat) : Int) := by
    rw [wrap64 (by omega) (by omega), wrap8 (by omega) (by omega)]
    omega
  rw [e1, e2, List.map_cons, List.map_cons, List.map_nil, u8_dg (by omega), u8_dg (by omega)]
  simp only [Int.toNat_natCast] at hK
  exact hK
end A8

namespace Go.Proofs
open Go.Shelf
end Go.Proofs
namespace A8
open Go Go.AE Go.Proofs Go.Shelf
theorem okE1 : EOK Try.prog E1 G8 := addE_ok (addE_ok (addE_ok ok0 ok25) ok24) ok23
end A8

set_option maxRecDepth 100000
namespace A8
open Go Go.AE Go.Proofs
attribute [local irreducible] loopK evCode evSpec loopB norm

theorem digit_le (s : List UInt8) (i : Nat) : (digit s i).1 ≤ 9 := by
  rw [digit_eq]
  have hb := isD_iff (s.getD i 0)
  split
  · split
    · rename_i h
      have := hb.1 h
      show dv _ ≤ 9
      unfold dv
      omega
    · exact Nat.zero_le _
  · exact Nat.zero_le _
theorem digit_drop (s : List UInt8) (i j : Nat) : digit s (i + j) = digit (s.drop i) j := by
  unfold digit
  rw [List.getElem?_drop]
theorem field_spec (s : List UInt8) (i : Nat) :
    (field (s.drop i) = none ∧ (!pfx (s.drop i) [58] || !(digit s (i + 1)).2 || !(digit s (i + 2)).2 || decide (((digit s (i + 1)).1 : Int) * 10 + ((digit s (i + 2)).1 : Int) ≥ 60)) = true) ∨
    (∃ m : Nat, field (s.drop i) = some m ∧ (!pfx (s.drop i) [58] || !(digit s (i + 1)).2 || !(digit s (i + 2)).2 || decide (((digit s (i + 1)).1 : Int) * 10 + ((digit s (i + 2)).1 : Int) ≥ 60)) = false ∧
      ((digit s (i + 1)).1 : Int) * 10 + ((digit s (i + 2)).1 : Int) = (m : Int) ∧ m < 60 ∧ i + 3 ≤ s.length) := by
  rw [digit_drop, digit_drop]
  have hl : (s.drop i).length = s.length - i := List.length_drop
  generalize s.drop i = l at hl
  match l, hl with
  | [], _ => left; simp [field, pfx]
  | [c], _ => left; simp [field, digit]
  | [c, a], _ => left; simp [field, digit]
  | c :: a :: b :: r, hl =>
    simp only [List.length_cons] at hl
    have ha := isD_iff a
    have hb := isD_iff b
    unfold field digit pfx
    simp only [List.getElem?_cons_succ, List.getElem?_cons_zero]
    by_cases h1 : c = 58
    · subst h1
      by_cases h2 : isD a = true
      · by_cases h3 : isD b = true
        · by_cases h4 : dv a * 10 + dv b < 60
          · right
            refine ⟨dv a * 10 + dv b, by simp [h2, h3, h4], ?_, by simp [h2, h3], h4, by omega⟩
            simp [h2, h3]
            omega
          · left
            simp [h2, h3]
            omega
        · left; simp [h3]
      · left; simp [h2]
    · left
      have : ¬ (58 = c) := fun h => h1 h.symm
      have h2 : [58].isPrefixOf (c :: a :: b :: r) = false := by simp [List.isPrefixOf, this]
      rw [h2]
      simp [h1]
theorem okE1' : cx E1 = C1 := rfl
theorem ok16 : ∀ args pres res, sPfx args = some (pres, res) → SpecOK Try.prog G8 36 args pres res := by
  intro args pres res h
  unfold sPfx at h
  split at h
  case h_2 => cases h
  cases h
  exact mk okE1 at16 (by decide) rfl (fun _ K hK => by rw [show cx E1 = C1 from rfl, f16_in]; exact hK)
theorem dd_small {n : Nat} (h : n < 10) : dd n = [dg n] := by unfold dd; rw [if_pos h]
theorem okE2 : EOK Try.prog E2 G8 := addE_ok okE1 ok16
theorem take_rest (s : List UInt8) (i : Nat) : (s.drop i).take (s.length - i) = s.drop i := by
  rw [List.take_of_length_le]; simp
theorem f18_ev (s : List UInt8) (i : Nat) (hi : i ≤ s.length) (hs : (s.length : Int) ≤ big) (K : List AV → Prop) (hK : K [i64 (fieldsP s i).1, i64 (fieldsP s i).2]) :
    evSpec D2 Try.f38 [.imm (.str s), .imm (.int .i64 i), .imm (.ints .i64 [60, 1])] K := by
  unfold big at hs
  have hs' : s.length ≤ 9223372036854775000 := by omega
  rw [f18_in]
  have e1 : IntKind.wrap .i64 ((i : Int) + 1) = ((i + 1 : Nat) : Int) := by rw [wrap64 (by omega) (by omega)]; rfl
  have e2 : IntKind.wrap .i64 ((i : Int) + 2) = ((i + 2 : Nat) : Int) := by rw [wrap64 (by omega) (by omega)]; rfl
  have e3 : IntKind.wrap .i64 ((i : Int) + 3) = ((i + 3 : Nat) : Int) := by rw [wrap64 (by omega) (by omega)]; rfl
  have e4 : IntKind.wrap .i64 (((i + 3 : Nat) : Int) + 1) = ((i + 3 + 1 : Nat) : Int) := by rw [wrap64 (by omega) (by omega)]; rfl
  have e5 : IntKind.wrap .i64 (((i + 3 : Nat) : Int) + 2) = ((i + 3 + 2 : Nat) : Int) := by rw [wrap64 (by omega) (by omega)]; rfl
  have e6 : IntKind.wrap .i64 (((i + 3 : Nat) : Int) + 3) = ((i + 6 : Nat) : Int) := by rw [wrap64 (by omega) (by omega)]; rfl
  have e7 : IntKind.wrap .i64 ((0 : Int) + 1) = 1 := by decide
  have m1 : (if (s.length : Int) < (i : Int) then (s.length : Int) else (i : Int)) = (i : Int) := by rw [if_neg (by omega)]
  have dd1 : ∀ j k, IntKind.wrap .i64 (IntKind.wrap .i64 (((digit s j).1 : Int) * 10) + ((digit s k).1 : Int)) = ((digit s j).1 : Int) * 10 + ((digit s k).1 : Int) := by
    intro j k
    have := digit_le s j
    have := digit_le s k
    rw [wrap64 (n := ((digit s j).1 : Int) * 10) (by omega) (by omega), wrap64 (by omega) (by omega)]
  rw [e1, e2, e3, e4, e5, e6, e7, m1]
  simp only [dd1, Int.toNat_natCast, take_rest]
  refine ⟨by decide, by decide, by omega, by omega, by omega, by omega, ?_⟩
  unfold fieldsP at hK
  rcases field_spec s i with ⟨hf, hc⟩ | ⟨m, hf, hc, hm, hm60, hl⟩
  · rw [hf] at hK
    rw [hc]
    exact hK
  · rw [hf] at hK
    rw [hc]
    have m2 : (if (s.length : Int) < ((i + 3 : Nat) : Int) then (s.length : Int) else ((i + 3 : Nat) : Int)) = ((i + 3 : Nat) : Int) := by rw [if_neg (by omega)]
    rw [m2, hm]
    simp only [Int.toNat_natCast, take_rest]
    refine ⟨by decide, by decide, by omega, by omega, by omega, by omega, ?_⟩
    have w1 : IntKind.wrap .i64 (0 + IntKind.wrap .i64 (List.getD [(60 : Int), 1] (Int.toNat 0) 0 * (m : Int))) = 60 * (m : Int) := by
      rw [show List.getD [(60 : Int), 1] (Int.toNat 0) 0 = 60 from rfl, wrap64 (n := 60 * (m : Int)) (by omega) (by omega), wrap64 (by omega) (by omega)]
      omega
    rw [w1]
    rcases field_spec s (i + 3) with ⟨hf2, hc2⟩ | ⟨c, hf2, hc2, hc3, hc60, hl2⟩
    · rw [hf2] at hK
      rw [hc2]
      exact hK
    · rw [hf2] at hK
      rw [hc2, hc3]
      have w2 : IntKind.wrap .i64 (60 * (m : Int) + IntKind.wrap .i64 (List.getD [(60 : Int), 1] (Int.toNat 1) 0 * (c : Int))) = 60 * (m : Int) + c := by
        rw [show List.getD [(60 : Int), 1] (Int.toNat 1) 0 = 1 from rfl, wrap64 (n := 1 * (c : Int)) (by omega) (by omega), wrap64 (by omega) (by omega)]
        omega
      rw [w2]
      exact hK
theorem ok18 : ∀ args pres res, sFields args = some (pres, res) → SpecOK Try.prog G8 38 args pres res := by
  intro args pres res h
  unfold sFields at h
  split at h
  case h_2 => cases h
  cases h
  rename_i s n
  refine mku okE2 at18 (by decide) rfl (fun hp K hK => ?_)
  have h0 := hp _ (List.mem_cons_self ..)
  have h1 := hp _ (List.mem_cons_of_mem _ (List.mem_cons_self ..))
  have h2 := hp _ (List.mem_cons_of_mem _ (List.mem_cons_of_mem _ (List.mem_cons_self ..)))
  obtain ⟨i, rfl⟩ := nat_of h0
  simp only [Int.toNat_natCast] at hK
  exact f18_ev s i (by omega) h2 K hK
theorem w10 {x y : Int} (h1 : 48 ≤ x) (h2 : x ≤ 57) (h3 : 48 ≤ y) (h4 : y ≤ 57) : IntKind.wrap .i64 (IntKind.wrap .i64 (IntKind.wrap .i64 (10 * IntKind.wrap .i64 (IntKind.wrap .i64 x - 48)) + IntKind.wrap .i64 y) - 48) = 10 * (x - 48) + (y - 48) := by
  rw [wrap64 (n := x) (by omega) (by omega), wrap64 (n := y) (by omega) (by omega), wrap64 (n := x - 48) (by omega) (by omega), wrap64 (n := 10 * (x - 48)) (by omega) (by omega), wrap64 (n := 10 * (x - 48) + y) (by omega) (by omega), wrap64 (by omega) (by omega)]
  omega
end A8

set_option maxRecDepth 100000
namespace A8
open Go Go.AE Go.Proofs
attribute [local irreducible] loopK evCode evSpec loopB norm

theorem run_digit : ∀ (l : List UInt8) (j : Nat), j ≤ (runD l).length → digit l j = if j < (runD l).length then (dv ((runD l).getD j 0), true) else (0, false)
  | [], j, _ => by simp [runD, digit]
  | b :: l, j, h => by
    unfold runD at h ⊢
    rw [List.takeWhile_cons] at h ⊢
    by_cases hb : isD b = true
    · rw [if_pos hb] at h ⊢
      cases j with
      | zero => simp [digit, hb]
      | succ j =>
        have ih := run_digit l j (by simpa [runD] using h)
        have e : digit (b :: l) (j + 1) = digit l j := by unfold digit; simp
        rw [e, ih]
        simp [runD]
    · rw [if_neg hb] at h ⊢
      have : j = 0 := by simpa using h
      subst this
      simp [digit, hb]
theorem run_le (l : List UInt8) : (runD l).length ≤ l.length := (List.takeWhile_sublist _).length_le
theorem num_succ (ds : List UInt8) (j : Nat) (h : j < ds.length) : num (ds.take (j + 1)) = num (ds.take j) * 10 + dv (ds.getD j 0) := by
  unfold num
  rw [List.take_succ, List.foldl_append]
  simp [List.getD_eq_getElem?_getD, List.getElem?_eq_getElem h]
theorem dv_run {l : List UInt8} {j : Nat} (h : j < (runD l).length) : dv ((runD l).getD j 0) ≤ 9 := by
  have := digit_le l j
  rw [run_digit l j (by omega), if_pos h] at this
  exact this
theorem num_le (l : List UInt8) : ∀ j, j ≤ (runD l).length → num ((runD l).take j) < 10 ^ j
  | 0, _ => by simp [num]
  | j + 1, h => by
    have ih := num_le l j (by omega)
    have := dv_run (l := l) (j := j) (by omega)
    rw [num_succ _ _ (by omega), Nat.pow_succ]
    omega
def p17 : Plan := ⟨[], [true, true, false, false, true, true, true, true, true, true, true], []⟩
theorem f17_ev (s : List UInt8) (i : Nat) (hi : i ≤ 1) (hs : (s.length : Int) ≤ big) (K : List AV → Prop) (hK : K [i64 (hoursP s i).1, i64 (hoursP s i).2.1, bo (hoursP s i).2.2]) :
    evSpec C2 Try.f37 [.imm (.str s), .imm (.int .i64 i)] K := by
  unfold big at hs
  rw [f17_in]
  refine ⟨by omega, ?_⟩
  unfold LoopI
  have hrl := run_le (s.drop i)
  have hdl : (s.drop i).length = s.length - i := List.length_drop
  refine loop_rule (fun j : Nat => h17 s i (num ((runD (s.drop i)).take j)) ((i + j : Nat) : Int) (digit s (i + j)).1 (digit s (i + j)).2) (fun j => j ≤ 3 ∧ j ≤ (runD (s.drop i)).length) (fun j => (runD (s.drop i)).length - j)
    (fun j hP K' hnorm hexit => ?_) rfl 0 p17 _ ⟨by omega, by omega⟩ (by kernel_rfl)
  obtain ⟨h3, hle⟩ := hP
  have en : IntKind.wrap .i64 (((i + j : Nat) : Int) + 1) = ((i + (j + 1) : Nat) : Int) := by rw [wrap64 (by omega) (by omega)]; omega
  have ei : IntKind.wrap .i64 (((i + (j + 1) : Nat) : Int) - i) = ((j + 1 : Nat) : Int) := by rw [wrap64 (by omega) (by omega)]; omega
  have hd := run_digit (s.drop i) j hle
  rw [← digit_drop] at hd
  have hnl := num_le (s.drop i) j hle
  have hn9 : num ((runD (s.drop i)).take j) < 1000 := by
    have : 10 ^ j ≤ 10 ^ 3 := Nat.pow_le_pow_right (by decide) h3
    omega
  have hdle := digit_le s (i + j)
  have eh : IntKind.wrap .i64 (IntKind.wrap .i64 ((num ((runD (s.drop i)).take j) : Int) * 10) + ((digit s (i + j)).1 : Int)) = ((num ((runD (s.drop i)).take j) * 10 + (digit s (i + j)).1 : Nat) : Int) := by
    rw [wrap64 (n := (num ((runD (s.drop i)).take j) : Int) * 10) (by omega) (by omega), wrap64 (by omega) (by omega)]
    omega
  rw [f17_lp]
  simp only [en, ei, eh, Int.toNat_natCast]
  unfold hoursP at hK
  by_cases hlt : j < (runD (s.drop i)).length
  · rw [if_pos hlt] at hd
    refine brn_intro (fun _ => ?_) (fun h => by rw [hd] at h; cases h)
    refine brn_intro (fun h => ?_) (fun h => ?_)
    · have h' : ¬ (runD (s.drop i)).length ≤ 3 := by simp at h; omega
      rw [if_neg h'] at hK
      refine hexit _ _ (by simp) ?_
      exact Eq.mp (by kernel_rfl) hK
    · refine ⟨by omega, hnorm (j + 1) p17 _ ⟨by simp at h; omega, by omega⟩ (by omega) ?_⟩
      have e2 : num ((runD (s.drop i)).take (j + 1)) = num ((runD (s.drop i)).take j) * 10 + (digit s (i + j)).1 := by
        rw [num_succ _ _ hlt, hd]
      rw [e2]
      show _ = _
      kernel_rfl
  · rw [if_neg hlt] at hd
    have hj : j = (runD (s.drop i)).length := by omega
    refine brn_intro (fun h => by rw [hd] at h; cases h) (fun _ => ?_)
    refine hexit _ _ (by simp) ?_
    rw [if_pos (by omega), ← hj] at hK
    have e1 : num (runD (s.drop i)) = num ((runD (s.drop i)).take j) := by rw [hj, List.take_length]
    rw [e1] at hK
    have e2 : (decide (0 < j) && decide (num ((runD (s.drop i)).take j) ≤ 167)) = (decide (((i + j : Nat) : Int) > (i : Int)) && decide (((num ((runD (s.drop i)).take j) : Nat) : Int) ≤ 167)) := by
      rw [Bool.eq_iff_iff]
      simp only [Bool.and_eq_true, decide_eq_true_eq]
      omega
    rw [e2] at hK
    exact Eq.mp (by kernel_rfl) hK
theorem ok17 : ∀ args pres res, sHours args = some (pres, res) → SpecOK Try.prog G8 37 args pres res := by
  intro args pres res h
  unfold sHours at h
  split at h
  case h_2 => cases h
  cases h
  rename_i s n
  refine mk okE2 at17 (by decide) rfl (fun hp K hK => ?_)
  have h0 := hp _ (List.mem_cons_self ..)
  have h1 := hp _ (List.mem_cons_of_mem _ (List.mem_cons_self ..))
  have h2 := hp _ (List.mem_cons_of_mem _ (List.mem_cons_of_mem _ (List.mem_cons_self ..)))
  obtain ⟨i, rfl⟩ := nat_of h0
  simp only [Int.toNat_natCast] at hK
  exact f17_ev s i (by omega) h2 K hK
theorem okE3 : EOK Try.prog E3 G8 := addE_ok (addE_ok okE2 ok17) ok18
end A8

set_option maxRecDepth 100000
namespace A8
open Go Go.AE Go.Proofs
attribute [local irreducible] loopK evCode evSpec loopB norm

theorem off_le (s : List UInt8) : off s ≤ 1 := by
  unfold off
  split
  · split <;> omega
  · omega
theorem off_le_len (s : List UInt8) : off s ≤ s.length := by
  unfold off
  split
  · simp only [List.length_cons]; split <;> omega
  · omega
theorem sgn_eq {s : List UInt8} (h : 0 < s.length) : sgn s = if ((s.getD 0 0).toNat : Int) = 45 then -1 else 1 := by
  cases s with
  | nil => simp at h
  | cons b r =>
    simp only [sgn, List.getD_cons_zero]
    by_cases hb : b = 45
    · subst hb; rfl
    · rw [if_neg hb, if_neg]
      intro h2
      exact hb (UInt8.toNat_inj.1 (by show b.toNat = 45; omega))
theorem fieldsP_of (s : List UInt8) (i : Nat) (hi : i ≤ s.length) : (fieldR s i = -1 ∧ fieldsP s i = (0, (i : Int))) ∨
    (∃ m : Nat, m < 60 ∧ fieldR s i = m ∧ i + 3 ≤ s.length ∧ ((fieldR s (i + 3) = -1 ∧ fieldsP s i = (60 * (m : Int), ((i + 3 : Nat) : Int))) ∨
      ∃ c : Nat, c < 60 ∧ fieldR s (i + 3) = c ∧ i + 6 ≤ s.length ∧ fieldsP s i = (60 * (m : Int) + c, ((i + 6 : Nat) : Int)))) := by
  unfold fieldR fieldsP
  rcases field_spec s i with ⟨hf, _⟩ | ⟨m, hf, _, _, hm, hl⟩
  · left; rw [hf]; exact ⟨rfl, rfl⟩
  · right
    rw [hf]
    refine ⟨m, hm, rfl, hl, ?_⟩
    rcases field_spec s (i + 3) with ⟨hf2, _⟩ | ⟨c, hf2, _, _, hc, hl2⟩
    · left; rw [hf2]; exact ⟨rfl, rfl⟩
    · right; rw [hf2]; exact ⟨c, hc, rfl, by omega, rfl⟩
theorem hours_of (s : List UInt8) (i : Nat) : (hoursP s i = (0, 0, false) ∧ ¬ (runD (s.drop i)).length ≤ 3) ∨
    ((runD (s.drop i)).length ≤ 3 ∧ hoursP s i = ((num (runD (s.drop i)) : Int), ((i + (runD (s.drop i)).length : Nat) : Int), decide (0 < (runD (s.drop i)).length) && decide (num (runD (s.drop i)) ≤ 167))) := by
  unfold hoursP
  by_cases h : (runD (s.drop i)).length ≤ 3
  · rw [if_pos h]; exact Or.inr ⟨h, rfl⟩
  · rw [if_neg h]; exact Or.inl ⟨rfl, h⟩
def p10 : Plan := ⟨[], [true, false, true, true, true, true, true, true], []⟩
theorem w10' {h b : Int} (h0 : 0 ≤ h) (h1 : h < 10000) (h3 : 48 ≤ b) (h4 : b ≤ 57) : IntKind.wrap .i64 (IntKind.wrap .i64 (IntKind.wrap .i64 (10 * h) + IntKind.wrap .i64 b) - 48) = 10 * h + (b - 48) := by
  rw [wrap64 (n := b) (by omega) (by omega), wrap64 (n := 10 * h) (by omega) (by omega), wrap64 (n := 10 * h + b) (by omega) (by omega), wrap64 (by omega) (by omega)]
  omega
theorem tail10 (s : List UInt8) (i : Nat) (hi : i = off s) (hs : s.length ≤ 9223372036854775000) (K : List AV → Prop) (hK : K [i64 (parse s).1, i64 (parse s).2.1, bo (parse s).2.2])
    (h3 : (runD (s.drop i)).length ≤ 3) (h0 : 0 < (runD (s.drop i)).length) (h167 : num (runD (s.drop i)) ≤ 167) :
    K [i64 (sgn s * ((num (runD (s.drop i)) : Int) * 3600 + (fieldsP s (i + (runD (s.drop i)).length)).1)), i64 (fieldsP s (i + (runD (s.drop i)).length)).2, bo true] := by
  unfold parse at hK
  rw [← hi] at hK
  rcases hours_of s i with ⟨_, h⟩ | ⟨_, e⟩
  · exact absurd h3 h
  · have e2 : (hoursP s i).2.2 = true := by rw [e]; simp [h0, h167]
    rw [if_pos e2] at hK
    rw [e] at hK
    simpa only [Int.toNat_natCast] using hK
end A8

set_option maxRecDepth 100000
namespace A8
open Go Go.AE Go.Proofs
attribute [local irreducible] loopK evCode evSpec loopB norm

theorem pfx1 (s : List UInt8) (c : UInt8) : pfx s [c] = true ↔ ∃ r, s = c :: r := by
  unfold pfx
  cases s with
  | nil => simp
  | cons b r =>
    simp only [List.isPrefixOf_cons₂, List.isPrefixOf_nil_left, Bool.and_true, beq_iff_eq, List.cons.injEq, exists_eq_right']
    exact eq_comm
theorem hours_le (s : List UInt8) (i : Nat) (hi : i ≤ s.length) (h : (hoursP s i).2.2 = true) : ∃ n : Nat, (hoursP s i).2.1 = (n : Int) ∧ n ≤ s.length ∧ i < n ∧ 0 ≤ (hoursP s i).1 ∧ (hoursP s i).1 ≤ 167 := by
  have hrl := run_le (s.drop i)
  have hdl : (s.drop i).length = s.length - i := List.length_drop
  rcases hours_of s i with ⟨e, _⟩ | ⟨h3, e⟩
  · rw [e] at h; cases h
  · rw [e] at h ⊢
    simp only [Bool.and_eq_true, decide_eq_true_eq] at h
    exact ⟨i + (runD (s.drop i)).length, rfl, by omega, by omega, by show (0 : Int) ≤ _; omega, by show (_ : Int) ≤ 167; omega⟩
theorem fields_b (s : List UInt8) (i : Nat) (hi : i ≤ s.length) : 0 ≤ (fieldsP s i).1 ∧ (fieldsP s i).1 < 3600 ∧ ∃ n : Nat, (fieldsP s i).2 = (n : Int) ∧ i ≤ n ∧ n ≤ s.length := by
  rcases fieldsP_of s i hi with ⟨_, e⟩ | ⟨m, hm, _, hl, ⟨_, e⟩ | ⟨c, hc, _, hl2, e⟩⟩
  · rw [e]; exact ⟨by show (0 : Int) ≤ 0; omega, by show (0 : Int) < 3600; omega, i, rfl, by omega, hi⟩
  · rw [e]; exact ⟨by show (0 : Int) ≤ _; omega, by show (_ : Int) < 3600; omega, i + 3, rfl, by omega, hl⟩
  · rw [e]; exact ⟨by show (0 : Int) ≤ _; omega, by show (_ : Int) < 3600; omega, i + 6, rfl, by omega, hl2⟩
theorem f9_tail (s : List UInt8) (hs : (s.length : Int) ≤ big) (g : Int) (i : Nat) (hi : i = off s) (hg : g = sgn s) (K : List AV → Prop) (hK : K [i64 (parse s).1, i64 (parse s).2.1, bo (parse s).2.2]) :
    brn (!(hoursP s i).2.2) (K [i64 0, i64 0, bo false])
      ((0 : Int) ≤ (hoursP s i).2.1 ∧ (hoursP s i).2.1 ≤ (s.length : Int) ∧ (s.length : Int) ≤ big ∧
        K [i64 (IntKind.wrap .i64 (g * IntKind.wrap .i64 (IntKind.wrap .i64 ((hoursP s i).1 * 3600) + (fieldsP s (hoursP s i).2.1.toNat).1))), i64 (fieldsP s (hoursP s i).2.1.toNat).2, bo true]) := by
  subst hi
  have hil := off_le_len s
  unfold parse at hK
  refine brn_intro (fun h => ?_) (fun h => ?_)
  · have h' : (hoursP s (off s)).2.2 = false := by simpa using h
    rw [if_neg (by rw [h']; simp)] at hK
    exact hK
  · have h' : (hoursP s (off s)).2.2 = true := by simpa using h
    rw [if_pos h'] at hK
    obtain ⟨n, e, hn, hin, b0, b1⟩ := hours_le s (off s) hil h'
    obtain ⟨c0, c1, _⟩ := fields_b s n hn
    rw [e, Int.toNat_natCast] at hK ⊢
    refine ⟨by omega, by omega, hs, ?_⟩
    have w : IntKind.wrap .i64 (g * IntKind.wrap .i64 (IntKind.wrap .i64 ((hoursP s (off s)).1 * 3600) + (fieldsP s n).1)) = sgn s * ((hoursP s (off s)).1 * 3600 + (fieldsP s n).1) := by
      rw [wrap64 (n := (hoursP s (off s)).1 * 3600) (by omega) (by omega), wrap64 (n := (hoursP s (off s)).1 * 3600 + (fieldsP s n).1) (by omega) (by omega), hg]
      have : sgn s = 1 ∨ sgn s = -1 := by
        unfold sgn
        split
        · split
          · exact Or.inr rfl
          · exact Or.inl rfl
        · exact Or.inl rfl
      rcases this with h | h <;> rw [h] <;> rw [wrap64 (by omega) (by omega)]
    rw [w]
    exact hK
theorem ok9 : ∀ args pres res, sParse args = some (pres, res) → SpecOK Try.prog G8 29 args pres res := by
  intro args pres res h
  unfold sParse at h
  split at h
  case h_2 => cases h
  cases h
  rename_i s
  refine mk okE3 at9 (by decide) rfl (fun hp K hK => ?_)
  have h0 := hp _ (List.mem_cons_self ..)
  rw [show cx E3 = C3 from rfl, f9_in]
  refine brn_intro (fun h => ?_) (fun h => ?_)
  · have hc : ∃ c r, s = c :: r ∧ (c = 45 ∨ c = 43) := by
      rw [Bool.or_eq_true, pfx1, pfx1] at h
      rcases h with ⟨r, rfl⟩ | ⟨r, rfl⟩
      · exact ⟨_, _, rfl, Or.inl rfl⟩
      · exact ⟨_, _, rfl, Or.inr rfl⟩
    obtain ⟨c, r, rfl, hc⟩ := hc
    have ho : off (c :: r) = 1 := by simp only [off]; rw [if_pos hc]
    refine ⟨by omega, by simp, brn_intro (fun hb => ?_) (fun hb => ?_)⟩
    · have : c = 45 := by
        have : (c.toNat : Int) = 45 := by simpa using hb
        exact UInt8.toNat_inj.1 (by show c.toNat = 45; omega)
      subst this
      exact ⟨by decide, by decide, h0, f9_tail _ h0 (-1) 1 ho.symm rfl K hK⟩
    · have : c ≠ 45 := by rintro rfl; simp at hb
      have hg : sgn (c :: r) = 1 := by simp only [sgn]; rw [if_neg this]
      exact ⟨by decide, by decide, h0, f9_tail _ h0 1 1 ho.symm hg.symm K hK⟩
  · have hx : off s = 0 ∧ sgn s = 1 := by
      rw [Bool.or_eq_false_iff] at h
      cases s with
      | nil => exact ⟨rfl, rfl⟩
      | cons c r =>
        have h1 : c ≠ 45 := by rintro rfl; simp [pfx] at h
        have h2 : c ≠ 43 := by rintro rfl; simp [pfx] at h
        simp only [off, sgn]
        rw [if_neg (by simp [h1, h2]), if_neg h1]
        exact ⟨rfl, rfl⟩
    exact ⟨by decide, by decide, h0, f9_tail _ h0 1 0 hx.1.symm hx.2.symm K hK⟩
theorem two_len (n : Nat) : (two n).length = 3 := rfl
theorem dd_len (n : Nat) : 1 ≤ (dd n).length ∧ (dd n).length ≤ 3 := by unfold dd; split <;> (try split) <;> simp
end A8

set_option maxRecDepth 100000
namespace A8
open Go Go.AE Go.Proofs
attribute [local irreducible] loopK evCode evSpec loopB norm
theorem f14_b (n : Int) (t : Nat →
  AV) (k : AX → St → Prop) : evCode C3 (c14 [Dir.r, Dir.r, Dir.l]) (S14 n [] AV.dead t) k =
  (brn (decide (n < (0 : Int)))
  (k AX.normal
    (St.mk
      [AV.imm (IV.int IntKind.i64 (IntKind.wrap IntKind.i64 ((0 : Int) - n))), AV.dead, AV.imm (IV.str []),
        AV.imm (IV.str [(45 : UInt8)]), AV.dead, AV.imm (IV.int IntKind.i64 n),
        AV.imm (IV.bool (decide (n < (0 : Int)))), AV.imm (IV.int IntKind.i64 n),
        AV.imm (IV.int IntKind.i64 (IntKind.wrap IntKind.i64 ((0 : Int) - n))), t (9 : Nat), t (10 : Nat), t (11 : Nat),
        t (12 : Nat), t (13 : Nat), t (14 : Nat), t (15 : Nat), t (16 : Nat), t (17 : Nat), t (18 : Nat), t (19 : Nat),
        t (20 : Nat), t (21 : Nat), t (22 : Nat), t (23 : Nat), t (24 : Nat), t (25 : Nat), t (26 : Nat), t (27 : Nat),
        t (28 : Nat), t (29 : Nat), t (30 : Nat), t (31 : Nat), t (32 : Nat), t (33 : Nat), t (34 : Nat), t (35 : Nat),
        t (36 : Nat), t (37 : Nat), t (38 : Nat), t (39 : Nat), t (40 : Nat), t (41 : Nat), t (42 : Nat), t (43 : Nat),
        t (44 : Nat), t (45 : Nat), t (46 : Nat), t (47 : Nat), t (48 : Nat), t (49 : Nat), t (50 : Nat), t (51 : Nat),
        t (52 : Nat), t (53 : Nat)]
      [] (0 : Nat) []))
  (k AX.normal
    (St.mk
      [AV.imm (IV.int IntKind.i64 n), AV.dead, AV.imm (IV.str []), AV.imm (IV.str []), AV.dead,
        AV.imm (IV.int IntKind.i64 n), AV.imm (IV.bool (decide (n < (0 : Int)))), t (7 : Nat), t (8 : Nat), t (9 : Nat),
        t (10 : Nat), t (11 : Nat), t (12 : Nat), t (13 : Nat), t (14 : Nat), t (15 : Nat), t (16 : Nat), t (17 : Nat),
        t (18 : Nat), t (19 : Nat), t (20 : Nat), t (21 : Nat), t (22 : Nat), t (23 : Nat), t (24 : Nat), t (25 : Nat),
        t (26 : Nat), t (27 : Nat), t (28 : Nat), t (29 : Nat), t (30 : Nat), t (31 : Nat), t (32 : Nat), t (33 : Nat),
        t (34 : Nat), t (35 : Nat), t (36 : Nat), t (37 : Nat), t (38 : Nat), t (39 : Nat), t (40 : Nat), t (41 : Nat),
        t (42 : Nat), t (43 : Nat), t (44 : Nat), t (45 : Nat), t (46 : Nat), t (47 : Nat), t (48 : Nat), t (49 : Nat),
        t (50 : Nat), t (51 : Nat), t (52 : Nat), t (53 : Nat)]
      [] (0 : Nat) []))) := by kernel_rfl
theorem f14_a (n : Int) (s : List UInt8) (t : Nat → AV) (k : AX → St → Prop) : evCode C3 a14 (S14 n s AV.dead t) k =
  ((3600 : Int) ≠ (0 : Int) ∧
  brn (decide (IntKind.wrap IntKind.i64 (Int.tdiv n (3600 : Int)) ≥ (100 : Int)))
    (List.length s + List.length [(49 : UInt8)] ≤ (9223372036854775807 : Nat) ∧
      brn (decide (IntKind.wrap IntKind.i64 (Int.tdiv n (3600 : Int)) ≥ (10 : Int)))
        ((10 : Int) ≠ (0 : Int) ∧
          (10 : Int) ≠ (0 : Int) ∧
            List.length (s ++ [(49 : UInt8)]) +
                  List.length
                    (List.map u8
                      [IntKind.wrap IntKind.u8
                          (IntKind.wrap IntKind.i64
                            ((48 : Int) +
                              Int.tmod
                                (IntKind.wrap IntKind.i64
                                  (Int.tdiv (IntKind.wrap IntKind.i64 (Int.tdiv n (3600 : Int))) (10 : Int)))
                                (10 : Int)))]) ≤
                (9223372036854775807 : Nat) ∧
              (10 : Int) ≠ (0 : Int) ∧
                List.length
                        (s ++ [(49 : UInt8)] ++
                          List.map u8
                            [IntKind.wrap IntKind.u8
                                (IntKind.wrap IntKind.i64
                                  ((48 : Int) +
                                    Int.tmod
                                      (IntKind.wrap IntKind.i64
                                        (Int.tdiv (IntKind.wrap IntKind.i64 (Int.tdiv n (3600 : Int))) (10 : Int)))
                                      (10 : Int)))]) +
                      List.length
                        (List.map u8
                          [IntKind.wrap IntKind.u8
                              (IntKind.wrap IntKind.i64
                                ((48 : Int) +
                                  Int.tmod (IntKind.wrap IntKind.i64 (Int.tdiv n (3600 : Int))) (10 : Int)))]) ≤
                    (9223372036854775807 : Nat) ∧
                  k AX.normal
                    (St.mk
                      [AV.imm (IV.int IntKind.i64 n), AV.dead, AV.imm (IV.str []),
                        AV.imm
                          (IV.str
                            (s ++ [(49 : UInt8)] ++
                                List.map u8
                                  [IntKind.wrap IntKind.u8
                                      (IntKind.wrap IntKind.i64
                                        ((48 : Int) +
                                          Int.tmod
                                            (IntKind.wrap IntKind.i64
                                              (Int.tdiv (IntKind.wrap IntKind.i64 (Int.tdiv n (3600 : Int)))
                                                (10 : Int)))
                                            (10 : Int)))] ++
                              List.map u8
                                [IntKind.wrap IntKind.u8
                                    (IntKind.wrap IntKind.i64
                                      ((48 : Int) +
                                        Int.tmod (IntKind.wrap IntKind.i64 (Int.tdiv n (3600 : Int))) (10 : Int)))])),
                        AV.imm (IV.int IntKind.i64 (IntKind.wrap IntKind.i64 (Int.tdiv n (3600 : Int)))), t (5 : Nat),
                        t (6 : Nat), t (7 : Nat), t (8 : Nat), AV.imm (IV.int IntKind.i64 n),
                        AV.imm (IV.int IntKind.i64 (IntKind.wrap IntKind.i64 (Int.tdiv n (3600 : Int)))),
                        AV.imm (IV.int IntKind.i64 (IntKind.wrap IntKind.i64 (Int.tdiv n (3600 : Int)))),
                        AV.imm (IV.bool (decide (IntKind.wrap IntKind.i64 (Int.tdiv n (3600 : Int)) ≥ (100 : Int)))),
                        AV.imm (IV.str s), AV.imm (IV.str (s ++ [(49 : UInt8)])),
                        AV.imm (IV.int IntKind.i64 (IntKind.wrap IntKind.i64 (Int.tdiv n (3600 : Int)))),
                        AV.imm (IV.bool (decide (IntKind.wrap IntKind.i64 (Int.tdiv n (3600 : Int)) ≥ (10 : Int)))),
                        AV.imm (IV.str (s ++ [(49 : UInt8)])),
                        AV.imm (IV.int IntKind.i64 (IntKind.wrap IntKind.i64 (Int.tdiv n (3600 : Int)))),
                        AV.imm
                          (IV.int IntKind.i64
                            (IntKind.wrap IntKind.i64
                              (Int.tdiv (IntKind.wrap IntKind.i64 (Int.tdiv n (3600 : Int))) (10 : Int)))),
                        AV.imm
                          (IV.int IntKind.i64
                            (Int.tmod
                              (IntKind.wrap IntKind.i64
                                (Int.tdiv (IntKind.wrap IntKind.i64 (Int.tdiv n (3600 : Int))) (10 : Int)))
                              (10 : Int))),
                        AV.imm
                          (IV.int IntKind.i64
                            (IntKind.wrap IntKind.i64
                              ((48 : Int) +
                                Int.tmod
                                  (IntKind.wrap IntKind.i64
                                    (Int.tdiv (IntKind.wrap IntKind.i64 (Int.tdiv n (3600 : Int))) (10 : Int)))
                                  (10 : Int)))),
                        AV.imm
                          (IV.int IntKind.u8
                            (IntKind.wrap IntKind.u8
                              (IntKind.wrap IntKind.i64
                                ((48 : Int) +
                                  Int.tmod
                                    (IntKind.wrap IntKind.i64
                                      (Int.tdiv (IntKind.wrap IntKind.i64 (Int.tdiv n (3600 : Int))) (10 : Int)))
                                    (10 : Int))))),
                        AV.full
                          (IV.bytes
                            (List.map u8
                              [IntKind.wrap IntKind.u8
                                  (IntKind.wrap IntKind.i64
                                    ((48 : Int) +
                                      Int.tmod
                                        (IntKind.wrap IntKind.i64
                                          (Int.tdiv (IntKind.wrap IntKind.i64 (Int.tdiv n (3600 : Int))) (10 : Int)))
                                        (10 : Int)))])),
                        AV.imm
                          (IV.str
                            (List.map u8
                              [IntKind.wrap IntKind.u8
                                  (IntKind.wrap IntKind.i64
                                    ((48 : Int) +
                                      Int.tmod
                                        (IntKind.wrap IntKind.i64
                                          (Int.tdiv (IntKind.wrap IntKind.i64 (Int.tdiv n (3600 : Int))) (10 : Int)))
                                        (10 : Int)))])),
                        AV.imm
                          (IV.str
                            (s ++ [(49 : UInt8)] ++
                              List.map u8
                                [IntKind.wrap IntKind.u8
                                    (IntKind.wrap IntKind.i64
                                      ((48 : Int) +
                                        Int.tmod
                                          (IntKind.wrap IntKind.i64
                                            (Int.tdiv (IntKind.wrap IntKind.i64 (Int.tdiv n (3600 : Int))) (10 : Int)))
                                          (10 : Int)))])),
                        AV.imm
                          (IV.str
                            (s ++ [(49 : UInt8)] ++
                              List.map u8
                                [IntKind.wrap IntKind.u8
                                    (IntKind.wrap IntKind.i64
                                      ((48 : Int) +
                                        Int.tmod
                                          (IntKind.wrap IntKind.i64
                                            (Int.tdiv (IntKind.wrap IntKind.i64 (Int.tdiv n (3600 : Int))) (10 : Int)))
                                          (10 : Int)))])),
                        AV.imm (IV.int IntKind.i64 (IntKind.wrap IntKind.i64 (Int.tdiv n (3600 : Int)))),
                        AV.imm
                          (IV.int IntKind.i64
                            (Int.tmod (IntKind.wrap IntKind.i64 (Int.tdiv n (3600 : Int))) (10 : Int))),
                        AV.imm
                          (IV.int IntKind.i64
                            (IntKind.wrap IntKind.i64
                              ((48 : Int) + Int.tmod (IntKind.wrap IntKind.i64 (Int.tdiv n (3600 : Int))) (10 : Int)))),
                        AV.imm
                          (IV.int IntKind.u8
                            (IntKind.wrap IntKind.u8
                              (IntKind.wrap IntKind.i64
                                ((48 : Int) +
                                  Int.tmod (IntKind.wrap IntKind.i64 (Int.tdiv n (3600 : Int))) (10 : Int))))),
                        AV.full
                          (IV.bytes
                            (List.map u8
                              [IntKind.wrap IntKind.u8
                                  (IntKind.wrap IntKind.i64
                                    ((48 : Int) +
                                      Int.tmod (IntKind.wrap IntKind.i64 (Int.tdiv n (3600 : Int))) (10 : Int)))])),
                        AV.imm
                          (IV.str
                            (List.map u8
                              [IntKind.wrap IntKind.u8
                                  (IntKind.wrap IntKind.i64
                                    ((48 : Int) +
                                      Int.tmod (IntKind.wrap IntKind.i64 (Int.tdiv n (3600 : Int))) (10 : Int)))])),
                        AV.imm
                          (IV.str
                            (s ++ [(49 : UInt8)] ++
                                List.map u8
                                  [IntKind.wrap IntKind.u8
                                      (IntKind.wrap IntKind.i64
                                        ((48 : Int) +
                                          Int.tmod
                                            (IntKind.wrap IntKind.i64
                                              (Int.tdiv (IntKind.wrap IntKind.i64 (Int.tdiv n (3600 : Int)))
                                                (10 : Int)))
                                            (10 : Int)))] ++
                              List.map u8
                                [IntKind.wrap IntKind.u8
                                    (IntKind.wrap IntKind.i64
                                      ((48 : Int) +
                                        Int.tmod (IntKind.wrap IntKind.i64 (Int.tdiv n (3600 : Int))) (10 : Int)))])),
                        t (34 : Nat), t (35 : Nat), t (36 : Nat), t (37 : Nat), t (38 : Nat), t (39 : Nat),
                        t (40 : Nat), t (41 : Nat), t (42 : Nat), t (43 : Nat), t (44 : Nat), t (45 : Nat),
                        t (46 : Nat), t (47 : Nat), t (48 : Nat), t (49 : Nat), t (50 : Nat), t (51 : Nat),
                        t (52 : Nat), t (53 : Nat)]
                      [] (0 : Nat) []))
        ((10 : Int) ≠ (0 : Int) ∧
          List.length (s ++ [(49 : UInt8)]) +
                List.length
                  (List.map u8
                    [IntKind.wrap IntKind.u8
                        (IntKind.wrap IntKind.i64
                          ((48 : Int) + Int.tmod (IntKind.wrap IntKind.i64 (Int.tdiv n (3600 : Int))) (10 : Int)))]) ≤
              (9223372036854775807 : Nat) ∧
            k AX.normal
              (St.mk
                [AV.imm (IV.int IntKind.i64 n), AV.dead, AV.imm (IV.str []),
                  AV.imm
                    (IV.str
                      (s ++ [(49 : UInt8)] ++
                        List.map u8
                          [IntKind.wrap IntKind.u8
                              (IntKind.wrap IntKind.i64
                                ((48 : Int) +
                                  Int.tmod (IntKind.wrap IntKind.i64 (Int.tdiv n (3600 : Int))) (10 : Int)))])),
                  AV.imm (IV.int IntKind.i64 (IntKind.wrap IntKind.i64 (Int.tdiv n (3600 : Int)))), t (5 : Nat),
                  t (6 : Nat), t (7 : Nat), t (8 : Nat), AV.imm (IV.int IntKind.i64 n),
                  AV.imm (IV.int IntKind.i64 (IntKind.wrap IntKind.i64 (Int.tdiv n (3600 : Int)))),
                  AV.imm (IV.int IntKind.i64 (IntKind.wrap IntKind.i64 (Int.tdiv n (3600 : Int)))),
                  AV.imm (IV.bool (decide (IntKind.wrap IntKind.i64 (Int.tdiv n (3600 : Int)) ≥ (100 : Int)))),
                  AV.imm (IV.str s), AV.imm (IV.str (s ++ [(49 : UInt8)])),
                  AV.imm (IV.int IntKind.i64 (IntKind.wrap IntKind.i64 (Int.tdiv n (3600 : Int)))),
                  AV.imm (IV.bool (decide (IntKind.wrap IntKind.i64 (Int.tdiv n (3600 : Int)) ≥ (10 : Int)))),
                  t (17 : Nat), t (18 : Nat), t (19 : Nat), t (20 : Nat), t (21 : Nat), t (22 : Nat), t (23 : Nat),
                  t (24 : Nat), t (25 : Nat), AV.imm (IV.str (s ++ [(49 : UInt8)])),
                  AV.imm (IV.int IntKind.i64 (IntKind.wrap IntKind.i64 (Int.tdiv n (3600 : Int)))),
                  AV.imm
                    (IV.int IntKind.i64 (Int.tmod (IntKind.wrap IntKind.i64 (Int.tdiv n (3600 : Int))) (10 : Int))),
                  AV.imm
                    (IV.int IntKind.i64
                      (IntKind.wrap IntKind.i64
                        ((48 : Int) + Int.tmod (IntKind.wrap IntKind.i64 (Int.tdiv n (3600 : Int))) (10 : Int)))),
                  AV.imm
                    (IV.int IntKind.u8
                      (IntKind.wrap IntKind.u8
                        (IntKind.wrap IntKind.i64
                          ((48 : Int) + Int.tmod (IntKind.wrap IntKind.i64 (Int.tdiv n (3600 : Int))) (10 : Int))))),
                  AV.full
                    (IV.bytes
                      (List.map u8
                        [IntKind.wrap IntKind.u8
                            (IntKind.wrap IntKind.i64
                              ((48 : Int) +
                                Int.tmod (IntKind.wrap IntKind.i64 (Int.tdiv n (3600 : Int))) (10 : Int)))])),
                  AV.imm
                    (IV.str
                      (List.map u8
                        [IntKind.wrap IntKind.u8
                            (IntKind.wrap IntKind.i64
                              ((48 : Int) +
                                Int.tmod (IntKind.wrap IntKind.i64 (Int.tdiv n (3600 : Int))) (10 : Int)))])),
                  AV.imm
                    (IV.str
                      (s ++ [(49 : UInt8)] ++
                        List.map u8
                          [IntKind.wrap IntKind.u8
                              (IntKind.wrap IntKind.i64
                                ((48 : Int) +
                                  Int.tmod (IntKind.wrap IntKind.i64 (Int.tdiv n (3600 : Int))) (10 : Int)))])),
                  t (34 : Nat), t (35 : Nat), t (36 : Nat), t (37 : Nat), t (38 : Nat), t (39 : Nat), t (40 : Nat),
                  t (41 : Nat), t (42 : Nat), t (43 : Nat), t (44 : Nat), t (45 : Nat), t (46 : Nat), t (47 : Nat),
                  t (48 : Nat), t (49 : Nat), t (50 : Nat), t (51 : Nat), t (52 : Nat), t (53 : Nat)]
                [] (0 : Nat) [])))
    (brn (decide (IntKind.wrap IntKind.i64 (Int.tdiv n (3600 : Int)) ≥ (10 : Int)))
      ((10 : Int) ≠ (0 : Int) ∧
        (10 : Int) ≠ (0 : Int) ∧
          List.length s +
                List.length
                  (List.map u8
                    [IntKind.wrap IntKind.u8
                        (IntKind.wrap IntKind.i64
                          ((48 : Int) +
                            Int.tmod
                              (IntKind.wrap IntKind.i64
                                (Int.tdiv (IntKind.wrap IntKind.i64 (Int.tdiv n (3600 : Int))) (10 : Int)))
                              (10 : Int)))]) ≤
              (9223372036854775807 : Nat) ∧
            (10 : Int) ≠ (0 : Int) ∧
              List.length
                      (s ++
                        List.map u8
                          [IntKind.wrap IntKind.u8
                              (IntKind.wrap IntKind.i64
                                ((48 : Int) +
                                  Int.tmod
                                    (IntKind.wrap IntKind.i64
                                      (Int.tdiv (IntKind.wrap IntKind.i64 (Int.tdiv n (3600 : Int))) (10 : Int)))
                                    (10 : Int)))]) +
                    List.length
                      (List.map u8
                        [IntKind.wrap IntKind.u8
                            (IntKind.wrap IntKind.i64
                              ((48 : Int) +
                                Int.tmod (IntKind.wrap IntKind.i64 (Int.tdiv n (3600 : Int))) (10 : Int)))]) ≤
                  (9223372036854775807 : Nat) ∧
                k AX.normal
                  (St.mk
                    [AV.imm (IV.int IntKind.i64 n), AV.dead, AV.imm (IV.str []),
                      AV.imm
                        (IV.str
                          (s ++
                              List.map u8
                                [IntKind.wrap IntKind.u8
                                    (IntKind.wrap IntKind.i64
                                      ((48 : Int) +
                                        Int.tmod
                                          (IntKind.wrap IntKind.i64
                                            (Int.tdiv (IntKind.wrap IntKind.i64 (Int.tdiv n (3600 : Int))) (10 : Int)))
                                          (10 : Int)))] ++
                            List.map u8
                              [IntKind.wrap IntKind.u8
                                  (IntKind.wrap IntKind.i64
                                    ((48 : Int) +
                                      Int.tmod (IntKind.wrap IntKind.i64 (Int.tdiv n (3600 : Int))) (10 : Int)))])),
                      AV.imm (IV.int IntKind.i64 (IntKind.wrap IntKind.i64 (Int.tdiv n (3600 : Int)))), t (5 : Nat),
                      t (6 : Nat), t (7 : Nat), t (8 : Nat), AV.imm (IV.int IntKind.i64 n),
                      AV.imm (IV.int IntKind.i64 (IntKind.wrap IntKind.i64 (Int.tdiv n (3600 : Int)))),
                      AV.imm (IV.int IntKind.i64 (IntKind.wrap IntKind.i64 (Int.tdiv n (3600 : Int)))),
                      AV.imm (IV.bool (decide (IntKind.wrap IntKind.i64 (Int.tdiv n (3600 : Int)) ≥ (100 : Int)))),
                      t (13 : Nat), t (14 : Nat),
                      AV.imm (IV.int IntKind.i64 (IntKind.wrap IntKind.i64 (Int.tdiv n (3600 : Int)))),
                      AV.imm (IV.bool (decide (IntKind.wrap IntKind.i64 (Int.tdiv n (3600 : Int)) ≥ (10 : Int)))),
                      AV.imm (IV.str s),
                      AV.imm (IV.int IntKind.i64 (IntKind.wrap IntKind.i64 (Int.tdiv n (3600 : Int)))),
                      AV.imm
                        (IV.int IntKind.i64
                          (IntKind.wrap IntKind.i64
                            (Int.tdiv (IntKind.wrap IntKind.i64 (Int.tdiv n (3600 : Int))) (10 : Int)))),
                      AV.imm
                        (IV.int IntKind.i64
                          (Int.tmod
                            (IntKind.wrap IntKind.i64
                              (Int.tdiv (IntKind.wrap IntKind.i64 (Int.tdiv n (3600 : Int))) (10 : Int)))
                            (10 : Int))),
                      AV.imm
                        (IV.int IntKind.i64
                          (IntKind.wrap IntKind.i64
                            ((48 : Int) +
                              Int.tmod
                                (IntKind.wrap IntKind.i64
                                  (Int.tdiv (IntKind.wrap IntKind.i64 (Int.tdiv n (3600 : Int))) (10 : Int)))
                                (10 : Int)))),
                      AV.imm
                        (IV.int IntKind.u8
                          (IntKind.wrap IntKind.u8
                            (IntKind.wrap IntKind.i64
                              ((48 : Int) +
                                Int.tmod
                                  (IntKind.wrap IntKind.i64
                                    (Int.tdiv (IntKind.wrap IntKind.i64 (Int.tdiv n (3600 : Int))) (10 : Int)))
                                  (10 : Int))))),
                      AV.full
                        (IV.bytes
                          (List.map u8
                            [IntKind.wrap IntKind.u8
                                (IntKind.wrap IntKind.i64
                                  ((48 : Int) +
                                    Int.tmod
                                      (IntKind.wrap IntKind.i64
                                        (Int.tdiv (IntKind.wrap IntKind.i64 (Int.tdiv n (3600 : Int))) (10 : Int)))
                                      (10 : Int)))])),
                      AV.imm
                        (IV.str
                          (List.map u8
                            [IntKind.wrap IntKind.u8
                                (IntKind.wrap IntKind.i64
                                  ((48 : Int) +
                                    Int.tmod
                                      (IntKind.wrap IntKind.i64
                                        (Int.tdiv (IntKind.wrap IntKind.i64 (Int.tdiv n (3600 : Int))) (10 : Int)))
                                      (10 : Int)))])),
                      AV.imm
                        (IV.str
                          (s ++
                            List.map u8
                              [IntKind.wrap IntKind.u8
                                  (IntKind.wrap IntKind.i64
                                    ((48 : Int) +
                                      Int.tmod
                                        (IntKind.wrap IntKind.i64
                                          (Int.tdiv (IntKind.wrap IntKind.i64 (Int.tdiv n (3600 : Int))) (10 : Int)))
                                        (10 : Int)))])),
                      AV.imm
                        (IV.str
                          (s ++
                            List.map u8
                              [IntKind.wrap IntKind.u8
                                  (IntKind.wrap IntKind.i64
                                    ((48 : Int) +
                                      Int.tmod
                                        (IntKind.wrap IntKind.i64
                                          (Int.tdiv (IntKind.wrap IntKind.i64 (Int.tdiv n (3600 : Int))) (10 : Int)))
                                        (10 : Int)))])),
                      AV.imm (IV.int IntKind.i64 (IntKind.wrap IntKind.i64 (Int.tdiv n (3600 : Int)))),
                      AV.imm
                        (IV.int IntKind.i64 (Int.tmod (IntKind.wrap IntKind.i64 (Int.tdiv n (3600 : Int))) (10 : Int))),
                      AV.imm
                        (IV.int IntKind.i64
                          (IntKind.wrap IntKind.i64
                            ((48 : Int) + Int.tmod (IntKind.wrap IntKind.i64 (Int.tdiv n (3600 : Int))) (10 : Int)))),
                      AV.imm
                        (IV.int IntKind.u8
                          (IntKind.wrap IntKind.u8
                            (IntKind.wrap IntKind.i64
                              ((48 : Int) +
                                Int.tmod (IntKind.wrap IntKind.i64 (Int.tdiv n (3600 : Int))) (10 : Int))))),
                      AV.full
                        (IV.bytes
                          (List.map u8
                            [IntKind.wrap IntKind.u8
                                (IntKind.wrap IntKind.i64
                                  ((48 : Int) +
                                    Int.tmod (IntKind.wrap IntKind.i64 (Int.tdiv n (3600 : Int))) (10 : Int)))])),
                      AV.imm
                        (IV.str
                          (List.map u8
                            [IntKind.wrap IntKind.u8
                                (IntKind.wrap IntKind.i64
                                  ((48 : Int) +
                                    Int.tmod (IntKind.wrap IntKind.i64 (Int.tdiv n (3600 : Int))) (10 : Int)))])),
                      AV.imm
                        (IV.str
                          (s ++
                              List.map u8
                                [IntKind.wrap IntKind.u8
                                    (IntKind.wrap IntKind.i64
                                      ((48 : Int) +
                                        Int.tmod
                                          (IntKind.wrap IntKind.i64
                                            (Int.tdiv (IntKind.wrap IntKind.i64 (Int.tdiv n (3600 : Int))) (10 : Int)))
                                          (10 : Int)))] ++
                            List.map u8
                              [IntKind.wrap IntKind.u8
                                  (IntKind.wrap IntKind.i64
                                    ((48 : Int) +
                                      Int.tmod (IntKind.wrap IntKind.i64 (Int.tdiv n (3600 : Int))) (10 : Int)))])),
                      t (34 : Nat), t (35 : Nat), t (36 : Nat), t (37 : Nat), t (38 : Nat), t (39 : Nat), t (40 : Nat),
                      t (41 : Nat), t (42 : Nat), t (43 : Nat), t (44 : Nat), t (45 : Nat), t (46 : Nat), t (47 : Nat),
                      t (48 : Nat), t (49 : Nat), t (50 : Nat), t (51 : Nat), t (52 : Nat), t (53 : Nat)]
                    [] (0 : Nat) []))
      ((10 : Int) ≠ (0 : Int) ∧
        List.length s +
              List.length
                (List.map u8
                  [IntKind.wrap IntKind.u8
                      (IntKind.wrap IntKind.i64
                        ((48 : Int) + Int.tmod (IntKind.wrap IntKind.i64 (Int.tdiv n (3600 : Int))) (10 : Int)))]) ≤
            (9223372036854775807 : Nat) ∧
          k AX.normal
            (St.mk
              [AV.imm (IV.int IntKind.i64 n), AV.dead, AV.imm (IV.str []),
                AV.imm
                  (IV.str
                    (s ++
                      List.map u8
                        [IntKind.wrap IntKind.u8
                            (IntKind.wrap IntKind.i64
                              ((48 : Int) +
                                Int.tmod (IntKind.wrap IntKind.i64 (Int.tdiv n (3600 : Int))) (10 : Int)))])),
                AV.imm (IV.int IntKind.i64 (IntKind.wrap IntKind.i64 (Int.tdiv n (3600 : Int)))), t (5 : Nat),
                t (6 : Nat), t (7 : Nat), t (8 : Nat), AV.imm (IV.int IntKind.i64 n),
                AV.imm (IV.int IntKind.i64 (IntKind.wrap IntKind.i64 (Int.tdiv n (3600 : Int)))),
                AV.imm (IV.int IntKind.i64 (IntKind.wrap IntKind.i64 (Int.tdiv n (3600 : Int)))),
                AV.imm (IV.bool (decide (IntKind.wrap IntKind.i64 (Int.tdiv n (3600 : Int)) ≥ (100 : Int)))),
                t (13 : Nat), t (14 : Nat),
                AV.imm (IV.int IntKind.i64 (IntKind.wrap IntKind.i64 (Int.tdiv n (3600 : Int)))),
                AV.imm (IV.bool (decide (IntKind.wrap IntKind.i64 (Int.tdiv n (3600 : Int)) ≥ (10 : Int)))),
                t (17 : Nat), t (18 : Nat), t (19 : Nat), t (20 : Nat), t (21 : Nat), t (22 : Nat), t (23 : Nat),
                t (24 : Nat), t (25 : Nat), AV.imm (IV.str s),
                AV.imm (IV.int IntKind.i64 (IntKind.wrap IntKind.i64 (Int.tdiv n (3600 : Int)))),
                AV.imm (IV.int IntKind.i64 (Int.tmod (IntKind.wrap IntKind.i64 (Int.tdiv n (3600 : Int))) (10 : Int))),
                AV.imm
                  (IV.int IntKind.i64
                    (IntKind.wrap IntKind.i64
                      ((48 : Int) + Int.tmod (IntKind.wrap IntKind.i64 (Int.tdiv n (3600 : Int))) (10 : Int)))),
                AV.imm
                  (IV.int IntKind.u8
                    (IntKind.wrap IntKind.u8
                      (IntKind.wrap IntKind.i64
                        ((48 : Int) + Int.tmod (IntKind.wrap IntKind.i64 (Int.tdiv n (3600 : Int))) (10 : Int))))),
                AV.full
                  (IV.bytes
                    (List.map u8
                      [IntKind.wrap IntKind.u8
                          (IntKind.wrap IntKind.i64
                            ((48 : Int) + Int.tmod (IntKind.wrap IntKind.i64 (Int.tdiv n (3600 : Int))) (10 : Int)))])),
                AV.imm
                  (IV.str
                    (List.map u8
                      [IntKind.wrap IntKind.u8
                          (IntKind.wrap IntKind.i64
                            ((48 : Int) + Int.tmod (IntKind.wrap IntKind.i64 (Int.tdiv n (3600 : Int))) (10 : Int)))])),
                AV.imm
                  (IV.str
                    (s ++
                      List.map u8
                        [IntKind.wrap IntKind.u8
                            (IntKind.wrap IntKind.i64
                              ((48 : Int) +
                                Int.tmod (IntKind.wrap IntKind.i64 (Int.tdiv n (3600 : Int))) (10 : Int)))])),
                t (34 : Nat), t (35 : Nat), t (36 : Nat), t (37 : Nat), t (38 : Nat), t (39 : Nat), t (40 : Nat),
                t (41 : Nat), t (42 : Nat), t (43 : Nat), t (44 : Nat), t (45 : Nat), t (46 : Nat), t (47 : Nat),
                t (48 : Nat), t (49 : Nat), t (50 : Nat), t (51 : Nat), t (52 : Nat), t (53 : Nat)]
              [] (0 : Nat) [])))) := by kernel_rfl
theorem f14_c (n : Int) (s : List
  UInt8) (h : Int) (t : Nat →
  AV) (K : List AV →
  Prop) : evCode C3 (c14 [Dir.r, Dir.r, Dir.r, Dir.r, Dir.r, Dir.r, Dir.r]) (S14 n s (i64 h) t) (finK C3 Try.f12 K) =
  ((3600 : Int) ≠ (0 : Int) ∧
  brn (decide (Int.tmod n (3600 : Int) > (0 : Int)))
    (List.length s + List.length [(58 : UInt8)] ≤ (9223372036854775807 : Nat) ∧
      (60 : Int) ≠ (0 : Int) ∧
        (60 : Int) ≠ (0 : Int) ∧
          (0 : Int) ≤ Int.tmod (IntKind.wrap IntKind.i64 (Int.tdiv n (60 : Int))) (60 : Int) ∧
            Int.tmod (IntKind.wrap IntKind.i64 (Int.tdiv n (60 : Int))) (60 : Int) < (100 : Int) ∧
              List.length (s ++ [(58 : UInt8)]) +
                    List.length
                      [dg
                          (Int.toNat (Int.tmod (IntKind.wrap IntKind.i64 (Int.tdiv n (60 : Int))) (60 : Int)) /
                            (10 : Nat)),
                        dg
                          (Int.toNat (Int.tmod (IntKind.wrap IntKind.i64 (Int.tdiv n (60 : Int))) (60 : Int)) %
                            (10 : Nat))] ≤
                  (9223372036854775807 : Nat) ∧
                (60 : Int) ≠ (0 : Int) ∧
                  brn (decide (Int.tmod n (60 : Int) > (0 : Int)))
                    (List.length
                            (s ++ [(58 : UInt8)] ++
                              [dg
                                  (Int.toNat (Int.tmod (IntKind.wrap IntKind.i64 (Int.tdiv n (60 : Int))) (60 : Int)) /
                                    (10 : Nat)),
                                dg
                                  (Int.toNat (Int.tmod (IntKind.wrap IntKind.i64 (Int.tdiv n (60 : Int))) (60 : Int)) %
                                    (10 : Nat))]) +
                          List.length [(58 : UInt8)] ≤
                        (9223372036854775807 : Nat) ∧
                      (60 : Int) ≠ (0 : Int) ∧
                        (0 : Int) ≤ Int.tmod n (60 : Int) ∧
                          Int.tmod n (60 : Int) < (100 : Int) ∧
                            List.length
                                    (s ++ [(58 : UInt8)] ++
                                        [dg
                                            (Int.toNat
                                                (Int.tmod (IntKind.wrap IntKind.i64 (Int.tdiv n (60 : Int)))
                                                  (60 : Int)) /
                                              (10 : Nat)),
                                          dg
                                            (Int.toNat
                                                (Int.tmod (IntKind.wrap IntKind.i64 (Int.tdiv n (60 : Int)))
                                                  (60 : Int)) %
                                              (10 : Nat))] ++
                                      [(58 : UInt8)]) +
                                  List.length
                                    [dg (Int.toNat (Int.tmod n (60 : Int)) / (10 : Nat)),
                                      dg (Int.toNat (Int.tmod n (60 : Int)) % (10 : Nat))] ≤
                                (9223372036854775807 : Nat) ∧
                              K
                                [AV.imm
                                    (IV.str
                                      (s ++ [(58 : UInt8)] ++
                                            [dg
                                                (Int.toNat
                                                    (Int.tmod (IntKind.wrap IntKind.i64 (Int.tdiv n (60 : Int)))
                                                      (60 : Int)) /
                                                  (10 : Nat)),
                                              dg
                                                (Int.toNat
                                                    (Int.tmod (IntKind.wrap IntKind.i64 (Int.tdiv n (60 : Int)))
                                                      (60 : Int)) %
                                                  (10 : Nat))] ++
                                          [(58 : UInt8)] ++
                                        [dg (Int.toNat (Int.tmod n (60 : Int)) / (10 : Nat)),
                                          dg (Int.toNat (Int.tmod n (60 : Int)) % (10 : Nat))]))])
                    (K
                      [AV.imm
                          (IV.str
                            (s ++ [(58 : UInt8)] ++
                              [dg
                                  (Int.toNat (Int.tmod (IntKind.wrap IntKind.i64 (Int.tdiv n (60 : Int))) (60 : Int)) /
                                    (10 : Nat)),
                                dg
                                  (Int.toNat (Int.tmod (IntKind.wrap IntKind.i64 (Int.tdiv n (60 : Int))) (60 : Int)) %
                                    (10 : Nat))]))]))
    ((60 : Int) ≠ (0 : Int) ∧
      brn (decide (Int.tmod n (60 : Int) > (0 : Int)))
        (List.length s + List.length [(58 : UInt8)] ≤ (9223372036854775807 : Nat) ∧
          (60 : Int) ≠ (0 : Int) ∧
            (0 : Int) ≤ Int.tmod n (60 : Int) ∧
              Int.tmod n (60 : Int) < (100 : Int) ∧
                List.length (s ++ [(58 : UInt8)]) +
                      List.length
                        [dg (Int.toNat (Int.tmod n (60 : Int)) / (10 : Nat)),
                          dg (Int.toNat (Int.tmod n (60 : Int)) % (10 : Nat))] ≤
                    (9223372036854775807 : Nat) ∧
                  K
                    [AV.imm
                        (IV.str
                          (s ++ [(58 : UInt8)] ++
                            [dg (Int.toNat (Int.tmod n (60 : Int)) / (10 : Nat)),
                              dg (Int.toNat (Int.tmod n (60 : Int)) % (10 : Nat))]))])
        (K [AV.imm (IV.str s)]))) := by kernel_rfl
end A8

set_option maxRecDepth 100000
namespace A8
open Go Go.AE Go.Proofs
attribute [local irreducible] loopK evCode evSpec loopB norm finK c14

theorem tdiv3600 (n : Nat) : Int.tdiv (n : Int) 3600 = ((n / 3600 : Nat) : Int) := by simp [Int.tdiv]
theorem tmod3600 (n : Nat) : Int.tmod (n : Int) 3600 = ((n % 3600 : Nat) : Int) := by simp [Int.tmod]
theorem tdiv60 (n : Nat) : Int.tdiv (n : Int) 60 = ((n / 60 : Nat) : Int) := by simp [Int.tdiv]
theorem tmod60 (n : Nat) : Int.tmod (n : Int) 60 = ((n % 60 : Nat) : Int) := by simp [Int.tmod]
theorem two_app (s : List UInt8) (n : Nat) : s ++ [58] ++ [dg (n / 10), dg (n % 10)] = s ++ two n := by simp [two]
def tl (N : Nat) : List UInt8 := (if N % 3600 = 0 then [] else two (N % 3600 / 60)) ++ (if N % 60 = 0 then [] else two (N % 60))
theorem fmtN_eq (N : Nat) : fmtN N = dd (N / 3600) ++ tl N := by unfold fmtN tl; rw [List.append_assoc]
theorem R7 (N : Nat) (hN : N ≤ 604799) (s : List UInt8) (hs : s.length ≤ 10) (h : Int) (st' : St) (hst : st' = S14 N s (i64 h) (fun j => nth .dead st'.tmps j)) (K : List AV → Prop) (hK : K [st (s ++ tl N)]) :
    evCode C3 (c14 [.r, .r, .r, .r, .r, .r, .r]) st' (finK C3 Try.f12 K) := by
  rw [hst]
  generalize (fun j => nth .dead st'.tmps j) = t
  rw [f14_c]
  have e1 : IntKind.wrap .i64 ((N / 60 : Nat) : Int) = ((N / 60 : Nat) : Int) := wrap64 (by omega) (by omega)
  simp only [tdiv60, tmod60, tmod3600, e1, Int.toNat_natCast]
  unfold tl at hK
  refine ⟨by decide, brn_intro (fun h1 => ?_) (fun h1 => ?_)⟩
  · have h1' : ¬ N % 3600 = 0 := by simp only [decide_eq_true_eq] at h1; omega
    rw [if_neg h1'] at hK
    refine ⟨by simp; omega, by decide, by decide, by omega, by omega, by simp; omega, by decide, brn_intro (fun h2 => ?_) (fun h2 => ?_)⟩
    · have h2' : ¬ N % 60 = 0 := by simp only [decide_eq_true_eq] at h2; omega
      rw [if_neg h2'] at hK
      refine ⟨by simp; omega, by decide, by omega, by omega, by simp; omega, ?_⟩
      rw [two_app, two_app, List.append_assoc, show N / 60 % 60 = N % 3600 / 60 by omega]
      exact hK
    · have h2' : N % 60 = 0 := by simp only [decide_eq_false_iff_not] at h2; omega
      rw [if_pos h2', List.append_nil] at hK
      rw [two_app, show N / 60 % 60 = N % 3600 / 60 by omega]
      exact hK
  · have h1' : N % 3600 = 0 := by simp only [decide_eq_false_iff_not] at h1; omega
    refine ⟨by decide, brn_intro (fun h2 => by simp only [decide_eq_true_eq] at h2; omega) (fun h2 => ?_)⟩
    have h2' : N % 60 = 0 := by omega
    rw [if_pos h1', if_pos h2', List.append_nil, List.append_nil] at hK
    exact hK
theorem R3 (N : Nat) (hN : N ≤ 604799) (s : List UInt8) (hs : s.length ≤ 1) (st' : St) (hst : st' = S14 N s .dead (fun j => nth .dead st'.tmps j)) (K : List AV → Prop) (hK : K [st (s ++ fmtN N)]) :
    evCode C3 (c14 [.r, .r, .r]) st' (finK C3 Try.f12 K) := by
  have cut : ∀ st', evCode C3 (c14 [.r, .r, .r]) st' (finK C3 Try.f12 K) = evCode C3 a14 st' (fun x st => match x with
    | .normal => evCode C3 (c14 [.r, .r, .r, .r, .r, .r, .r]) st (finK C3 Try.f12 K)
    | x => finK C3 Try.f12 K x st) := fun st' => by kernel_rfl
  rw [cut, hst]
  generalize (fun j => nth .dead st'.tmps j) = t
  rw [f14_a]
  rw [fmtN_eq, ← List.append_assoc] at hK
  have hH : N / 3600 ≤ 167 := by omega
  have e1 : IntKind.wrap .i64 ((N / 3600 : Nat) : Int) = ((N / 3600 : Nat) : Int) := wrap64 (by omega) (by omega)
  simp only [tdiv3600, e1]
  generalize N / 3600 = H at hH hK
  have e2 : IntKind.wrap .i64 ((H / 10 : Nat) : Int) = ((H / 10 : Nat) : Int) := wrap64 (by omega) (by omega)
  have e3 : IntKind.wrap .u8 (IntKind.wrap .i64 (48 + ((H / 10 % 10 : Nat) : Int))) = ((48 + H / 10 % 10 : Nat) : Int) := by
    rw [wrap64 (by omega) (by omega), wrap8 (by omega) (by omega)]; omega
  have e4 : IntKind.wrap .u8 (IntKind.wrap .i64 (48 + ((H % 10 : Nat) : Int))) = ((48 + H % 10 : Nat) : Int) := by
    rw [wrap64 (by omega) (by omega), wrap8 (by omega) (by omega)]; omega
  simp only [tdiv10, tmod10, e2, e3, e4, List.map_cons, List.map_nil, u8_dg (show H / 10 % 10 < 10 by omega), u8_dg (show H % 10 < 10 by omega)]
  unfold dd at hK
  refine ⟨by decide, brn_intro (fun h1 => ?_) (fun h1 => ?_)⟩
  · simp only [decide_eq_true_eq] at h1
    refine ⟨by simp; omega, brn_intro (fun h2 => ?_) (fun h2 => ?_)⟩
    · refine ⟨by decide, by decide, by simp; omega, by decide, by simp; omega, ?_⟩
      rw [if_neg (by omega), if_neg (by omega)] at hK
      refine R7 N hN (s ++ [49] ++ [dg (H / 10 % 10)] ++ [dg (H % 10)]) (by simp; omega) (H : Int) _ (by kernel_rfl) K ?_
      have : H / 100 = 1 := by omega
      rw [this] at hK
      simpa [dg] using hK
    · simp only [decide_eq_false_iff_not] at h2; omega
  · simp only [decide_eq_false_iff_not] at h1
    refine brn_intro (fun h2 => ?_) (fun h2 => ?_)
    · simp only [decide_eq_true_eq] at h2
      refine ⟨by decide, by decide, by simp; omega, by decide, by simp; omega, ?_⟩
      rw [if_neg (by omega), if_pos (by omega)] at hK
      refine R7 N hN (s ++ [dg (H / 10 % 10)] ++ [dg (H % 10)]) (by simp; omega) (H : Int) _ (by kernel_rfl) K ?_
      rw [show H / 10 % 10 = H / 10 by omega]
      simpa using hK
    · simp only [decide_eq_false_iff_not] at h2
      refine ⟨by decide, by simp; omega, ?_⟩
      rw [if_pos (by omega)] at hK
      refine R7 N hN (s ++ [dg (H % 10)]) (by simp; omega) (H : Int) _ (by kernel_rfl) K ?_
      rw [show H % 10 = H by omega]
      exact hK
theorem f14_ev (n : Int) (h0 : -604799 ≤ n) (h1 : n ≤ 604799) (K : List AV → Prop) (hK : K [st (fmt n)]) : evSpec C3 Try.f12 [.imm (.int .i64 n)] K := by
  have cut : evSpec C3 Try.f12 [.imm (.int .i64 n)] K = evCode C3 (c14 [.r, .r, .l]) (S14 n [] .dead (fun _ => .dead)) (fun x st => match x with
    | .normal => evCode C3 (c14 [.r, .r, .r]) st (finK C3 Try.f12 K)
    | x => finK C3 Try.f12 K x st) := by kernel_rfl
  rw [cut, f14_b]
  unfold fmt at hK
  refine brn_intro (fun h => ?_) (fun h => ?_)
  · simp only [decide_eq_true_eq] at h
    have e : IntKind.wrap .i64 (0 - n) = (n.natAbs : Int) := by rw [wrap64 (by omega) (by omega)]; omega
    rw [if_pos h] at hK
    rw [e]
    exact R3 n.natAbs (by omega) [45] (by simp) _ (by kernel_rfl) K hK
  · simp only [decide_eq_false_iff_not] at h
    rw [if_neg h] at hK
    have e : n = (n.natAbs : Int) := by omega
    rw [e]
    refine R3 n.natAbs (by omega) [] (by simp) _ (by kernel_rfl) K ?_
    exact hK
theorem ok14 : ∀ args pres res, sFmt args = some (pres, res) → SpecOK Try.prog G8 12 args pres res := by
  intro args pres res h
  unfold sFmt at h
  split at h
  case h_2 => cases h
  cases h
  rename_i n
  refine mk okE3 at14 (by decide) rfl (fun hp K hK => ?_)
  exact f14_ev n (hp _ (List.mem_cons_self ..)) (hp _ (List.mem_cons_of_mem _ (List.mem_cons_self ..))) K hK
theorem okE4 : EOK Try.prog E4 G8 := addE_ok (addE_ok okE3 ok9) ok14
end A8

set_option maxRecDepth 100000
namespace A8
open Go Go.AE Go.Proofs
attribute [local irreducible] loopK evCode evSpec loopB norm finK c14

/-! ### plain laws -/
def fl (r : List UInt8) : Int × Nat := match field r with
  | none => (0, 0)
  | some m => match field (r.drop 3) with
    | none => (60 * (m : Int), 3)
    | some c => (60 * (m : Int) + c, 6)
theorem fieldsP_fl (s : List UInt8) (i : Nat) : fieldsP s i = ((fl (s.drop i)).1, ((i + (fl (s.drop i)).2 : Nat) : Int)) := by
  unfold fieldsP fl
  cases h : field (s.drop i) with
  | none => rfl
  | some m =>
    simp only [List.drop_drop]
    cases field (s.drop (i + 3)) <;> rfl
theorem runD_app {ds r : List UInt8} (hd : ∀ b ∈ ds, isD b = true) (hr : r = [] ∨ isD (r.getD 0 0) = false) : runD (ds ++ r) = ds := by
  unfold runD
  rw [List.takeWhile_append_of_pos hd]
  have : r.takeWhile isD = [] := by
    rcases hr with rfl | hr
    · rfl
    · cases r with
      | nil => rfl
      | cons b r =>
        have hr' : isD b = false := hr
        simp [List.takeWhile_cons, hr']
  rw [this, List.append_nil]
theorem notD_of (b : UInt8) (h : b = 43 ∨ b = 45 ∨ b = 58) : isD b = false := by rcases h with rfl | rfl | rfl <;> decide
theorem parse_comp {p ds r : List UInt8} (hp : p = [] ∨ p = [43] ∨ p = [45]) (hd : ∀ b ∈ ds, isD b = true) (h1 : 1 ≤ ds.length) (h3 : ds.length ≤ 3) (h167 : num ds ≤ 167) (hr : r = [] ∨ isD (r.getD 0 0) = false) :
    parse (p ++ (ds ++ r)) = ((if p = [45] then -1 else 1) * ((num ds : Int) * 3600 + (fl r).1), ((p.length + ds.length + (fl r).2 : Nat) : Int), true) := by
  have hoff : off (p ++ (ds ++ r)) = p.length ∧ sgn (p ++ (ds ++ r)) = if p = [45] then -1 else 1 := by
    rcases hp with rfl | rfl | rfl
    · cases ds with
      | nil => simp at h1
      | cons b ds =>
        have hb := hd b (by simp)
        have n1 : b ≠ 45 := by rintro rfl; exact absurd hb (by decide)
        have n2 : b ≠ 43 := by rintro rfl; exact absurd hb (by decide)
        simp [off, sgn, n1, n2]
    · simp [off, sgn]
    · simp [off, sgn]
  have hdrop : (p ++ (ds ++ r)).drop p.length = ds ++ r := List.drop_left
  have hrun := runD_app hd hr
  unfold parse
  rw [hoff.1, hoff.2]
  have hh : hoursP (p ++ (ds ++ r)) p.length = ((num ds : Int), ((p.length + ds.length : Nat) : Int), true) := by
    unfold hoursP
    rw [hdrop, hrun, if_pos h3]
    simp [h167]
    omega
  rw [hh, if_pos rfl]
  simp only [Int.toNat_natCast]
  rw [fieldsP_fl]
  have hdrop2 : (p ++ (ds ++ r)).drop (p.length + ds.length) = r := by
    rw [← List.append_assoc, ← List.length_append]
    exact List.drop_left
  rw [hdrop2]
theorem dg_nat {n : Nat} (h : n < 10) : (dg n).toNat = 48 + n := by
  unfold dg
  simp [UInt8.toNat_ofNat']
  omega
theorem dg_D {n : Nat} (h : n < 10) : isD (dg n) = true := by
  rw [isD_iff, dg_nat h]
  omega
theorem dg_v {n : Nat} (h : n < 10) : dv (dg n) = n := by
  unfold dv
  rw [dg_nat h]
  omega
theorem dd_ok {n : Nat} (h : n < 1000) : (∀ b ∈ dd n, isD b = true) ∧ num (dd n) = n := by
  unfold dd
  split
  · rename_i h1
    refine ⟨fun b hb => ?_, ?_⟩
    · rw [List.mem_singleton.1 hb]; exact dg_D h1
    · simp [num, dg_v h1]
  · split
    · refine ⟨fun b hb => ?_, ?_⟩
      · simp only [List.mem_cons, List.not_mem_nil, or_false] at hb
        rcases hb with rfl | rfl <;> exact dg_D (by omega)
      · simp [num, dg_v (show n / 10 < 10 by omega), dg_v (show n % 10 < 10 by omega)]
        omega
    · refine ⟨fun b hb => ?_, ?_⟩
      · simp only [List.mem_cons, List.not_mem_nil, or_false] at hb
        rcases hb with rfl | rfl | rfl <;> exact dg_D (by omega)
      · simp [num, dg_v (show n / 100 < 10 by omega), dg_v (show n / 10 % 10 < 10 by omega), dg_v (show n % 10 < 10 by omega)]
        omega
theorem field_two {m : Nat} (h : m < 60) (r : List UInt8) : field (two m ++ r) = some m := by
  unfold two field
  simp only [List.cons_append, List.nil_append]
  rw [dg_v (show m / 10 < 10 by omega), dg_v (show m % 10 < 10 by omega), dg_D (show m / 10 < 10 by omega), dg_D (show m % 10 < 10 by omega)]
  rw [if_pos (by simp; omega)]
  congr 1
  omega
theorem field_nil : field [] = none := rfl
theorem fl_tl (N : Nat) : fl (tl N) = (((N % 3600 : Nat) : Int), (tl N).length) := by
  unfold tl
  by_cases h1 : N % 3600 = 0
  · rw [if_pos h1, if_pos (by omega), h1]; rfl
  · rw [if_neg h1]
    unfold fl
    rw [field_two (by omega)]
    have hd : (two (N % 3600 / 60) ++ (if N % 60 = 0 then [] else two (N % 60))).drop 3 = if N % 60 = 0 then [] else two (N % 60) := List.drop_left' (two_len _)
    rw [hd]
    by_cases h2 : N % 60 = 0
    · rw [if_pos h2, field_nil]
      simp only [List.append_nil, two_len, Prod.mk.injEq, and_true]
      omega
    · rw [if_neg h2]
      have := field_two (show N % 60 < 60 by omega) []
      rw [List.append_nil] at this
      rw [this]
      simp only [List.length_append, two_len, Prod.mk.injEq, and_true]
      omega
theorem tl_head (N : Nat) : tl N = [] ∨ isD ((tl N).getD 0 0) = false := by
  unfold tl
  by_cases h1 : N % 3600 = 0
  · rw [if_pos h1, if_pos (by omega)]; exact Or.inl rfl
  · rw [if_neg h1]; right; unfold two; rfl
theorem parse_fmtN {p : List UInt8} (hp : p = [] ∨ p = [43] ∨ p = [45]) {N : Nat} (hN : N ≤ 604799) : parse (p ++ fmtN N) = ((if p = [45] then -1 else 1) * (N : Int), ((p.length + (fmtN N).length : Nat) : Int), true) := by
  have hH : N / 3600 ≤ 167 := by omega
  obtain ⟨hd, hn⟩ := dd_ok (show N / 3600 < 1000 by omega)
  have hl := dd_len (N / 3600)
  rw [fmtN_eq, parse_comp hp hd hl.1 hl.2 (by rw [hn]; exact hH) (tl_head N), fl_tl, hn, List.length_append]
  have e : ((N / 3600 : Nat) : Int) * 3600 + ((N % 3600 : Nat) : Int) = (N : Int) := by omega
  rw [e, Nat.add_assoc]
theorem parse_fmt {n : Int} (h0 : -604799 ≤ n) (h1 : n ≤ 604799) : parse (fmt n) = (n, ((fmt n).length : Int), true) := by
  unfold fmt
  by_cases h : n < 0
  · rw [if_pos h]
    have := parse_fmtN (p := [45]) (Or.inr (Or.inr rfl)) (show n.natAbs ≤ 604799 by omega)
    rw [if_pos rfl] at this
    rw [show 45 :: fmtN n.natAbs = [45] ++ fmtN n.natAbs from rfl, this, List.length_append]
    have e : -1 * (n.natAbs : Int) = n := by omega
    rw [e]
  · rw [if_neg h]
    have := parse_fmtN (p := []) (Or.inl rfl) (show n.natAbs ≤ 604799 by omega)
    rw [if_neg (by simp)] at this
    rw [show fmtN n.natAbs = [] ++ fmtN n.natAbs from rfl, this]
    have e : 1 * (n.natAbs : Int) = n := by omega
    rw [e]
    simp
theorem fmt_inj {n m : Int} (h0 : -604799 ≤ n) (h1 : n ≤ 604799) (g0 : -604799 ≤ m) (g1 : m ≤ 604799) : fmt n = fmt m ↔ n = m := by
  refine ⟨fun h => ?_, fun h => by rw [h]⟩
  have a := parse_fmt h0 h1
  rw [h, parse_fmt g0 g1] at a
  exact (congrArg Prod.fst a).symm
theorem fmtN_len (N : Nat) (h : N ≤ 604799) : 1 ≤ (fmtN N).length ∧ (fmtN N).length ≤ 9 := by
  rw [fmtN_eq, List.length_append]
  have := dd_len (N / 3600)
  have : (tl N).length ≤ 6 := by
    unfold tl
    rw [List.length_append]
    split <;> split <;> simp only [two_len, List.length_nil] <;> omega
  omega
theorem inRange_iff (n : Int) : inRange n = true ↔ -604799 ≤ n ∧ n ≤ 604799 := by
  unfold inRange
  rw [Bool.and_eq_true, decide_eq_true_iff, decide_eq_true_iff]
end A8

namespace Z09
open Go Go.AE Go.Proofs

/-! ### what the functions of chapter 09 compute -/
def number (s : List UInt8) : Int × Int × Bool := if (A8.runD s).length ≤ 3 then ((A8.num (A8.runD s) : Int), ((A8.runD s).length : Int), decide (0 < (A8.runD s).length)) else (0, 0, false)
def after (s : List UInt8) (i : Nat) (c : UInt8) : Int × Int × Bool := match s.drop i with
  | b :: r => if b = c then ((number r).1, ((i + 1 : Nat) : Int) + (number r).2.1, (number r).2.2) else (0, 0, false)
  | [] => (0, 0, false)
structure D where
  k : Int
  d : Int
  m : Int
  w : Int
  e : Int
  n : Int
  ok : Bool
def noD : D := ⟨0, 0, 0, 0, 0, 0, false⟩
def dateM (s : List UInt8) : D :=
  if (number (s.drop 1)).2.2 then (if (after s ((number (s.drop 1)).2.1.toNat + 1) 46).2.2 then
    ⟨3, 0, (number (s.drop 1)).1, (after s ((number (s.drop 1)).2.1.toNat + 1) 46).1, (after s (after s ((number (s.drop 1)).2.1.toNat + 1) 46).2.1.toNat 46).1, (after s (after s ((number (s.drop 1)).2.1.toNat + 1) 46).2.1.toNat 46).2.1, (after s (after s ((number (s.drop 1)).2.1.toNat + 1) 46).2.1.toNat 46).2.2⟩
    else noD) else noD
def date (s : List UInt8) : D := match s with
  | [] => noD
  | b :: r => if b = 74 then ⟨1, (number r).1, 0, 0, 0, (number r).2.1 + 1, (number r).2.2⟩ else if b = 77 then dateM s else ⟨2, (number s).1, 0, 0, 0, (number s).2.1, (number s).2.2⟩
def validDay (k d m w e t : Int) : Bool := decide (-604799 ≤ t) && decide (t ≤ 604799) &&
  ((k == 1 || k == 2) && (m == 0) && (w == 0) && (e == 0) && decide (0 ≤ d) && decide (d ≤ 365) && (k == 2 || decide (0 < d)) || (k == 3) && (d == 0) && decide (1 ≤ m) && decide (m ≤ 12) && decide (1 ≤ w) && decide (w ≤ 5) && decide (0 ≤ e) && decide (e < 7))
structure Dy where
  k : Int
  d : Int
  m : Int
  w : Int
  e : Int
  t : Int
  n : Int
  ok : Bool
def noDy : Dy := ⟨0, 0, 0, 0, 0, 0, 0, false⟩
/-- Is there a time? -/
def slash (s : List UInt8) (x : D) : Bool := x.ok && decide (x.n < (s.length : Int)) && (s.getD x.n.toNat 0 == 47)
def dayT (x : D) (t n : Int) (ok : Bool) : Dy := if ok && validDay x.k x.d x.m x.w x.e t then ⟨x.k, x.d, x.m, x.w, x.e, t, n, true⟩ else noDy
def day (s : List UInt8) : Dy :=
  if slash s (date s) then dayT (date s) (A8.parse (s.drop ((date s).n.toNat + 1))).1 ((date s).n + 1 + (A8.parse (s.drop ((date s).n.toNat + 1))).2.1) (A8.parse (s.drop ((date s).n.toNat + 1))).2.2
  else dayT (date s) 7200 (date s).n (date s).ok
def dd (n : Nat) : List UInt8 := A8.dd n
/-- A day with its time, spelt. -/
def dayF (k d m w e t : Int) : List UInt8 := (if k = 1 then 74 :: dd d.toNat else if k = 3 then 77 :: (dd m.toNat ++ (46 :: (dd w.toNat ++ (46 :: dd e.toNat)))) else dd d.toNat) ++ (47 :: A8.fmt t)
def side (n : Int) : Bool := decide (-89999 ≤ n) && decide (n ≤ 89999)

def bo (b : Bool) : AV := .imm (.bool b)
def i64 (n : Int) : AV := .imm (.int .i64 n)
def st (s : List UInt8) : AV := .imm (.str s)
def big : Int := 9223372036854774000
def dayAV (k d m w e t : Int) : AV := .agg [i64 k, i64 d, i64 m, i64 w, i64 e, i64 t]
def sSide : List AV → Option (List Prop × List AV)
  | [.imm (.int .i64 n)] => some ([], [bo (side n)])
  | _ => none
def sNumber : List AV → Option (List Prop × List AV)
  | [.imm (.str s)] => some ([(s.length : Int) ≤ big], [i64 (number s).1, i64 (number s).2.1, bo (number s).2.2])
  | _ => none
def sAfter : List AV → Option (List Prop × List AV)
  | [.imm (.str s), .imm (.int .i64 i), .imm (.int .u8 c)] => some ([(s.length : Int) ≤ big, 0 ≤ i, i ≤ big, 0 ≤ c, c ≤ 255], [i64 (after s i.toNat (u8 c)).1, i64 (after s i.toNat (u8 c)).2.1, bo (after s i.toNat (u8 c)).2.2])
  | _ => none
def sValidDay : List AV → Option (List Prop × List AV)
  | [.agg [.imm (.int .i64 k), .imm (.int .i64 d), .imm (.int .i64 m), .imm (.int .i64 w), .imm (.int .i64 e), .imm (.int .i64 t)]] => some ([], [bo (validDay k d m w e t)])
  | _ => none
def sDd : List AV → Option (List Prop × List AV)
  | [.imm (.int .i64 n)] => some ([0 ≤ n, n < 1000], [st (dd n.toNat)])
  | _ => none
def sDate : List AV → Option (List Prop × List AV)
  | [.imm (.str s)] => some ([(s.length : Int) ≤ big - 10], [dayAV (date s).k (date s).d (date s).m (date s).w (date s).e 0, i64 (date s).n, bo (date s).ok])
  | _ => none
def sDay : List AV → Option (List Prop × List AV)
  | [.imm (.str s)] => some ([(s.length : Int) ≤ big - 20], [dayAV (day s).k (day s).d (day s).m (day s).w (day s).e (day s).t, i64 (day s).n, bo (day s).ok])
  | _ => none
def sDayF : List AV → Option (List Prop × List AV)
  | [.agg [.imm (.int .i64 k), .imm (.int .i64 d), .imm (.int .i64 m), .imm (.int .i64 w), .imm (.int .i64 e), .imm (.int .i64 t)]] => some ([validDay k d m w e t = true], [st (dayF k d m w e t)])
  | _ => none
def G0 : Nat → Option (List AV) := fun _ => none
noncomputable def cx (E : FuncId → List AV → Option (List Prop × List AV)) : Cx := ⟨Try.prog, E, noCall, G0, 0⟩
def F0 := addE (addE A7.E5 29 A8.sParse) 12 A8.sFmt
def F1 := addE (addE (addE (addE (addE F0 22 sSide) 34 sNumber) 23 sValidDay) 11 sValidDay) 27 sDd
def F2 := addE F1 35 sAfter
def F3 := addE F2 28 sDate
def F4 := addE (addE F3 15 sDay) 14 sDayF
noncomputable def C0 : Cx := cx F0
noncomputable def C1 : Cx := cx F1
noncomputable def C2 : Cx := cx F2
noncomputable def C3 : Cx := cx F3
noncomputable def C4 : Cx := cx F4
def h34 (s : List UInt8) (v n : Int) : St := ⟨lapp [st s, .dead, i64 0, i64 0, bo false, i64 v, i64 n] (lrepl 32 .dead), [], 0, []⟩
/-! ### rules -/
def ruleAV (a : List UInt8) (o : Int) (h : Bool) (b : List UInt8) (p : Int) (k d m w e t k' d' m' w' e' t' : Int) : AV :=
  .agg [st a, i64 o, bo h, st b, i64 p, i64 k, i64 d, i64 m, i64 w, i64 e, i64 t, i64 k', i64 d', i64 m', i64 w', i64 e', i64 t']
def validRule (a : List UInt8) (o : Int) (h : Bool) (b : List UInt8) (p : Int) (k d m w e t k' d' m' w' e' t' : Int) : Bool :=
  A7.valid a && side o && (if h then A7.valid b && side p && validDay k d m w e t && validDay k' d' m' w' e' t'
    else decide (b = []) && (p == 0) && (k == 0) && (d == 0) && (m == 0) && (w == 0) && (e == 0) && (t == 0) && (k' == 0) && (d' == 0) && (m' == 0) && (w' == 0) && (e' == 0) && (t' == 0))
def sValidRule : List AV → Option (List Prop × List AV)
  | [.agg [.imm (.str a), .imm (.int .i64 o), .imm (.bool h), .imm (.str b), .imm (.int .i64 p), .imm (.int .i64 k), .imm (.int .i64 d), .imm (.int .i64 m), .imm (.int .i64 w), .imm (.int .i64 e), .imm (.int .i64 t), .imm (.int .i64 k'), .imm (.int .i64 d'), .imm (.int .i64 m'), .imm (.int .i64 w'), .imm (.int .i64 e'), .imm (.int .i64 t')]] =>
    some ([a.length ≤ 9223372036854775807, b.length ≤ 9223372036854775807], [bo (validRule a o h b p k d m w e t k' d' m' w' e' t')])
  | _ => none
def F5 := addE F4 9 sValidRule
noncomputable def inlF : FuncId → Option Func := fun f => bif Nat.beq f 17 then some Try.f17 else bif Nat.beq f 18 then some Try.f18 else bif Nat.beq f 19 then some Try.f19 else bif Nat.beq f 20 then some Try.f20 else bif Nat.beq f 31 then some Try.f31 else bif Nat.beq f 32 then some Try.f32 else none
noncomputable def C5 : Cx := ⟨Try.prog, F5, inl inlF Try.prog F5 G0 0 4, G0, 0⟩
noncomputable def c8 : List Dir → Code := fun p => codeAt p (bodyOf Try.f8)
noncomputable def a8 : Code := .seq (c8 [.l]) (c8 [.r, .l])
def e8 (s : List UInt8) : St := ⟨lapp [st s] (lrepl 39 .dead), [], 0, []⟩
def zRule : List AV := [st [], i64 0, bo false, st [], i64 0, i64 0, i64 0, i64 0, i64 0, i64 0, i64 0, i64 0, i64 0, i64 0, i64 0, i64 0, i64 0]
def S8b (s : List UInt8) : St := ⟨lapp [st s, .dead, .ptr 0 0, .ptr 1 0, .ptr 2 0, .ptr 3 0, st s, .agg [st s, i64 0], .ptr 3 0, .fn 16 [] [.ptr 0 0, .ptr 1 0, .ptr 2 0]] (lrepl 30 .dead),
  [(0, ⟨true, 0, .cells zRule⟩), (1, ⟨true, 0, .cells [i64 0]⟩), (2, ⟨true, 0, .cells [i64 0]⟩), (3, ⟨true, 0, .cells [st s, i64 0]⟩)], 4, []⟩
/-- While the rule is parsed: the string, the place, the standard part. -/
def tl8 (t : Nat → AV) (n : Nat) : List AV := lmap t (ldrop 10 (upto n []))
def o8 (s : List UInt8) (i : Int) (R : List AV) : List (Nat × Ob) := [(0, ⟨true, 0, .cells R⟩), (1, ⟨true, 0, .cells [i64 0]⟩), (2, ⟨true, 0, .cells [i64 0]⟩), (3, ⟨true, 0, .cells [st s, i64 i]⟩)]
def R8 (a : List UInt8) (o : Int) : List AV := [st a, i64 o, bo false, st [], i64 0, i64 0, i64 0, i64 0, i64 0, i64 0, i64 0, i64 0, i64 0, i64 0, i64 0, i64 0, i64 0]
/-- The results' cells, kept among the waiting temporaries: a ghost. -/
def P3 : List AV := [.ptr 0 0, .ptr 1 0, .ptr 2 0]
def S8 (s : List UInt8) (i : Int) (R : List AV) (x y z : AV) (t : Nat → AV) : St := ⟨lapp [st s, .dead, .ptr 0 0, .ptr 1 0, .ptr 2 0, .ptr 3 0, x, y, z, .fn 16 [] [.ptr 0 0, .ptr 1 0, .ptr 2 0]] (tl8 t 40), o8 s i R, 4, P3⟩
noncomputable def c19 : List Dir → Code := fun p => codeAt p (bodyOf Try.f19)
def R17 (a : List UInt8) (o : Int) (h : Bool) (b : List UInt8) (p k d m w e t k' d' m' w' e' t' : Int) : List AV :=
  [st a, i64 o, bo h, st b, i64 p, i64 k, i64 d, i64 m, i64 w, i64 e, i64 t, i64 k', i64 d', i64 m', i64 w', i64 e', i64 t']
def S19 (s : List UInt8) (i : Int) (R0 R R2 : List AV) (x y : AV) (OUT : List AV) (t : Nat → AV) : St :=
  ⟨lapp [.ptr 3 0, x, y, .ptr 4 0, .ptr 5 0] (lmap t (ldrop 5 (upto 45 []))), lapp (o8 s i R0) [(4, ⟨true, 0, .cells R⟩), (5, ⟨true, 0, .cells R2⟩)], 6, OUT⟩
def S19b (s : List UInt8) (i : Int) (R0 R R2 : List AV) (x y : AV) (OUT : List AV) (X Y : List AV) (t : Nat → AV) : St :=
  ⟨lapp [.ptr 3 0, x, y, .ptr 4 0, .ptr 5 0] (lmap t (ldrop 5 (upto 45 []))), lapp (o8 s i R0) [(4, ⟨true, 0, .cells R⟩), (5, ⟨true, 0, .cells R2⟩), (6, ⟨true, 0, .cells X⟩), (7, ⟨true, 0, .cells Y⟩)], 8, OUT⟩
def S19c (s : List UInt8) (i : Int) (R0 R R2 : List AV) (x y : AV) (OUT : List AV) (X Y Z W : List AV) (t : Nat → AV) : St :=
  ⟨lapp [.ptr 3 0, x, y, .ptr 4 0, .ptr 5 0] (lmap t (ldrop 5 (upto 45 []))), lapp (o8 s i R0) [(4, ⟨true, 0, .cells R⟩), (5, ⟨true, 0, .cells R2⟩), (6, ⟨true, 0, .cells X⟩), (7, ⟨true, 0, .cells Y⟩), (8, ⟨true, 0, .cells Z⟩), (9, ⟨true, 0, .cells W⟩)], 10, OUT⟩
def S8c (s : List UInt8) (i : Int) (R : List AV) (x y z : AV) (R4 R5 X Y Z W : List AV) (t : Nat → AV) : St :=
  ⟨lapp [st s, .dead, .ptr 0 0, .ptr 1 0, .ptr 2 0, .ptr 3 0, x, y, z, .fn 16 [] [.ptr 0 0, .ptr 1 0, .ptr 2 0]] (tl8 t 40),
    lapp (o8 s i R) [(4, ⟨true, 0, .cells R4⟩), (5, ⟨true, 0, .cells R5⟩), (6, ⟨true, 0, .cells X⟩), (7, ⟨true, 0, .cells Y⟩), (8, ⟨true, 0, .cells Z⟩), (9, ⟨true, 0, .cells W⟩)], 10, P3⟩
noncomputable def c16 : List Dir → Code := fun p => codeAt p (bodyOf Try.f16)
noncomputable def C16 : Cx := ⟨Try.prog, noE, noCall, G0, 0⟩
def nilV : AV := .imm (.val .nilIface)
/-- The deferred closure, behind its recover. -/
def E16 (R : List AV) (X : AV) : St := ⟨lapp [.ptr 0 0, .ptr 1 0, .ptr 2 0, X, .dead, .dead, X] (lrepl 12 .dead), [(0, ⟨true, 0, .cells R⟩), (1, ⟨true, 0, .cells [i64 0]⟩), (2, ⟨true, 0, .cells [i64 0]⟩)], 3, P3⟩
noncomputable def C4i : Cx := ⟨Try.prog, F5, inl inlF Try.prog F5 G0 0 3, G0, 0⟩
end Z09

set_option maxRecDepth 100000
namespace Z09
open Go Go.AE Go.Proofs
attribute [local irreducible] loopK evCode evSpec loopB norm
theorem f22_in (n : Int) (K : List AV → Prop) : evSpec C0 Try.f22 [AV.imm (IV.int IntKind.i64 n)] K =
  (K [AV.imm (IV.bool (decide (n ≥ (-89999 : Int)) && decide (n ≤ (89999 : Int))))]) := by kernel_rfl
theorem f34_in (s : List UInt8) (K : List AV → Prop) : evSpec C0 Try.f34 [AV.imm (IV.str s)] K =
  (LoopI C0 (bodyOf Try.f34) (0 : Nat)
  (St.mk
    [AV.imm (IV.str s), AV.dead, AV.imm (IV.int IntKind.i64 (0 : Int)), AV.imm (IV.int IntKind.i64 (0 : Int)),
      AV.imm (IV.bool false), AV.imm (IV.int IntKind.i64 (0 : Int)), AV.imm (IV.int IntKind.i64 (0 : Int)), AV.dead,
      AV.dead, AV.dead, AV.dead, AV.dead, AV.dead, AV.dead, AV.dead, AV.dead, AV.dead, AV.dead, AV.dead, AV.dead,
      AV.dead, AV.dead, AV.dead, AV.dead, AV.dead, AV.dead, AV.dead, AV.dead, AV.dead, AV.dead, AV.dead, AV.dead,
      AV.dead, AV.dead, AV.dead, AV.dead, AV.dead, AV.dead, AV.dead]
    [] (0 : Nat) [])
  (finK C0 Try.f34 K)) := by kernel_rfl
theorem f34_lp (s : List
  UInt8) (v : Int) (n : Int) (k : AX → St → Prop) : evCode C0 (loopB (bodyOf Try.f34) (0 : Nat)) (h34 s v n) k =
  ((decide (n < (↑(List.length s) : Int)) = true → (0 : Int) ≤ n) ∧
  (decide (n < (↑(List.length s) : Int)) = true → n < (↑(List.length s) : Int)) ∧
    ((decide (n < (↑(List.length s) : Int)) &&
            decide ((↑(UInt8.toNat (List.getD s (Int.toNat n) (0 : UInt8))) : Int) ≥ (48 : Int))) =
          true →
        (0 : Int) ≤ n) ∧
      ((decide (n < (↑(List.length s) : Int)) &&
              decide ((↑(UInt8.toNat (List.getD s (Int.toNat n) (0 : UInt8))) : Int) ≥ (48 : Int))) =
            true →
          n < (↑(List.length s) : Int)) ∧
        brn
          (decide (n < (↑(List.length s) : Int)) &&
              decide ((↑(UInt8.toNat (List.getD s (Int.toNat n) (0 : UInt8))) : Int) ≥ (48 : Int)) &&
            decide ((↑(UInt8.toNat (List.getD s (Int.toNat n) (0 : UInt8))) : Int) ≤ (57 : Int)))
          (brn (n == (3 : Int))
            (k AX.ret
              (St.mk
                [AV.imm (IV.str s), AV.dead, AV.imm (IV.int IntKind.i64 (0 : Int)),
                  AV.imm (IV.int IntKind.i64 (0 : Int)), AV.imm (IV.bool false), AV.imm (IV.int IntKind.i64 v),
                  AV.imm (IV.int IntKind.i64 n), AV.imm (IV.int IntKind.i64 n), AV.imm (IV.str s),
                  AV.imm (IV.int IntKind.i64 (↑(List.length s) : Int)),
                  AV.imm (IV.bool (decide (n < (↑(List.length s) : Int)))),
                  AV.imm (IV.bool (decide (n < (↑(List.length s) : Int)))),
                  AV.opt [((11 : Nat), true)] (AV.imm (IV.str s)),
                  AV.opt [((11 : Nat), true)] (AV.imm (IV.int IntKind.i64 n)),
                  AV.opt [((11 : Nat), true)]
                    (AV.imm (IV.int IntKind.u8 (↑(UInt8.toNat (List.getD s (Int.toNat n) (0 : UInt8))) : Int))),
                  AV.opt [((11 : Nat), true)]
                    (AV.imm
                      (IV.bool (decide ((↑(UInt8.toNat (List.getD s (Int.toNat n) (0 : UInt8))) : Int) ≥ (48 : Int))))),
                  AV.imm
                    (IV.bool
                      (decide (n < (↑(List.length s) : Int)) &&
                        decide ((↑(UInt8.toNat (List.getD s (Int.toNat n) (0 : UInt8))) : Int) ≥ (48 : Int)))),
                  AV.imm
                    (IV.bool
                      (decide (n < (↑(List.length s) : Int)) &&
                        decide ((↑(UInt8.toNat (List.getD s (Int.toNat n) (0 : UInt8))) : Int) ≥ (48 : Int)))),
                  AV.opt [((17 : Nat), true)] (AV.imm (IV.str s)),
                  AV.opt [((17 : Nat), true)] (AV.imm (IV.int IntKind.i64 n)),
                  AV.opt [((17 : Nat), true)]
                    (AV.imm (IV.int IntKind.u8 (↑(UInt8.toNat (List.getD s (Int.toNat n) (0 : UInt8))) : Int))),
                  AV.opt [((17 : Nat), true)]
                    (AV.imm
                      (IV.bool (decide ((↑(UInt8.toNat (List.getD s (Int.toNat n) (0 : UInt8))) : Int) ≤ (57 : Int))))),
                  AV.imm
                    (IV.bool
                      (decide (n < (↑(List.length s) : Int)) &&
                          decide ((↑(UInt8.toNat (List.getD s (Int.toNat n) (0 : UInt8))) : Int) ≥ (48 : Int)) &&
                        decide ((↑(UInt8.toNat (List.getD s (Int.toNat n) (0 : UInt8))) : Int) ≤ (57 : Int)))),
                  AV.imm (IV.int IntKind.i64 n), AV.imm (IV.bool (n == (3 : Int))), AV.dead, AV.dead, AV.dead, AV.dead,
                  AV.dead, AV.dead, AV.dead, AV.dead, AV.dead, AV.dead, AV.dead, AV.dead, AV.dead, AV.dead]
                [] (0 : Nat) []))
            ((0 : Int) ≤ n ∧
              n < (↑(List.length s) : Int) ∧
                k AX.normal
                  (St.mk
                    [AV.imm (IV.str s), AV.dead, AV.imm (IV.int IntKind.i64 (0 : Int)),
                      AV.imm (IV.int IntKind.i64 (0 : Int)), AV.imm (IV.bool false),
                      AV.imm
                        (IV.int IntKind.i64
                          (IntKind.wrap IntKind.i64
                            (IntKind.wrap IntKind.i64 (v * (10 : Int)) +
                              IntKind.wrap IntKind.i64
                                (IntKind.wrap IntKind.u8
                                  ((↑(UInt8.toNat (List.getD s (Int.toNat n) (0 : UInt8))) : Int) - (48 : Int)))))),
                      AV.imm (IV.int IntKind.i64 (IntKind.wrap IntKind.i64 (n + (1 : Int)))),
                      AV.imm (IV.int IntKind.i64 n), AV.imm (IV.str s),
                      AV.imm (IV.int IntKind.i64 (↑(List.length s) : Int)),
                      AV.imm (IV.bool (decide (n < (↑(List.length s) : Int)))),
                      AV.imm (IV.bool (decide (n < (↑(List.length s) : Int)))),
                      AV.opt [((11 : Nat), true)] (AV.imm (IV.str s)),
                      AV.opt [((11 : Nat), true)] (AV.imm (IV.int IntKind.i64 n)),
                      AV.opt [((11 : Nat), true)]
                        (AV.imm (IV.int IntKind.u8 (↑(UInt8.toNat (List.getD s (Int.toNat n) (0 : UInt8))) : Int))),
                      AV.opt [((11 : Nat), true)]
                        (AV.imm
                          (IV.bool
                            (decide ((↑(UInt8.toNat (List.getD s (Int.toNat n) (0 : UInt8))) : Int) ≥ (48 : Int))))),
                      AV.imm
                        (IV.bool
                          (decide (n < (↑(List.length s) : Int)) &&
                            decide ((↑(UInt8.toNat (List.getD s (Int.toNat n) (0 : UInt8))) : Int) ≥ (48 : Int)))),
                      AV.imm
                        (IV.bool
                          (decide (n < (↑(List.length s) : Int)) &&
                            decide ((↑(UInt8.toNat (List.getD s (Int.toNat n) (0 : UInt8))) : Int) ≥ (48 : Int)))),
                      AV.opt [((17 : Nat), true)] (AV.imm (IV.str s)),
                      AV.opt [((17 : Nat), true)] (AV.imm (IV.int IntKind.i64 n)),
                      AV.opt [((17 : Nat), true)]
                        (AV.imm (IV.int IntKind.u8 (↑(UInt8.toNat (List.getD s (Int.toNat n) (0 : UInt8))) : Int))),
                      AV.opt [((17 : Nat), true)]
                        (AV.imm
                          (IV.bool
                            (decide ((↑(UInt8.toNat (List.getD s (Int.toNat n) (0 : UInt8))) : Int) ≤ (57 : Int))))),
                      AV.imm
                        (IV.bool
                          (decide (n < (↑(List.length s) : Int)) &&
                              decide ((↑(UInt8.toNat (List.getD s (Int.toNat n) (0 : UInt8))) : Int) ≥ (48 : Int)) &&
                            decide ((↑(UInt8.toNat (List.getD s (Int.toNat n) (0 : UInt8))) : Int) ≤ (57 : Int)))),
                      AV.imm (IV.int IntKind.i64 n), AV.imm (IV.bool (n == (3 : Int))), AV.imm (IV.int IntKind.i64 v),
                      AV.imm (IV.int IntKind.i64 (IntKind.wrap IntKind.i64 (v * (10 : Int)))), AV.imm (IV.str s),
                      AV.imm (IV.int IntKind.i64 n),
                      AV.imm (IV.int IntKind.u8 (↑(UInt8.toNat (List.getD s (Int.toNat n) (0 : UInt8))) : Int)),
                      AV.imm
                        (IV.int IntKind.u8
                          (IntKind.wrap IntKind.u8
                            ((↑(UInt8.toNat (List.getD s (Int.toNat n) (0 : UInt8))) : Int) - (48 : Int)))),
                      AV.imm
                        (IV.int IntKind.i64
                          (IntKind.wrap IntKind.i64
                            (IntKind.wrap IntKind.u8
                              ((↑(UInt8.toNat (List.getD s (Int.toNat n) (0 : UInt8))) : Int) - (48 : Int))))),
                      AV.imm
                        (IV.int IntKind.i64
                          (IntKind.wrap IntKind.i64
                            (IntKind.wrap IntKind.i64 (v * (10 : Int)) +
                              IntKind.wrap IntKind.i64
                                (IntKind.wrap IntKind.u8
                                  ((↑(UInt8.toNat (List.getD s (Int.toNat n) (0 : UInt8))) : Int) - (48 : Int)))))),
                      AV.imm (IV.int IntKind.i64 n),
                      AV.imm (IV.int IntKind.i64 (IntKind.wrap IntKind.i64 (n + (1 : Int)))), AV.dead, AV.dead, AV.dead,
                      AV.dead]
                    [] (0 : Nat) [])))
          (k (AX.exit (0 : Nat))
            (St.mk
              [AV.imm (IV.str s), AV.dead, AV.imm (IV.int IntKind.i64 (0 : Int)), AV.imm (IV.int IntKind.i64 (0 : Int)),
                AV.imm (IV.bool false), AV.imm (IV.int IntKind.i64 v), AV.imm (IV.int IntKind.i64 n),
                AV.imm (IV.int IntKind.i64 n), AV.imm (IV.str s), AV.imm (IV.int IntKind.i64 (↑(List.length s) : Int)),
                AV.imm (IV.bool (decide (n < (↑(List.length s) : Int)))),
                AV.imm (IV.bool (decide (n < (↑(List.length s) : Int)))),
                AV.opt [((11 : Nat), true)] (AV.imm (IV.str s)),
                AV.opt [((11 : Nat), true)] (AV.imm (IV.int IntKind.i64 n)),
                AV.opt [((11 : Nat), true)]
                  (AV.imm (IV.int IntKind.u8 (↑(UInt8.toNat (List.getD s (Int.toNat n) (0 : UInt8))) : Int))),
                AV.opt [((11 : Nat), true)]
                  (AV.imm
                    (IV.bool (decide ((↑(UInt8.toNat (List.getD s (Int.toNat n) (0 : UInt8))) : Int) ≥ (48 : Int))))),
                AV.imm
                  (IV.bool
                    (decide (n < (↑(List.length s) : Int)) &&
                      decide ((↑(UInt8.toNat (List.getD s (Int.toNat n) (0 : UInt8))) : Int) ≥ (48 : Int)))),
                AV.imm
                  (IV.bool
                    (decide (n < (↑(List.length s) : Int)) &&
                      decide ((↑(UInt8.toNat (List.getD s (Int.toNat n) (0 : UInt8))) : Int) ≥ (48 : Int)))),
                AV.opt [((17 : Nat), true)] (AV.imm (IV.str s)),
                AV.opt [((17 : Nat), true)] (AV.imm (IV.int IntKind.i64 n)),
                AV.opt [((17 : Nat), true)]
                  (AV.imm (IV.int IntKind.u8 (↑(UInt8.toNat (List.getD s (Int.toNat n) (0 : UInt8))) : Int))),
                AV.opt [((17 : Nat), true)]
                  (AV.imm
                    (IV.bool (decide ((↑(UInt8.toNat (List.getD s (Int.toNat n) (0 : UInt8))) : Int) ≤ (57 : Int))))),
                AV.imm
                  (IV.bool
                    (decide (n < (↑(List.length s) : Int)) &&
                        decide ((↑(UInt8.toNat (List.getD s (Int.toNat n) (0 : UInt8))) : Int) ≥ (48 : Int)) &&
                      decide ((↑(UInt8.toNat (List.getD s (Int.toNat n) (0 : UInt8))) : Int) ≤ (57 : Int)))),
                AV.dead, AV.dead, AV.dead, AV.dead, AV.dead, AV.dead, AV.dead, AV.dead, AV.dead, AV.dead, AV.dead,
                AV.dead, AV.dead, AV.dead, AV.dead, AV.dead]
              [] (0 : Nat) []))) := by kernel_rfl
theorem f23_in (k : Int) (d : Int) (m : Int) (w : Int) (e : Int) (t : Int) (K : List AV →
  Prop) : evSpec C0 Try.f23 [dayAV k d m w e t] K =
  (brn (decide (t < (-604799 : Int)) || decide (t > (604799 : Int))) (K [AV.imm (IV.bool false)])
  (brn (k == (1 : Int))
    (brn (k == (1 : Int))
      (K
        [AV.imm
            (IV.bool
              (m == (0 : Int) && w == (0 : Int) && e == (0 : Int) && decide (d ≥ (0 : Int)) &&
                  decide (d ≤ (365 : Int)) &&
                (k == (2 : Int) || decide (d > (0 : Int)))))])
      (brn (k == (3 : Int))
        (K
          [AV.imm
              (IV.bool
                (d == (0 : Int) && decide (m ≥ (1 : Int)) && decide (m ≤ (12 : Int)) && decide (w ≥ (1 : Int)) &&
                      decide (w ≤ (5 : Int)) &&
                    decide (e ≥ (0 : Int)) &&
                  decide (e < (7 : Int))))])
        (K [AV.imm (IV.bool false)])))
    (brn (k == (2 : Int))
      (K
        [AV.imm
            (IV.bool
              (m == (0 : Int) && w == (0 : Int) && e == (0 : Int) && decide (d ≥ (0 : Int)) &&
                  decide (d ≤ (365 : Int)) &&
                (k == (2 : Int) || decide (d > (0 : Int)))))])
      (brn (k == (3 : Int))
        (K
          [AV.imm
              (IV.bool
                (d == (0 : Int) && decide (m ≥ (1 : Int)) && decide (m ≤ (12 : Int)) && decide (w ≥ (1 : Int)) &&
                      decide (w ≤ (5 : Int)) &&
                    decide (e ≥ (0 : Int)) &&
                  decide (e < (7 : Int))))])
        (K [AV.imm (IV.bool false)]))))) := by kernel_rfl
theorem f11_in (k : Int) (d : Int) (m : Int) (w : Int) (e : Int) (t : Int) (K : List AV →
  Prop) : evSpec C0 Try.f11 [dayAV k d m w e t] K =
  (brn (decide (t < (-604799 : Int)) || decide (t > (604799 : Int))) (K [AV.imm (IV.bool false)])
  (brn (k == (1 : Int))
    (K
      [AV.imm
          (IV.bool
            (decide (d ≥ (1 : Int)) && decide (d ≤ (365 : Int)) && m == (0 : Int) && w == (0 : Int) &&
              e == (0 : Int)))])
    (brn (k == (2 : Int))
      (K
        [AV.imm
            (IV.bool
              (decide (d ≥ (0 : Int)) && decide (d ≤ (365 : Int)) && m == (0 : Int) && w == (0 : Int) &&
                e == (0 : Int)))])
      (K
        [AV.imm
            (IV.bool
              (k == (3 : Int) && d == (0 : Int) && decide (m ≥ (1 : Int)) && decide (m ≤ (12 : Int)) &&
                      decide (w ≥ (1 : Int)) &&
                    decide (w ≤ (5 : Int)) &&
                  decide (e ≥ (0 : Int)) &&
                decide (e ≤ (6 : Int))))])))) := by kernel_rfl
theorem f27_in (n : Int) (K : List AV → Prop) : evSpec C0 Try.f27 [AV.imm (IV.int IntKind.i64 n)] K =
  (brn (decide (n < (10 : Int)))
  (K [AV.imm (IV.str (List.map u8 [IntKind.wrap IntKind.u8 (IntKind.wrap IntKind.i64 ((48 : Int) + n))]))])
  (brn (decide (n < (100 : Int)))
    ((10 : Int) ≠ (0 : Int) ∧
      (10 : Int) ≠ (0 : Int) ∧
        K
          [AV.imm
              (IV.str
                (List.map u8
                  [IntKind.wrap IntKind.u8
                      (IntKind.wrap IntKind.i64 ((48 : Int) + IntKind.wrap IntKind.i64 (Int.tdiv n (10 : Int)))),
                    IntKind.wrap IntKind.u8 (IntKind.wrap IntKind.i64 ((48 : Int) + Int.tmod n (10 : Int)))]))])
    ((100 : Int) ≠ (0 : Int) ∧
      (10 : Int) ≠ (0 : Int) ∧
        (10 : Int) ≠ (0 : Int) ∧
          (10 : Int) ≠ (0 : Int) ∧
            K
              [AV.imm
                  (IV.str
                    (List.map u8
                      [IntKind.wrap IntKind.u8
                          (IntKind.wrap IntKind.i64 ((48 : Int) + IntKind.wrap IntKind.i64 (Int.tdiv n (100 : Int)))),
                        IntKind.wrap IntKind.u8
                          (IntKind.wrap IntKind.i64
                            ((48 : Int) + Int.tmod (IntKind.wrap IntKind.i64 (Int.tdiv n (10 : Int))) (10 : Int))),
                        IntKind.wrap IntKind.u8
                          (IntKind.wrap IntKind.i64 ((48 : Int) + Int.tmod n (10 : Int)))]))]))) := by kernel_rfl
theorem f35_in (s : List
  UInt8) (i : Int) (c : Int) (K : List AV →
  Prop) : evSpec C1 Try.f35 [AV.imm (IV.str s), AV.imm (IV.int IntKind.i64 i), AV.imm (IV.int IntKind.u8 c)] K =
  ((decide (i ≥ (↑(List.length s) : Int)) = false → (0 : Int) ≤ i) ∧
  (decide (i ≥ (↑(List.length s) : Int)) = false → i < (↑(List.length s) : Int)) ∧
    brn (decide (i ≥ (↑(List.length s) : Int)) || (↑(UInt8.toNat (List.getD s (Int.toNat i) (0 : UInt8))) : Int) != c)
      (K [AV.imm (IV.int IntKind.i64 (0 : Int)), AV.imm (IV.int IntKind.i64 (0 : Int)), AV.imm (IV.bool false)])
      ((0 : Int) ≤ IntKind.wrap IntKind.i64 (i + (1 : Int)) ∧
        IntKind.wrap IntKind.i64 (i + (1 : Int)) ≤ (↑(List.length s) : Int) ∧
          (↑(List.length
                    (List.take (List.length s - Int.toNat (IntKind.wrap IntKind.i64 (i + (1 : Int))))
                      (List.drop (Int.toNat (IntKind.wrap IntKind.i64 (i + (1 : Int)))) s))) :
                Int) ≤
              big ∧
            K
              [AV.imm
                  (IV.int IntKind.i64
                    (Prod.fst
                      (number
                        (List.take (List.length s - Int.toNat (IntKind.wrap IntKind.i64 (i + (1 : Int))))
                          (List.drop (Int.toNat (IntKind.wrap IntKind.i64 (i + (1 : Int)))) s))))),
                AV.imm
                  (IV.int IntKind.i64
                    (IntKind.wrap IntKind.i64
                      (IntKind.wrap IntKind.i64 (i + (1 : Int)) +
                        Prod.fst
                          (Prod.snd
                            (number
                              (List.take (List.length s - Int.toNat (IntKind.wrap IntKind.i64 (i + (1 : Int))))
                                (List.drop (Int.toNat (IntKind.wrap IntKind.i64 (i + (1 : Int)))) s))))))),
                AV.imm
                  (IV.bool
                    (Prod.snd
                      (Prod.snd
                        (number
                          (List.take (List.length s - Int.toNat (IntKind.wrap IntKind.i64 (i + (1 : Int))))
                            (List.drop (Int.toNat (IntKind.wrap IntKind.i64 (i + (1 : Int))))
                              s))))))])) := by kernel_rfl
theorem f28_in (s : List UInt8) (K : List AV → Prop) : evSpec C2 Try.f28 [AV.imm (IV.str s)] K =
  (brn (decide (s = []))
  (K
    [AV.agg
        [AV.imm (IV.int IntKind.i64 (0 : Int)), AV.imm (IV.int IntKind.i64 (0 : Int)),
          AV.imm (IV.int IntKind.i64 (0 : Int)), AV.imm (IV.int IntKind.i64 (0 : Int)),
          AV.imm (IV.int IntKind.i64 (0 : Int)), AV.imm (IV.int IntKind.i64 (0 : Int))],
      AV.imm (IV.int IntKind.i64 (0 : Int)), AV.imm (IV.bool false)])
  ((0 : Int) ≤ (0 : Int) ∧
    (0 : Int) < (↑(List.length s) : Int) ∧
      brn ((↑(UInt8.toNat (List.getD s (Int.toNat (0 : Int)) (0 : UInt8))) : Int) == (74 : Int))
        ((0 : Int) ≤ (1 : Int) ∧
          (1 : Int) ≤ (↑(List.length s) : Int) ∧
            (↑(List.length (List.take (List.length s - Int.toNat (1 : Int)) (List.drop (Int.toNat (1 : Int)) s))) :
                  Int) ≤
                big ∧
              K
                [AV.agg
                    [AV.imm (IV.int IntKind.i64 (1 : Int)),
                      AV.imm
                        (IV.int IntKind.i64
                          (Prod.fst
                            (number
                              (List.take (List.length s - Int.toNat (1 : Int)) (List.drop (Int.toNat (1 : Int)) s))))),
                      AV.imm (IV.int IntKind.i64 (0 : Int)), AV.imm (IV.int IntKind.i64 (0 : Int)),
                      AV.imm (IV.int IntKind.i64 (0 : Int)), AV.imm (IV.int IntKind.i64 (0 : Int))],
                  AV.imm
                    (IV.int IntKind.i64
                      (IntKind.wrap IntKind.i64
                        (Prod.fst
                            (Prod.snd
                              (number
                                (List.take (List.length s - Int.toNat (1 : Int))
                                  (List.drop (Int.toNat (1 : Int)) s)))) +
                          (1 : Int)))),
                  AV.imm
                    (IV.bool
                      (Prod.snd
                        (Prod.snd
                          (number
                            (List.take (List.length s - Int.toNat (1 : Int)) (List.drop (Int.toNat (1 : Int)) s))))))])
        (brn ((↑(UInt8.toNat (List.getD s (Int.toNat (0 : Int)) (0 : UInt8))) : Int) == (77 : Int))
          ((0 : Int) ≤ (1 : Int) ∧
            (1 : Int) ≤ (↑(List.length s) : Int) ∧
              (↑(List.length (List.take (List.length s - Int.toNat (1 : Int)) (List.drop (Int.toNat (1 : Int)) s))) :
                    Int) ≤
                  big ∧
                brn
                  (!Prod.snd
                      (Prod.snd
                        (number (List.take (List.length s - Int.toNat (1 : Int)) (List.drop (Int.toNat (1 : Int)) s)))))
                  (K
                    [AV.agg
                        [AV.imm (IV.int IntKind.i64 (0 : Int)), AV.imm (IV.int IntKind.i64 (0 : Int)),
                          AV.imm (IV.int IntKind.i64 (0 : Int)), AV.imm (IV.int IntKind.i64 (0 : Int)),
                          AV.imm (IV.int IntKind.i64 (0 : Int)), AV.imm (IV.int IntKind.i64 (0 : Int))],
                      AV.imm (IV.int IntKind.i64 (0 : Int)), AV.imm (IV.bool false)])
                  ((↑(List.length s) : Int) ≤ big ∧
                    (0 : Int) ≤
                        IntKind.wrap IntKind.i64
                          (Prod.fst
                              (Prod.snd
                                (number
                                  (List.take (List.length s - Int.toNat (1 : Int))
                                    (List.drop (Int.toNat (1 : Int)) s)))) +
                            (1 : Int)) ∧
                      IntKind.wrap IntKind.i64
                            (Prod.fst
                                (Prod.snd
                                  (number
                                    (List.take (List.length s - Int.toNat (1 : Int))
                                      (List.drop (Int.toNat (1 : Int)) s)))) +
                              (1 : Int)) ≤
                          big ∧
                        (0 : Int) ≤ (46 : Int) ∧
                          (46 : Int) ≤ (255 : Int) ∧
                            brn
                              (!Prod.snd
                                  (Prod.snd
                                    (after s
                                      (Int.toNat
                                        (IntKind.wrap IntKind.i64
                                          (Prod.fst
                                              (Prod.snd
                                                (number
                                                  (List.take (List.length s - Int.toNat (1 : Int))
                                                    (List.drop (Int.toNat (1 : Int)) s)))) +
                                            (1 : Int))))
                                      (u8 (46 : Int)))))
                              (K
                                [AV.agg
                                    [AV.imm (IV.int IntKind.i64 (0 : Int)), AV.imm (IV.int IntKind.i64 (0 : Int)),
                                      AV.imm (IV.int IntKind.i64 (0 : Int)), AV.imm (IV.int IntKind.i64 (0 : Int)),
                                      AV.imm (IV.int IntKind.i64 (0 : Int)), AV.imm (IV.int IntKind.i64 (0 : Int))],
                                  AV.imm (IV.int IntKind.i64 (0 : Int)), AV.imm (IV.bool false)])
                              ((↑(List.length s) : Int) ≤ big ∧
                                (0 : Int) ≤
                                    Prod.fst
                                      (Prod.snd
                                        (after s
                                          (Int.toNat
                                            (IntKind.wrap IntKind.i64
                                              (Prod.fst
                                                  (Prod.snd
                                                    (number
                                                      (List.take (List.length s - Int.toNat (1 : Int))
                                                        (List.drop (Int.toNat (1 : Int)) s)))) +
                                                (1 : Int))))
                                          (u8 (46 : Int)))) ∧
                                  Prod.fst
                                        (Prod.snd
                                          (after s
                                            (Int.toNat
                                              (IntKind.wrap IntKind.i64
                                                (Prod.fst
                                                    (Prod.snd
                                                      (number
                                                        (List.take (List.length s - Int.toNat (1 : Int))
                                                          (List.drop (Int.toNat (1 : Int)) s)))) +
                                                  (1 : Int))))
                                            (u8 (46 : Int)))) ≤
                                      big ∧
                                    (0 : Int) ≤ (46 : Int) ∧
                                      (46 : Int) ≤ (255 : Int) ∧
                                        K
                                          [AV.agg
                                              [AV.imm (IV.int IntKind.i64 (3 : Int)),
                                                AV.imm (IV.int IntKind.i64 (0 : Int)),
                                                AV.imm
                                                  (IV.int IntKind.i64
                                                    (Prod.fst
                                                      (number
                                                        (List.take (List.length s - Int.toNat (1 : Int))
                                                          (List.drop (Int.toNat (1 : Int)) s))))),
                                                AV.imm
                                                  (IV.int IntKind.i64
                                                    (Prod.fst
                                                      (after s
                                                        (Int.toNat
                                                          (IntKind.wrap IntKind.i64
                                                            (Prod.fst
                                                                (Prod.snd
                                                                  (number
                                                                    (List.take (List.length s - Int.toNat (1 : Int))
                                                                      (List.drop (Int.toNat (1 : Int)) s)))) +
                                                              (1 : Int))))
                                                        (u8 (46 : Int))))),
                                                AV.imm
                                                  (IV.int IntKind.i64
                                                    (Prod.fst
                                                      (after s
                                                        (Int.toNat
                                                          (Prod.fst
                                                            (Prod.snd
                                                              (after s
                                                                (Int.toNat
                                                                  (IntKind.wrap IntKind.i64
                                                                    (Prod.fst
                                                                        (Prod.snd
                                                                          (number
                                                                            (List.take
                                                                              (List.length s - Int.toNat (1 : Int))
                                                                              (List.drop (Int.toNat (1 : Int)) s)))) +
                                                                      (1 : Int))))
                                                                (u8 (46 : Int))))))
                                                        (u8 (46 : Int))))),
                                                AV.imm (IV.int IntKind.i64 (0 : Int))],
                                            AV.imm
                                              (IV.int IntKind.i64
                                                (Prod.fst
                                                  (Prod.snd
                                                    (after s
                                                      (Int.toNat
                                                        (Prod.fst
                                                          (Prod.snd
                                                            (after s
                                                              (Int.toNat
                                                                (IntKind.wrap IntKind.i64
                                                                  (Prod.fst
                                                                      (Prod.snd
                                                                        (number
                                                                          (List.take
                                                                            (List.length s - Int.toNat (1 : Int))
                                                                            (List.drop (Int.toNat (1 : Int)) s)))) +
                                                                    (1 : Int))))
                                                              (u8 (46 : Int))))))
                                                      (u8 (46 : Int)))))),
                                            AV.imm
                                              (IV.bool
                                                (Prod.snd
                                                  (Prod.snd
                                                    (after s
                                                      (Int.toNat
                                                        (Prod.fst
                                                          (Prod.snd
                                                            (after s
                                                              (Int.toNat
                                                                (IntKind.wrap IntKind.i64
                                                                  (Prod.fst
                                                                      (Prod.snd
                                                                        (number
                                                                          (List.take
                                                                            (List.length s - Int.toNat (1 : Int))
                                                                            (List.drop (Int.toNat (1 : Int)) s)))) +
                                                                    (1 : Int))))
                                                              (u8 (46 : Int))))))
                                                      (u8 (46 : Int))))))])))
          ((↑(List.length s) : Int) ≤ big ∧
            K
              [AV.agg
                  [AV.imm (IV.int IntKind.i64 (2 : Int)), AV.imm (IV.int IntKind.i64 (Prod.fst (number s))),
                    AV.imm (IV.int IntKind.i64 (0 : Int)), AV.imm (IV.int IntKind.i64 (0 : Int)),
                    AV.imm (IV.int IntKind.i64 (0 : Int)), AV.imm (IV.int IntKind.i64 (0 : Int))],
                AV.imm (IV.int IntKind.i64 (Prod.fst (Prod.snd (number s)))),
                AV.imm (IV.bool (Prod.snd (Prod.snd (number s))))])))) := by kernel_rfl
theorem f15_in (s : List UInt8) (K : List AV → Prop) : evSpec C3 Try.f15 [AV.imm (IV.str s)] K =
  ((↑(List.length s) : Int) ≤ big - (10 : Int) ∧
  ((D.ok (date s) && decide (D.n (date s) < (↑(List.length s) : Int))) = true → (0 : Int) ≤ D.n (date s)) ∧
    ((D.ok (date s) && decide (D.n (date s) < (↑(List.length s) : Int))) = true →
        D.n (date s) < (↑(List.length s) : Int)) ∧
      brn
        (D.ok (date s) && decide (D.n (date s) < (↑(List.length s) : Int)) &&
          (↑(UInt8.toNat (List.getD s (Int.toNat (D.n (date s))) (0 : UInt8))) : Int) == (47 : Int))
        ((0 : Int) ≤ IntKind.wrap IntKind.i64 (D.n (date s) + (1 : Int)) ∧
          IntKind.wrap IntKind.i64 (D.n (date s) + (1 : Int)) ≤ (↑(List.length s) : Int) ∧
            (↑(List.length
                      (List.take (List.length s - Int.toNat (IntKind.wrap IntKind.i64 (D.n (date s) + (1 : Int))))
                        (List.drop (Int.toNat (IntKind.wrap IntKind.i64 (D.n (date s) + (1 : Int)))) s))) :
                  Int) ≤
                A8.big ∧
              brn
                (!Prod.snd
                      (Prod.snd
                        (A8.parse
                          (List.take (List.length s - Int.toNat (IntKind.wrap IntKind.i64 (D.n (date s) + (1 : Int))))
                            (List.drop (Int.toNat (IntKind.wrap IntKind.i64 (D.n (date s) + (1 : Int)))) s)))) ||
                  !validDay (D.k (date s)) (D.d (date s)) (D.m (date s)) (D.w (date s)) (D.e (date s))
                      (Prod.fst
                        (A8.parse
                          (List.take (List.length s - Int.toNat (IntKind.wrap IntKind.i64 (D.n (date s) + (1 : Int))))
                            (List.drop (Int.toNat (IntKind.wrap IntKind.i64 (D.n (date s) + (1 : Int)))) s)))))
                (K
                  [AV.agg
                      [AV.imm (IV.int IntKind.i64 (0 : Int)), AV.imm (IV.int IntKind.i64 (0 : Int)),
                        AV.imm (IV.int IntKind.i64 (0 : Int)), AV.imm (IV.int IntKind.i64 (0 : Int)),
                        AV.imm (IV.int IntKind.i64 (0 : Int)), AV.imm (IV.int IntKind.i64 (0 : Int))],
                    AV.imm (IV.int IntKind.i64 (0 : Int)), AV.imm (IV.bool false)])
                (K
                  [AV.agg
                      [AV.imm (IV.int IntKind.i64 (D.k (date s))), AV.imm (IV.int IntKind.i64 (D.d (date s))),
                        AV.imm (IV.int IntKind.i64 (D.m (date s))), AV.imm (IV.int IntKind.i64 (D.w (date s))),
                        AV.imm (IV.int IntKind.i64 (D.e (date s))),
                        AV.imm
                          (IV.int IntKind.i64
                            (Prod.fst
                              (A8.parse
                                (List.take
                                  (List.length s - Int.toNat (IntKind.wrap IntKind.i64 (D.n (date s) + (1 : Int))))
                                  (List.drop (Int.toNat (IntKind.wrap IntKind.i64 (D.n (date s) + (1 : Int)))) s)))))],
                    AV.imm
                      (IV.int IntKind.i64
                        (IntKind.wrap IntKind.i64
                          (IntKind.wrap IntKind.i64 (D.n (date s) + (1 : Int)) +
                            Prod.fst
                              (Prod.snd
                                (A8.parse
                                  (List.take
                                    (List.length s - Int.toNat (IntKind.wrap IntKind.i64 (D.n (date s) + (1 : Int))))
                                    (List.drop (Int.toNat (IntKind.wrap IntKind.i64 (D.n (date s) + (1 : Int))))
                                      s))))))),
                    AV.imm (IV.bool true)]))
        (brn
          (!D.ok (date s) ||
            !validDay (D.k (date s)) (D.d (date s)) (D.m (date s)) (D.w (date s)) (D.e (date s)) (7200 : Int))
          (K
            [AV.agg
                [AV.imm (IV.int IntKind.i64 (0 : Int)), AV.imm (IV.int IntKind.i64 (0 : Int)),
                  AV.imm (IV.int IntKind.i64 (0 : Int)), AV.imm (IV.int IntKind.i64 (0 : Int)),
                  AV.imm (IV.int IntKind.i64 (0 : Int)), AV.imm (IV.int IntKind.i64 (0 : Int))],
              AV.imm (IV.int IntKind.i64 (0 : Int)), AV.imm (IV.bool false)])
          (K
            [AV.agg
                [AV.imm (IV.int IntKind.i64 (D.k (date s))), AV.imm (IV.int IntKind.i64 (D.d (date s))),
                  AV.imm (IV.int IntKind.i64 (D.m (date s))), AV.imm (IV.int IntKind.i64 (D.w (date s))),
                  AV.imm (IV.int IntKind.i64 (D.e (date s))), AV.imm (IV.int IntKind.i64 (7200 : Int))],
              AV.imm (IV.int IntKind.i64 (D.n (date s))), AV.imm (IV.bool true)]))) := by kernel_rfl
theorem f14_in (k : Int) (d : Int) (m : Int) (w : Int) (e : Int) (t : Int) (K : List AV →
  Prop) : evSpec C3 Try.f14 [dayAV k d m w e t] K =
  ((0 : Int) ≤ d ∧
  d < (1000 : Int) ∧
    brn (k == (1 : Int))
      (List.length [(74 : UInt8)] + List.length (dd (Int.toNat d)) ≤ (9223372036854775807 : Nat) ∧
        brn (k == (3 : Int))
          (((0 : Int) ≤ m ∧
              m < (1000 : Int) ∧
                List.length [(77 : UInt8)] + List.length (dd (Int.toNat m)) ≤ (9223372036854775807 : Nat) ∧
                  List.length ([(77 : UInt8)] ++ dd (Int.toNat m)) + List.length [(46 : UInt8)] ≤
                      (9223372036854775807 : Nat) ∧
                    ((0 : Int) ≤ w ∧
                        w < (1000 : Int) ∧
                          List.length ([(77 : UInt8)] ++ dd (Int.toNat m) ++ [(46 : UInt8)]) +
                                List.length (dd (Int.toNat w)) ≤
                              (9223372036854775807 : Nat) ∧
                            List.length ([(77 : UInt8)] ++ dd (Int.toNat m) ++ [(46 : UInt8)] ++ dd (Int.toNat w)) +
                                  List.length [(46 : UInt8)] ≤
                                (9223372036854775807 : Nat) ∧
                              (0 : Int) ≤ e ∧
                                e < (1000 : Int) ∧
                                  List.length
                                          ([(77 : UInt8)] ++ dd (Int.toNat m) ++ [(46 : UInt8)] ++ dd (Int.toNat w) ++
                                            [(46 : UInt8)]) +
                                        List.length (dd (Int.toNat e)) ≤
                                      (9223372036854775807 : Nat) ∧
                                    List.length
                                            ([(77 : UInt8)] ++ dd (Int.toNat m) ++ [(46 : UInt8)] ++ dd (Int.toNat w) ++
                                                [(46 : UInt8)] ++
                                              dd (Int.toNat e)) +
                                          List.length [(47 : UInt8)] ≤
                                        (9223372036854775807 : Nat) ∧
                                      (-604799 : Int) ≤ t ∧
                                        t ≤ (604799 : Int) ∧
                                          List.length
                                                  ([(77 : UInt8)] ++ dd (Int.toNat m) ++ [(46 : UInt8)] ++
                                                          dd (Int.toNat w) ++
                                                        [(46 : UInt8)] ++
                                                      dd (Int.toNat e) ++
                                                    [(47 : UInt8)]) +
                                                List.length (A8.fmt t) ≤
                                              (9223372036854775807 : Nat) ∧
                                            K
                                              [AV.imm
                                                  (IV.str
                                                    ([(77 : UInt8)] ++ dd (Int.toNat m) ++ [(46 : UInt8)] ++
                                                              dd (Int.toNat w) ++
                                                            [(46 : UInt8)] ++
                                                          dd (Int.toNat e) ++
                                                        [(47 : UInt8)] ++
                                                      A8.fmt t))]) ∧
                      (0 : Int) ≤ w ∧
                        w < (1000 : Int) ∧
                          List.length ([(77 : UInt8)] ++ dd (Int.toNat m) ++ [(46 : UInt8)]) +
                                List.length (dd (Int.toNat w)) ≤
                              (9223372036854775807 : Nat) ∧
                            List.length ([(77 : UInt8)] ++ dd (Int.toNat m) ++ [(46 : UInt8)] ++ dd (Int.toNat w)) +
                                  List.length [(46 : UInt8)] ≤
                                (9223372036854775807 : Nat) ∧
                              (0 : Int) ≤ e ∧
                                e < (1000 : Int) ∧
                                  List.length
                                          ([(77 : UInt8)] ++ dd (Int.toNat m) ++ [(46 : UInt8)] ++ dd (Int.toNat w) ++
                                            [(46 : UInt8)]) +
                                        List.length (dd (Int.toNat e)) ≤
                                      (9223372036854775807 : Nat) ∧
                                    List.length
                                            ([(77 : UInt8)] ++ dd (Int.toNat m) ++ [(46 : UInt8)] ++ dd (Int.toNat w) ++
                                                [(46 : UInt8)] ++
                                              dd (Int.toNat e)) +
                                          List.length [(47 : UInt8)] ≤
                                        (9223372036854775807 : Nat) ∧
                                      (-604799 : Int) ≤ t ∧
                                        t ≤ (604799 : Int) ∧
                                          List.length
                                                  ([(77 : UInt8)] ++ dd (Int.toNat m) ++ [(46 : UInt8)] ++
                                                          dd (Int.toNat w) ++
                                                        [(46 : UInt8)] ++
                                                      dd (Int.toNat e) ++
                                                    [(47 : UInt8)]) +
                                                List.length (A8.fmt t) ≤
                                              (9223372036854775807 : Nat) ∧
                                            K
                                              [AV.imm
                                                  (IV.str
                                                    ([(77 : UInt8)] ++ dd (Int.toNat m) ++ [(46 : UInt8)] ++
                                                              dd (Int.toNat w) ++
                                                            [(46 : UInt8)] ++
                                                          dd (Int.toNat e) ++
                                                        [(47 : UInt8)] ++
                                                      A8.fmt t))]) ∧
            (((0 : Int) ≤ m ∧
                  m < (1000 : Int) ∧
                    List.length [(77 : UInt8)] + List.length (dd (Int.toNat m)) ≤ (9223372036854775807 : Nat) ∧
                      List.length ([(77 : UInt8)] ++ dd (Int.toNat m)) + List.length [(46 : UInt8)] ≤
                          (9223372036854775807 : Nat) ∧
                        ((0 : Int) ≤ w ∧
                            w < (1000 : Int) ∧
                              List.length ([(77 : UInt8)] ++ dd (Int.toNat m) ++ [(46 : UInt8)]) +
                                    List.length (dd (Int.toNat w)) ≤
                                  (9223372036854775807 : Nat) ∧
                                List.length ([(77 : UInt8)] ++ dd (Int.toNat m) ++ [(46 : UInt8)] ++ dd (Int.toNat w)) +
                                      List.length [(46 : UInt8)] ≤
                                    (9223372036854775807 : Nat) ∧
                                  (0 : Int) ≤ e ∧
                                    e < (1000 : Int) ∧
                                      List.length
                                              ([(77 : UInt8)] ++ dd (Int.toNat m) ++ [(46 : UInt8)] ++
                                                  dd (Int.toNat w) ++
                                                [(46 : UInt8)]) +
                                            List.length (dd (Int.toNat e)) ≤
                                          (9223372036854775807 : Nat) ∧
                                        List.length
                                                ([(77 : UInt8)] ++ dd (Int.toNat m) ++ [(46 : UInt8)] ++
                                                      dd (Int.toNat w) ++
                                                    [(46 : UInt8)] ++
                                                  dd (Int.toNat e)) +
                                              List.length [(47 : UInt8)] ≤
                                            (9223372036854775807 : Nat) ∧
                                          (-604799 : Int) ≤ t ∧
                                            t ≤ (604799 : Int) ∧
                                              List.length
                                                      ([(77 : UInt8)] ++ dd (Int.toNat m) ++ [(46 : UInt8)] ++
                                                              dd (Int.toNat w) ++
                                                            [(46 : UInt8)] ++
                                                          dd (Int.toNat e) ++
                                                        [(47 : UInt8)]) +
                                                    List.length (A8.fmt t) ≤
                                                  (9223372036854775807 : Nat) ∧
                                                K
                                                  [AV.imm
                                                      (IV.str
                                                        ([(77 : UInt8)] ++ dd (Int.toNat m) ++ [(46 : UInt8)] ++
                                                                  dd (Int.toNat w) ++
                                                                [(46 : UInt8)] ++
                                                              dd (Int.toNat e) ++
                                                            [(47 : UInt8)] ++
                                                          A8.fmt t))]) ∧
                          (0 : Int) ≤ w ∧
                            w < (1000 : Int) ∧
                              List.length ([(77 : UInt8)] ++ dd (Int.toNat m) ++ [(46 : UInt8)]) +
                                    List.length (dd (Int.toNat w)) ≤
                                  (9223372036854775807 : Nat) ∧
                                List.length ([(77 : UInt8)] ++ dd (Int.toNat m) ++ [(46 : UInt8)] ++ dd (Int.toNat w)) +
                                      List.length [(46 : UInt8)] ≤
                                    (9223372036854775807 : Nat) ∧
                                  (0 : Int) ≤ e ∧
                                    e < (1000 : Int) ∧
                                      List.length
                                              ([(77 : UInt8)] ++ dd (Int.toNat m) ++ [(46 : UInt8)] ++
                                                  dd (Int.toNat w) ++
                                                [(46 : UInt8)]) +
                                            List.length (dd (Int.toNat e)) ≤
                                          (9223372036854775807 : Nat) ∧
                                        List.length
                                                ([(77 : UInt8)] ++ dd (Int.toNat m) ++ [(46 : UInt8)] ++
                                                      dd (Int.toNat w) ++
                                                    [(46 : UInt8)] ++
                                                  dd (Int.toNat e)) +
                                              List.length [(47 : UInt8)] ≤
                                            (9223372036854775807 : Nat) ∧
                                          (-604799 : Int) ≤ t ∧
                                            t ≤ (604799 : Int) ∧
                                              List.length
                                                      ([(77 : UInt8)] ++ dd (Int.toNat m) ++ [(46 : UInt8)] ++
                                                              dd (Int.toNat w) ++
                                                            [(46 : UInt8)] ++
                                                          dd (Int.toNat e) ++
                                                        [(47 : UInt8)]) +
                                                    List.length (A8.fmt t) ≤
                                                  (9223372036854775807 : Nat) ∧
                                                K
                                                  [AV.imm
                                                      (IV.str
                                                        ([(77 : UInt8)] ++ dd (Int.toNat m) ++ [(46 : UInt8)] ++
                                                                  dd (Int.toNat w) ++
                                                                [(46 : UInt8)] ++
                                                              dd (Int.toNat e) ++
                                                            [(47 : UInt8)] ++
                                                          A8.fmt t))]) ∧
                (0 : Int) ≤ m ∧
                  m < (1000 : Int) ∧
                    List.length [(77 : UInt8)] + List.length (dd (Int.toNat m)) ≤ (9223372036854775807 : Nat) ∧
                      List.length ([(77 : UInt8)] ++ dd (Int.toNat m)) + List.length [(46 : UInt8)] ≤
                          (9223372036854775807 : Nat) ∧
                        (0 : Int) ≤ w ∧
                          w < (1000 : Int) ∧
                            List.length ([(77 : UInt8)] ++ dd (Int.toNat m) ++ [(46 : UInt8)]) +
                                  List.length (dd (Int.toNat w)) ≤
                                (9223372036854775807 : Nat) ∧
                              List.length ([(77 : UInt8)] ++ dd (Int.toNat m) ++ [(46 : UInt8)] ++ dd (Int.toNat w)) +
                                    List.length [(46 : UInt8)] ≤
                                  (9223372036854775807 : Nat) ∧
                                (0 : Int) ≤ e ∧
                                  e < (1000 : Int) ∧
                                    List.length
                                            ([(77 : UInt8)] ++ dd (Int.toNat m) ++ [(46 : UInt8)] ++ dd (Int.toNat w) ++
                                              [(46 : UInt8)]) +
                                          List.length (dd (Int.toNat e)) ≤
                                        (9223372036854775807 : Nat) ∧
                                      List.length
                                              ([(77 : UInt8)] ++ dd (Int.toNat m) ++ [(46 : UInt8)] ++
                                                    dd (Int.toNat w) ++
                                                  [(46 : UInt8)] ++
                                                dd (Int.toNat e)) +
                                            List.length [(47 : UInt8)] ≤
                                          (9223372036854775807 : Nat) ∧
                                        (-604799 : Int) ≤ t ∧
                                          t ≤ (604799 : Int) ∧
                                            List.length
                                                    ([(77 : UInt8)] ++ dd (Int.toNat m) ++ [(46 : UInt8)] ++
                                                            dd (Int.toNat w) ++
                                                          [(46 : UInt8)] ++
                                                        dd (Int.toNat e) ++
                                                      [(47 : UInt8)]) +
                                                  List.length (A8.fmt t) ≤
                                                (9223372036854775807 : Nat) ∧
                                              K
                                                [AV.imm
                                                    (IV.str
                                                      ([(77 : UInt8)] ++ dd (Int.toNat m) ++ [(46 : UInt8)] ++
                                                                dd (Int.toNat w) ++
                                                              [(46 : UInt8)] ++
                                                            dd (Int.toNat e) ++
                                                          [(47 : UInt8)] ++
                                                        A8.fmt t))]) ∧
              ((0 : Int) ≤ m ∧
                  m < (1000 : Int) ∧
                    List.length [(77 : UInt8)] + List.length (dd (Int.toNat m)) ≤ (9223372036854775807 : Nat) ∧
                      List.length ([(77 : UInt8)] ++ dd (Int.toNat m)) + List.length [(46 : UInt8)] ≤
                          (9223372036854775807 : Nat) ∧
                        (0 : Int) ≤ w ∧
                          w < (1000 : Int) ∧
                            List.length ([(77 : UInt8)] ++ dd (Int.toNat m) ++ [(46 : UInt8)]) +
                                  List.length (dd (Int.toNat w)) ≤
                                (9223372036854775807 : Nat) ∧
                              List.length ([(77 : UInt8)] ++ dd (Int.toNat m) ++ [(46 : UInt8)] ++ dd (Int.toNat w)) +
                                    List.length [(46 : UInt8)] ≤
                                  (9223372036854775807 : Nat) ∧
                                (0 : Int) ≤ e ∧
                                  e < (1000 : Int) ∧
                                    List.length
                                            ([(77 : UInt8)] ++ dd (Int.toNat m) ++ [(46 : UInt8)] ++ dd (Int.toNat w) ++
                                              [(46 : UInt8)]) +
                                          List.length (dd (Int.toNat e)) ≤
                                        (9223372036854775807 : Nat) ∧
                                      List.length
                                              ([(77 : UInt8)] ++ dd (Int.toNat m) ++ [(46 : UInt8)] ++
                                                    dd (Int.toNat w) ++
                                                  [(46 : UInt8)] ++
                                                dd (Int.toNat e)) +
                                            List.length [(47 : UInt8)] ≤
                                          (9223372036854775807 : Nat) ∧
                                        (-604799 : Int) ≤ t ∧
                                          t ≤ (604799 : Int) ∧
                                            List.length
                                                    ([(77 : UInt8)] ++ dd (Int.toNat m) ++ [(46 : UInt8)] ++
                                                            dd (Int.toNat w) ++
                                                          [(46 : UInt8)] ++
                                                        dd (Int.toNat e) ++
                                                      [(47 : UInt8)]) +
                                                  List.length (A8.fmt t) ≤
                                                (9223372036854775807 : Nat) ∧
                                              K
                                                [AV.imm
                                                    (IV.str
                                                      ([(77 : UInt8)] ++ dd (Int.toNat m) ++ [(46 : UInt8)] ++
                                                                dd (Int.toNat w) ++
                                                              [(46 : UInt8)] ++
                                                            dd (Int.toNat e) ++
                                                          [(47 : UInt8)] ++
                                                        A8.fmt t))]) ∧
                (0 : Int) ≤ m ∧
                  m < (1000 : Int) ∧
                    List.length [(77 : UInt8)] + List.length (dd (Int.toNat m)) ≤ (9223372036854775807 : Nat) ∧
                      List.length ([(77 : UInt8)] ++ dd (Int.toNat m)) + List.length [(46 : UInt8)] ≤
                          (9223372036854775807 : Nat) ∧
                        (0 : Int) ≤ w ∧
                          w < (1000 : Int) ∧
                            List.length ([(77 : UInt8)] ++ dd (Int.toNat m) ++ [(46 : UInt8)]) +
                                  List.length (dd (Int.toNat w)) ≤
                                (9223372036854775807 : Nat) ∧
                              List.length ([(77 : UInt8)] ++ dd (Int.toNat m) ++ [(46 : UInt8)] ++ dd (Int.toNat w)) +
                                    List.length [(46 : UInt8)] ≤
                                  (9223372036854775807 : Nat) ∧
                                (0 : Int) ≤ e ∧
                                  e < (1000 : Int) ∧
                                    List.length
                                            ([(77 : UInt8)] ++ dd (Int.toNat m) ++ [(46 : UInt8)] ++ dd (Int.toNat w) ++
                                              [(46 : UInt8)]) +
                                          List.length (dd (Int.toNat e)) ≤
                                        (9223372036854775807 : Nat) ∧
                                      List.length
                                              ([(77 : UInt8)] ++ dd (Int.toNat m) ++ [(46 : UInt8)] ++
                                                    dd (Int.toNat w) ++
                                                  [(46 : UInt8)] ++
                                                dd (Int.toNat e)) +
                                            List.length [(47 : UInt8)] ≤
                                          (9223372036854775807 : Nat) ∧
                                        (-604799 : Int) ≤ t ∧
                                          t ≤ (604799 : Int) ∧
                                            List.length
                                                    ([(77 : UInt8)] ++ dd (Int.toNat m) ++ [(46 : UInt8)] ++
                                                            dd (Int.toNat w) ++
                                                          [(46 : UInt8)] ++
                                                        dd (Int.toNat e) ++
                                                      [(47 : UInt8)]) +
                                                  List.length (A8.fmt t) ≤
                                                (9223372036854775807 : Nat) ∧
                                              K
                                                [AV.imm
                                                    (IV.str
                                                      ([(77 : UInt8)] ++ dd (Int.toNat m) ++ [(46 : UInt8)] ++
                                                                dd (Int.toNat w) ++
                                                              [(46 : UInt8)] ++
                                                            dd (Int.toNat e) ++
                                                          [(47 : UInt8)] ++
                                                        A8.fmt t))])
          (List.length ([(74 : UInt8)] ++ dd (Int.toNat d)) + List.length [(47 : UInt8)] ≤ (9223372036854775807 : Nat) ∧
            (-604799 : Int) ≤ t ∧
              t ≤ (604799 : Int) ∧
                List.length ([(74 : UInt8)] ++ dd (Int.toNat d) ++ [(47 : UInt8)]) + List.length (A8.fmt t) ≤
                    (9223372036854775807 : Nat) ∧
                  K [AV.imm (IV.str ([(74 : UInt8)] ++ dd (Int.toNat d) ++ [(47 : UInt8)] ++ A8.fmt t))]))
      (brn (k == (3 : Int))
        (((0 : Int) ≤ m ∧
            m < (1000 : Int) ∧
              List.length [(77 : UInt8)] + List.length (dd (Int.toNat m)) ≤ (9223372036854775807 : Nat) ∧
                List.length ([(77 : UInt8)] ++ dd (Int.toNat m)) + List.length [(46 : UInt8)] ≤
                    (9223372036854775807 : Nat) ∧
                  ((0 : Int) ≤ w ∧
                      w < (1000 : Int) ∧
                        List.length ([(77 : UInt8)] ++ dd (Int.toNat m) ++ [(46 : UInt8)]) +
                              List.length (dd (Int.toNat w)) ≤
                            (9223372036854775807 : Nat) ∧
                          List.length ([(77 : UInt8)] ++ dd (Int.toNat m) ++ [(46 : UInt8)] ++ dd (Int.toNat w)) +
                                List.length [(46 : UInt8)] ≤
                              (9223372036854775807 : Nat) ∧
                            (0 : Int) ≤ e ∧
                              e < (1000 : Int) ∧
                                List.length
                                        ([(77 : UInt8)] ++ dd (Int.toNat m) ++ [(46 : UInt8)] ++ dd (Int.toNat w) ++
                                          [(46 : UInt8)]) +
                                      List.length (dd (Int.toNat e)) ≤
                                    (9223372036854775807 : Nat) ∧
                                  List.length
                                          ([(77 : UInt8)] ++ dd (Int.toNat m) ++ [(46 : UInt8)] ++ dd (Int.toNat w) ++
                                              [(46 : UInt8)] ++
                                            dd (Int.toNat e)) +
                                        List.length [(47 : UInt8)] ≤
                                      (9223372036854775807 : Nat) ∧
                                    (-604799 : Int) ≤ t ∧
                                      t ≤ (604799 : Int) ∧
                                        List.length
                                                ([(77 : UInt8)] ++ dd (Int.toNat m) ++ [(46 : UInt8)] ++
                                                        dd (Int.toNat w) ++
                                                      [(46 : UInt8)] ++
                                                    dd (Int.toNat e) ++
                                                  [(47 : UInt8)]) +
                                              List.length (A8.fmt t) ≤
                                            (9223372036854775807 : Nat) ∧
                                          K
                                            [AV.imm
                                                (IV.str
                                                  ([(77 : UInt8)] ++ dd (Int.toNat m) ++ [(46 : UInt8)] ++
                                                            dd (Int.toNat w) ++
                                                          [(46 : UInt8)] ++
                                                        dd (Int.toNat e) ++
                                                      [(47 : UInt8)] ++
                                                    A8.fmt t))]) ∧
                    (0 : Int) ≤ w ∧
                      w < (1000 : Int) ∧
                        List.length ([(77 : UInt8)] ++ dd (Int.toNat m) ++ [(46 : UInt8)]) +
                              List.length (dd (Int.toNat w)) ≤
                            (9223372036854775807 : Nat) ∧
                          List.length ([(77 : UInt8)] ++ dd (Int.toNat m) ++ [(46 : UInt8)] ++ dd (Int.toNat w)) +
                                List.length [(46 : UInt8)] ≤
                              (9223372036854775807 : Nat) ∧
                            (0 : Int) ≤ e ∧
                              e < (1000 : Int) ∧
                                List.length
                                        ([(77 : UInt8)] ++ dd (Int.toNat m) ++ [(46 : UInt8)] ++ dd (Int.toNat w) ++
                                          [(46 : UInt8)]) +
                                      List.length (dd (Int.toNat e)) ≤
                                    (9223372036854775807 : Nat) ∧
                                  List.length
                                          ([(77 : UInt8)] ++ dd (Int.toNat m) ++ [(46 : UInt8)] ++ dd (Int.toNat w) ++
                                              [(46 : UInt8)] ++
                                            dd (Int.toNat e)) +
                                        List.length [(47 : UInt8)] ≤
                                      (9223372036854775807 : Nat) ∧
                                    (-604799 : Int) ≤ t ∧
                                      t ≤ (604799 : Int) ∧
                                        List.length
                                                ([(77 : UInt8)] ++ dd (Int.toNat m) ++ [(46 : UInt8)] ++
                                                        dd (Int.toNat w) ++
                                                      [(46 : UInt8)] ++
                                                    dd (Int.toNat e) ++
                                                  [(47 : UInt8)]) +
                                              List.length (A8.fmt t) ≤
                                            (9223372036854775807 : Nat) ∧
                                          K
                                            [AV.imm
                                                (IV.str
                                                  ([(77 : UInt8)] ++ dd (Int.toNat m) ++ [(46 : UInt8)] ++
                                                            dd (Int.toNat w) ++
                                                          [(46 : UInt8)] ++
                                                        dd (Int.toNat e) ++
                                                      [(47 : UInt8)] ++
                                                    A8.fmt t))]) ∧
          (((0 : Int) ≤ m ∧
                m < (1000 : Int) ∧
                  List.length [(77 : UInt8)] + List.length (dd (Int.toNat m)) ≤ (9223372036854775807 : Nat) ∧
                    List.length ([(77 : UInt8)] ++ dd (Int.toNat m)) + List.length [(46 : UInt8)] ≤
                        (9223372036854775807 : Nat) ∧
                      ((0 : Int) ≤ w ∧
                          w < (1000 : Int) ∧
                            List.length ([(77 : UInt8)] ++ dd (Int.toNat m) ++ [(46 : UInt8)]) +
                                  List.length (dd (Int.toNat w)) ≤
                                (9223372036854775807 : Nat) ∧
                              List.length ([(77 : UInt8)] ++ dd (Int.toNat m) ++ [(46 : UInt8)] ++ dd (Int.toNat w)) +
                                    List.length [(46 : UInt8)] ≤
                                  (9223372036854775807 : Nat) ∧
                                (0 : Int) ≤ e ∧
                                  e < (1000 : Int) ∧
                                    List.length
                                            ([(77 : UInt8)] ++ dd (Int.toNat m) ++ [(46 : UInt8)] ++ dd (Int.toNat w) ++
                                              [(46 : UInt8)]) +
                                          List.length (dd (Int.toNat e)) ≤
                                        (9223372036854775807 : Nat) ∧
                                      List.length
                                              ([(77 : UInt8)] ++ dd (Int.toNat m) ++ [(46 : UInt8)] ++
                                                    dd (Int.toNat w) ++
                                                  [(46 : UInt8)] ++
                                                dd (Int.toNat e)) +
                                            List.length [(47 : UInt8)] ≤
                                          (9223372036854775807 : Nat) ∧
                                        (-604799 : Int) ≤ t ∧
                                          t ≤ (604799 : Int) ∧
                                            List.length
                                                    ([(77 : UInt8)] ++ dd (Int.toNat m) ++ [(46 : UInt8)] ++
                                                            dd (Int.toNat w) ++
                                                          [(46 : UInt8)] ++
                                                        dd (Int.toNat e) ++
                                                      [(47 : UInt8)]) +
                                                  List.length (A8.fmt t) ≤
                                                (9223372036854775807 : Nat) ∧
                                              K
                                                [AV.imm
                                                    (IV.str
                                                      ([(77 : UInt8)] ++ dd (Int.toNat m) ++ [(46 : UInt8)] ++
                                                                dd (Int.toNat w) ++
                                                              [(46 : UInt8)] ++
                                                            dd (Int.toNat e) ++
                                                          [(47 : UInt8)] ++
                                                        A8.fmt t))]) ∧
                        (0 : Int) ≤ w ∧
                          w < (1000 : Int) ∧
                            List.length ([(77 : UInt8)] ++ dd (Int.toNat m) ++ [(46 : UInt8)]) +
                                  List.length (dd (Int.toNat w)) ≤
                                (9223372036854775807 : Nat) ∧
                              List.length ([(77 : UInt8)] ++ dd (Int.toNat m) ++ [(46 : UInt8)] ++ dd (Int.toNat w)) +
                                    List.length [(46 : UInt8)] ≤
                                  (9223372036854775807 : Nat) ∧
                                (0 : Int) ≤ e ∧
                                  e < (1000 : Int) ∧
                                    List.length
                                            ([(77 : UInt8)] ++ dd (Int.toNat m) ++ [(46 : UInt8)] ++ dd (Int.toNat w) ++
                                              [(46 : UInt8)]) +
                                          List.length (dd (Int.toNat e)) ≤
                                        (9223372036854775807 : Nat) ∧
                                      List.length
                                              ([(77 : UInt8)] ++ dd (Int.toNat m) ++ [(46 : UInt8)] ++
                                                    dd (Int.toNat w) ++
                                                  [(46 : UInt8)] ++
                                                dd (Int.toNat e)) +
                                            List.length [(47 : UInt8)] ≤
                                          (9223372036854775807 : Nat) ∧
                                        (-604799 : Int) ≤ t ∧
                                          t ≤ (604799 : Int) ∧
                                            List.length
                                                    ([(77 : UInt8)] ++ dd (Int.toNat m) ++ [(46 : UInt8)] ++
                                                            dd (Int.toNat w) ++
                                                          [(46 : UInt8)] ++
                                                        dd (Int.toNat e) ++
                                                      [(47 : UInt8)]) +
                                                  List.length (A8.fmt t) ≤
                                                (9223372036854775807 : Nat) ∧
                                              K
                                                [AV.imm
                                                    (IV.str
                                                      ([(77 : UInt8)] ++ dd (Int.toNat m) ++ [(46 : UInt8)] ++
                                                                dd (Int.toNat w) ++
                                                              [(46 : UInt8)] ++
                                                            dd (Int.toNat e) ++
                                                          [(47 : UInt8)] ++
                                                        A8.fmt t))]) ∧
              (0 : Int) ≤ m ∧
                m < (1000 : Int) ∧
                  List.length [(77 : UInt8)] + List.length (dd (Int.toNat m)) ≤ (9223372036854775807 : Nat) ∧
                    List.length ([(77 : UInt8)] ++ dd (Int.toNat m)) + List.length [(46 : UInt8)] ≤
                        (9223372036854775807 : Nat) ∧
                      (0 : Int) ≤ w ∧
                        w < (1000 : Int) ∧
                          List.length ([(77 : UInt8)] ++ dd (Int.toNat m) ++ [(46 : UInt8)]) +
                                List.length (dd (Int.toNat w)) ≤
                              (9223372036854775807 : Nat) ∧
                            List.length ([(77 : UInt8)] ++ dd (Int.toNat m) ++ [(46 : UInt8)] ++ dd (Int.toNat w)) +
                                  List.length [(46 : UInt8)] ≤
                                (9223372036854775807 : Nat) ∧
                              (0 : Int) ≤ e ∧
                                e < (1000 : Int) ∧
                                  List.length
                                          ([(77 : UInt8)] ++ dd (Int.toNat m) ++ [(46 : UInt8)] ++ dd (Int.toNat w) ++
                                            [(46 : UInt8)]) +
                                        List.length (dd (Int.toNat e)) ≤
                                      (9223372036854775807 : Nat) ∧
                                    List.length
                                            ([(77 : UInt8)] ++ dd (Int.toNat m) ++ [(46 : UInt8)] ++ dd (Int.toNat w) ++
                                                [(46 : UInt8)] ++
                                              dd (Int.toNat e)) +
                                          List.length [(47 : UInt8)] ≤
                                        (9223372036854775807 : Nat) ∧
                                      (-604799 : Int) ≤ t ∧
                                        t ≤ (604799 : Int) ∧
                                          List.length
                                                  ([(77 : UInt8)] ++ dd (Int.toNat m) ++ [(46 : UInt8)] ++
                                                          dd (Int.toNat w) ++
                                                        [(46 : UInt8)] ++
                                                      dd (Int.toNat e) ++
                                                    [(47 : UInt8)]) +
                                                List.length (A8.fmt t) ≤
                                              (9223372036854775807 : Nat) ∧
                                            K
                                              [AV.imm
                                                  (IV.str
                                                    ([(77 : UInt8)] ++ dd (Int.toNat m) ++ [(46 : UInt8)] ++
                                                              dd (Int.toNat w) ++
                                                            [(46 : UInt8)] ++
                                                          dd (Int.toNat e) ++
                                                        [(47 : UInt8)] ++
                                                      A8.fmt t))]) ∧
            ((0 : Int) ≤ m ∧
                m < (1000 : Int) ∧
                  List.length [(77 : UInt8)] + List.length (dd (Int.toNat m)) ≤ (9223372036854775807 : Nat) ∧
                    List.length ([(77 : UInt8)] ++ dd (Int.toNat m)) + List.length [(46 : UInt8)] ≤
                        (9223372036854775807 : Nat) ∧
                      (0 : Int) ≤ w ∧
                        w < (1000 : Int) ∧
                          List.length ([(77 : UInt8)] ++ dd (Int.toNat m) ++ [(46 : UInt8)]) +
                                List.length (dd (Int.toNat w)) ≤
                              (9223372036854775807 : Nat) ∧
                            List.length ([(77 : UInt8)] ++ dd (Int.toNat m) ++ [(46 : UInt8)] ++ dd (Int.toNat w)) +
                                  List.length [(46 : UInt8)] ≤
                                (9223372036854775807 : Nat) ∧
                              (0 : Int) ≤ e ∧
                                e < (1000 : Int) ∧
                                  List.length
                                          ([(77 : UInt8)] ++ dd (Int.toNat m) ++ [(46 : UInt8)] ++ dd (Int.toNat w) ++
                                            [(46 : UInt8)]) +
                                        List.length (dd (Int.toNat e)) ≤
                                      (9223372036854775807 : Nat) ∧
                                    List.length
                                            ([(77 : UInt8)] ++ dd (Int.toNat m) ++ [(46 : UInt8)] ++ dd (Int.toNat w) ++
                                                [(46 : UInt8)] ++
                                              dd (Int.toNat e)) +
                                          List.length [(47 : UInt8)] ≤
                                        (9223372036854775807 : Nat) ∧
                                      (-604799 : Int) ≤ t ∧
                                        t ≤ (604799 : Int) ∧
                                          List.length
                                                  ([(77 : UInt8)] ++ dd (Int.toNat m) ++ [(46 : UInt8)] ++
                                                          dd (Int.toNat w) ++
                                                        [(46 : UInt8)] ++
                                                      dd (Int.toNat e) ++
                                                    [(47 : UInt8)]) +
                                                List.length (A8.fmt t) ≤
                                              (9223372036854775807 : Nat) ∧
                                            K
                                              [AV.imm
                                                  (IV.str
                                                    ([(77 : UInt8)] ++ dd (Int.toNat m) ++ [(46 : UInt8)] ++
                                                              dd (Int.toNat w) ++
                                                            [(46 : UInt8)] ++
                                                          dd (Int.toNat e) ++
                                                        [(47 : UInt8)] ++
                                                      A8.fmt t))]) ∧
              (0 : Int) ≤ m ∧
                m < (1000 : Int) ∧
                  List.length [(77 : UInt8)] + List.length (dd (Int.toNat m)) ≤ (9223372036854775807 : Nat) ∧
                    List.length ([(77 : UInt8)] ++ dd (Int.toNat m)) + List.length [(46 : UInt8)] ≤
                        (9223372036854775807 : Nat) ∧
                      (0 : Int) ≤ w ∧
                        w < (1000 : Int) ∧
                          List.length ([(77 : UInt8)] ++ dd (Int.toNat m) ++ [(46 : UInt8)]) +
                                List.length (dd (Int.toNat w)) ≤
                              (9223372036854775807 : Nat) ∧
                            List.length ([(77 : UInt8)] ++ dd (Int.toNat m) ++ [(46 : UInt8)] ++ dd (Int.toNat w)) +
                                  List.length [(46 : UInt8)] ≤
                                (9223372036854775807 : Nat) ∧
                              (0 : Int) ≤ e ∧
                                e < (1000 : Int) ∧
                                  List.length
                                          ([(77 : UInt8)] ++ dd (Int.toNat m) ++ [(46 : UInt8)] ++ dd (Int.toNat w) ++
                                            [(46 : UInt8)]) +
                                        List.length (dd (Int.toNat e)) ≤
                                      (9223372036854775807 : Nat) ∧
                                    List.length
                                            ([(77 : UInt8)] ++ dd (Int.toNat m) ++ [(46 : UInt8)] ++ dd (Int.toNat w) ++
                                                [(46 : UInt8)] ++
                                              dd (Int.toNat e)) +
                                          List.length [(47 : UInt8)] ≤
                                        (9223372036854775807 : Nat) ∧
                                      (-604799 : Int) ≤ t ∧
                                        t ≤ (604799 : Int) ∧
                                          List.length
                                                  ([(77 : UInt8)] ++ dd (Int.toNat m) ++ [(46 : UInt8)] ++
                                                          dd (Int.toNat w) ++
                                                        [(46 : UInt8)] ++
                                                      dd (Int.toNat e) ++
                                                    [(47 : UInt8)]) +
                                                List.length (A8.fmt t) ≤
                                              (9223372036854775807 : Nat) ∧
                                            K
                                              [AV.imm
                                                  (IV.str
                                                    ([(77 : UInt8)] ++ dd (Int.toNat m) ++ [(46 : UInt8)] ++
                                                              dd (Int.toNat w) ++
                                                            [(46 : UInt8)] ++
                                                          dd (Int.toNat e) ++
                                                        [(47 : UInt8)] ++
                                                      A8.fmt t))])
        (List.length (dd (Int.toNat d)) + List.length [(47 : UInt8)] ≤ (9223372036854775807 : Nat) ∧
          (-604799 : Int) ≤ t ∧
            t ≤ (604799 : Int) ∧
              List.length (dd (Int.toNat d) ++ [(47 : UInt8)]) + List.length (A8.fmt t) ≤ (9223372036854775807 : Nat) ∧
                K [AV.imm (IV.str (dd (Int.toNat d) ++ [(47 : UInt8)] ++ A8.fmt t))]))) := by kernel_rfl
end Z09

set_option maxRecDepth 100000
namespace Z09
open Go Go.AE Go.Proofs
attribute [local irreducible] loopK evCode evSpec loopB norm

theorem at9 : Try.prog.funcs[9]? = some Try.f9 := by kernel_rfl
theorem at11 : Try.prog.funcs[11]? = some Try.f11 := by kernel_rfl
theorem at14 : Try.prog.funcs[14]? = some Try.f14 := by kernel_rfl
theorem at15 : Try.prog.funcs[15]? = some Try.f15 := by kernel_rfl
theorem at22 : Try.prog.funcs[22]? = some Try.f22 := by kernel_rfl
theorem at23 : Try.prog.funcs[23]? = some Try.f23 := by kernel_rfl
theorem at27 : Try.prog.funcs[27]? = some Try.f27 := by kernel_rfl
theorem at28 : Try.prog.funcs[28]? = some Try.f28 := by kernel_rfl
theorem at34 : Try.prog.funcs[34]? = some Try.f34 := by kernel_rfl
theorem at35 : Try.prog.funcs[35]? = some Try.f35 := by kernel_rfl
theorem mk {E : FuncId → List AV → Option (List Prop × List AV)} (hE : EOK Try.prog E G0) {f : FuncId} {fn : Func} {args res : List AV} {pres : List Prop} (hf : Try.prog.funcs[f]? = some fn) (hn : (fn.name == "runtime.NumGoroutine") = false) (hb : fn.body.isNone = false)
    (h : (∀ p, p ∈ pres → p) → ∀ K : List AV → Prop, K res → evSpec (cx E) fn args K) : SpecOK Try.prog G0 f args pres res :=
  spec_ok (C := cx E) hE noCall_ok hf hn hb (fun hp => h hp _ rfl)
theorem okF0 : EOK Try.prog F0 G0 := addE_ok (addE_ok A7.okE5 A8.ok9) A8.ok14
theorem wrap64 {n : Int} (h1 : -9223372036854775808 ≤ n) (h2 : n ≤ 9223372036854775807) : IntKind.wrap .i64 n = n := A8.wrap64 h1 h2
theorem nat_of {n : Int} (h : 0 ≤ n) : ∃ i : Nat, n = (i : Int) := ⟨n.toNat, by omega⟩
theorem take_rest (s : List UInt8) (i : Nat) : (s.drop i).take (s.length - i) = s.drop i := by
  rw [List.take_of_length_le]; simp
theorem ok22 : ∀ args pres res, sSide args = some (pres, res) → SpecOK Try.prog G0 22 args pres res := by
  intro args pres res h
  unfold sSide at h
  split at h
  case h_2 => cases h
  cases h
  exact mk okF0 at22 (by decide) rfl (fun _ K hK => by rw [show cx F0 = C0 from rfl, f22_in]; exact hK)
theorem digit_read {l : List UInt8} {n : Nat} : (decide ((n : Int) < (l.length : Int)) && decide (((l.getD n 0).toNat : Int) ≥ 48) && decide (((l.getD n 0).toNat : Int) ≤ 57)) = (A8.digit l n).2 := by
  rw [A8.digit_eq, Bool.eq_iff_iff]
  have hb := A8.isD_iff (l.getD n 0)
  simp only [Bool.and_eq_true, decide_eq_true_eq]
  by_cases h1 : n < l.length
  · rw [if_pos h1]
    by_cases h2 : A8.isD (l.getD n 0) = true
    · rw [if_pos h2]; simp only [iff_true]; have := hb.1 h2; omega
    · rw [if_neg h2]; simp only [Bool.false_eq_true, iff_false]; rw [hb] at h2; omega
  · rw [if_neg h1]; simp only [Bool.false_eq_true, iff_false]; omega
theorem digit_val {l : List UInt8} {n : Nat} (h : (A8.digit l n).2 = true) : n < l.length ∧ 48 ≤ (l.getD n 0).toNat ∧ (l.getD n 0).toNat ≤ 57 ∧ (A8.digit l n).1 = (l.getD n 0).toNat - 48 := by
  rw [A8.digit_eq] at h ⊢
  by_cases h1 : n < l.length
  · rw [if_pos h1] at h ⊢
    by_cases h2 : A8.isD (l.getD n 0) = true
    · rw [if_pos h2]
      have := (A8.isD_iff _).1 h2
      exact ⟨h1, this.1, this.2, rfl⟩
    · rw [if_neg h2] at h; cases h
  · rw [if_neg h1] at h; cases h
theorem w8sub {x : Int} (h1 : 48 ≤ x) (h2 : x ≤ 57) : IntKind.wrap .i64 (IntKind.wrap .u8 (x - 48)) = x - 48 := by
  rw [A8.wrap8 (by omega) (by omega), wrap64 (by omega) (by omega)]
def p34 : Plan := ⟨[], [true, false, true, true, true, true, true], []⟩
theorem f34_ev (s : List UInt8) (hs : (s.length : Int) ≤ big) (K : List AV → Prop) (hK : K [i64 (number s).1, i64 (number s).2.1, bo (number s).2.2]) : evSpec C0 Try.f34 [.imm (.str s)] K := by
  unfold big at hs
  rw [f34_in]
  unfold LoopI
  have hrl := A8.run_le s
  refine loop_rule (fun j : Nat => h34 s (A8.num ((A8.runD s).take j)) (j : Int)) (fun j => j ≤ 3 ∧ j ≤ (A8.runD s).length) (fun j => (A8.runD s).length - j)
    (fun j hP K' hnorm hexit => ?_) rfl 0 p34 _ ⟨by omega, by omega⟩ (by kernel_rfl)
  obtain ⟨h3, hle⟩ := hP
  have hd := A8.run_digit s j hle
  have hnl := A8.num_le s j hle
  have hn9 : A8.num ((A8.runD s).take j) < 1000 := by
    have : 10 ^ j ≤ 10 ^ 3 := Nat.pow_le_pow_right (by decide) h3
    omega
  have ej : IntKind.wrap .i64 ((j : Int) + 1) = ((j + 1 : Nat) : Int) := by rw [wrap64 (by omega) (by omega)]; omega
  unfold number at hK
  rw [f34_lp]
  refine ⟨fun h => by omega, fun h => by simpa using h, fun h => by omega, fun h => ?_, brn_intro (fun h => ?_) (fun h => ?_)⟩
  · rw [Bool.and_eq_true] at h; simpa using h.1
  · have h' : (A8.digit s j).2 = true := by rw [← digit_read]; exact h
    have hlt : j < (A8.runD s).length := by
      by_cases hlt : j < (A8.runD s).length
      · exact hlt
      · rw [hd, if_neg hlt] at h'; cases h'
    obtain ⟨v1, v2, v3, v4⟩ := digit_val h'
    refine brn_intro (fun h4 => ?_) (fun h4 => ?_)
    · have h4' : j = 3 := by simp only [beq_iff_eq] at h4; omega
      rw [if_neg (by omega)] at hK
      refine hexit _ _ (by simp) ?_
      exact Eq.mp (by kernel_rfl) hK
    · have h4' : ¬ j = 3 := by intro e; rw [e] at h4; simp at h4
      refine ⟨by omega, by omega, hnorm (j + 1) p34 _ ⟨by omega, hlt⟩ (by omega) ?_⟩
      have e2 : ((A8.num ((A8.runD s).take (j + 1)) : Nat) : Int) = IntKind.wrap .i64 (IntKind.wrap .i64 (((A8.num ((A8.runD s).take j) : Nat) : Int) * 10) + IntKind.wrap .i64 (IntKind.wrap .u8 (((s.getD (Int.toNat (j : Int)) 0).toNat : Int) - 48))) := by
        rw [A8.num_succ _ _ hlt]
        rw [hd, if_pos hlt] at v4
        simp only at v4
        rw [v4, Int.toNat_natCast, w8sub (by omega) (by omega), wrap64 (n := ((A8.num ((A8.runD s).take j) : Nat) : Int) * 10) (by omega) (by omega), wrap64 (by omega) (by omega)]
        omega
      rw [e2, ← ej]
      show _ = _
      kernel_rfl
  · have h' : (A8.digit s j).2 = false := by rw [← digit_read]; exact h
    have hj : j = (A8.runD s).length := by
      by_cases hlt : j < (A8.runD s).length
      · rw [hd, if_pos hlt] at h'; cases h'
      · omega
    refine hexit _ _ (by simp) ?_
    rw [if_pos (by omega), ← hj] at hK
    have e1 : A8.num (A8.runD s) = A8.num ((A8.runD s).take j) := by rw [hj, List.take_length]
    rw [e1] at hK
    have e2 : decide (0 < j) = decide ((j : Int) > 0) := by rw [Bool.eq_iff_iff]; simp only [decide_eq_true_eq]; omega
    rw [e2] at hK
    exact Eq.mp (by kernel_rfl) hK
theorem ok34 : ∀ args pres res, sNumber args = some (pres, res) → SpecOK Try.prog G0 34 args pres res := by
  intro args pres res h
  unfold sNumber at h
  split at h
  case h_2 => cases h
  cases h
  rename_i s
  exact mk okF0 at34 (by decide) rfl (fun hp K hK => f34_ev s (hp _ (List.mem_cons_self ..)) K hK)
theorem ok23 : ∀ args pres res, sValidDay args = some (pres, res) → SpecOK Try.prog G0 23 args pres res := by
  intro args pres res h
  unfold sValidDay at h
  split at h
  case h_2 => cases h
  cases h
  rename_i k d m w e t
  refine mk okF0 at23 (by decide) rfl (fun _ K hK => ?_)
  refine Eq.mpr (f23_in k d m w e t K) ?_
  have fin : ∀ b, b = validDay k d m w e t → K [.imm (.bool b)] := fun b hb => by rw [hb]; exact hK
  unfold validDay at fin
  refine brn_intro (fun h => fin _ ?_) (fun h => brn_intro (fun h1 => brn_intro (fun _ => fin _ ?_) (fun h2 => brn_intro (fun h3 => fin _ ?_) (fun h3 => fin _ ?_))) (fun h1 => brn_intro (fun h2 => fin _ ?_) (fun h2 => brn_intro (fun h3 => fin _ ?_) (fun h3 => fin _ ?_))))
  all_goals
    rw [Bool.eq_iff_iff]
    simp only [Bool.or_eq_true, Bool.and_eq_true, decide_eq_true_eq, beq_iff_eq, Bool.or_eq_false_iff, decide_eq_false_iff_not, beq_eq_false_iff_ne, ne_eq, Bool.false_eq_true, false_iff, iff_false] at *
    omega
theorem ok11 : ∀ args pres res, sValidDay args = some (pres, res) → SpecOK Try.prog G0 11 args pres res := by
  intro args pres res h
  unfold sValidDay at h
  split at h
  case h_2 => cases h
  cases h
  rename_i k d m w e t
  refine mk okF0 at11 (by decide) rfl (fun _ K hK => ?_)
  refine Eq.mpr (f11_in k d m w e t K) ?_
  have fin : ∀ b, b = validDay k d m w e t → K [.imm (.bool b)] := fun b hb => by rw [hb]; exact hK
  unfold validDay at fin
  refine brn_intro (fun h => fin _ ?_) (fun h => brn_intro (fun h1 => fin _ ?_) (fun h1 => brn_intro (fun h2 => fin _ ?_) (fun h2 => fin _ ?_)))
  all_goals
    rw [Bool.eq_iff_iff]
    simp only [Bool.or_eq_true, Bool.and_eq_true, decide_eq_true_eq, beq_iff_eq, Bool.or_eq_false_iff, decide_eq_false_iff_not, beq_eq_false_iff_ne, ne_eq, Bool.false_eq_true, false_iff, iff_false] at *
    omega
theorem tdiv100 (n : Nat) : Int.tdiv (n : Int) 100 = ((n / 100 : Nat) : Int) := by simp [Int.tdiv]
theorem ok27 : ∀ args pres res, sDd args = some (pres, res) → SpecOK Try.prog G0 27 args pres res := by
  intro args pres res h
  unfold sDd at h
  split at h
  case h_2 => cases h
  cases h
  rename_i n
  refine mk okF0 at27 (by decide) rfl (fun hp K hK => ?_)
  have h0 := hp _ (List.mem_cons_self ..)
  have h1 := hp _ (List.mem_cons_of_mem _ (List.mem_cons_self ..))
  obtain ⟨i, rfl⟩ := nat_of h0
  rw [show cx F0 = C0 from rfl, f27_in, A8.tdiv10, A8.tmod10, tdiv100]
  rw [Int.toNat_natCast] at hK
  unfold dd A8.dd at hK
  have hi : i < 1000 := by omega
  have t1 : ∀ x : Nat, x < 10 → IntKind.wrap .u8 (IntKind.wrap .i64 (48 + (x : Int))) = ((48 + x : Nat) : Int) := fun x hx => by
    rw [wrap64 (by omega) (by omega), A8.wrap8 (by omega) (by omega)]; omega
  refine brn_intro (fun h => ?_) (fun h => brn_intro (fun h2 => ?_) (fun h2 => ?_))
  · have hx : i < 10 := by simp only [decide_eq_true_eq] at h; omega
    rw [if_pos hx] at hK
    rw [t1 i hx, List.map_cons, List.map_nil, A8.u8_dg hx]
    exact hK
  · have hx : ¬ i < 10 := by simp only [decide_eq_false_iff_not] at h; omega
    have hy : i < 100 := by simp only [decide_eq_true_eq] at h2; omega
    rw [if_neg hx, if_pos hy] at hK
    rw [wrap64 (n := ((i / 10 : Nat) : Int)) (by omega) (by omega), t1 _ (by omega), t1 _ (by omega), List.map_cons, List.map_cons, List.map_nil, A8.u8_dg (by omega), A8.u8_dg (by omega)]
    exact ⟨by decide, by decide, hK⟩
  · have hx : ¬ i < 10 := by simp only [decide_eq_false_iff_not] at h; omega
    have hy : ¬ i < 100 := by simp only [decide_eq_false_iff_not] at h2; omega
    rw [if_neg hx, if_neg hy] at hK
    rw [wrap64 (n := ((i / 100 : Nat) : Int)) (by omega) (by omega), wrap64 (n := ((i / 10 : Nat) : Int)) (by omega) (by omega), A8.tmod10, t1 _ (by omega), t1 _ (by omega), t1 _ (by omega), List.map_cons, List.map_cons, List.map_cons, List.map_nil, A8.u8_dg (by omega), A8.u8_dg (by omega), A8.u8_dg (by omega)]
    exact ⟨by decide, by decide, by decide, by decide, hK⟩
theorem okF1 : EOK Try.prog F1 G0 := addE_ok (addE_ok (addE_ok (addE_ok (addE_ok okF0 ok22) ok34) ok23) ok11) ok27
end Z09

set_option maxRecDepth 100000
namespace Z09
open Go Go.AE Go.Proofs
attribute [local irreducible] loopK evCode evSpec loopB norm

theorem number_n (s : List UInt8) : ∃ v n : Nat, (number s).1 = (v : Int) ∧ (number s).2.1 = (n : Int) ∧ n ≤ s.length ∧ n ≤ 3 ∧ v < 1000 := by
  unfold number
  have := A8.run_le s
  by_cases h : (A8.runD s).length ≤ 3
  · rw [if_pos h]
    have hn := A8.num_le s (A8.runD s).length (Nat.le_refl _)
    rw [List.take_length] at hn
    have : 10 ^ (A8.runD s).length ≤ 10 ^ 3 := Nat.pow_le_pow_right (by decide) h
    exact ⟨_, (A8.runD s).length, rfl, rfl, by omega, h, by omega⟩
  · rw [if_neg h]; exact ⟨0, 0, rfl, rfl, by omega, by omega, by omega⟩
theorem after_n (s : List UInt8) (i : Nat) (c : UInt8) : ∃ v n : Nat, (after s i c).1 = (v : Int) ∧ (after s i c).2.1 = (n : Int) ∧ n ≤ s.length ∧ v < 1000 := by
  unfold after
  have hl : (s.drop i).length = s.length - i := List.length_drop
  cases h : s.drop i with
  | nil => exact ⟨0, 0, rfl, rfl, by omega, by omega⟩
  | cons b r =>
    rw [h, List.length_cons] at hl
    simp only
    by_cases hb : b = c
    · rw [if_pos hb]
      obtain ⟨v, n, e1, e2, h3, _, h5⟩ := number_n r
      refine ⟨v, i + 1 + n, e1, ?_, by omega, h5⟩
      rw [e2]
      simp
    · rw [if_neg hb]; exact ⟨0, 0, rfl, rfl, by omega, by omega⟩
theorem u8_int {c : Int} (h0 : 0 ≤ c) (h1 : c ≤ 255) : ((u8 c).toNat : Int) = c := by
  unfold u8
  simp [UInt8.toNat_ofNat']
  omega
theorem f35_ev (s : List UInt8) (i : Nat) (c : Int) (hs : (s.length : Int) ≤ big) (hi : (i : Int) ≤ big) (h0 : 0 ≤ c) (h1 : c ≤ 255) (K : List AV → Prop) (hK : K [i64 (after s i (u8 c)).1, i64 (after s i (u8 c)).2.1, bo (after s i (u8 c)).2.2]) :
    evSpec C1 Try.f35 [.imm (.str s), .imm (.int .i64 i), .imm (.int .u8 c)] K := by
  have hb : big = 9223372036854774000 := rfl
  rw [f35_in]
  have e1 : IntKind.wrap .i64 ((i : Int) + 1) = ((i + 1 : Nat) : Int) := by rw [wrap64 (by omega) (by omega)]; rfl
  rw [e1]
  simp only [Int.toNat_natCast, take_rest]
  refine ⟨fun h => by omega, fun h => by simpa using h, brn_intro (fun h => ?_) (fun h => ?_)⟩
  · have : after s i (u8 c) = (0, 0, false) := by
      unfold after
      by_cases hlt : i < s.length
      · rw [A8.getD_drop hlt]
        simp only
        rw [if_neg]
        intro e
        rw [e, u8_int h0 h1] at h
        simp at h
        omega
      · rw [List.drop_eq_nil_of_le (by omega)]
    rw [this] at hK
    exact hK
  · simp only [Bool.or_eq_false_iff, decide_eq_false_iff_not, bne_eq_false_iff_eq] at h
    have hlt : i < s.length := by omega
    have hc : s.getD i 0 = u8 c := UInt8.toNat_inj.1 (by have := u8_int h0 h1; omega)
    obtain ⟨v, n, g1, g2, g3, g4, _⟩ := number_n (s.drop (i + 1))
    have hl : (s.drop (i + 1)).length = s.length - (i + 1) := List.length_drop
    have e : after s i (u8 c) = ((number (s.drop (i + 1))).1, ((i + 1 : Nat) : Int) + (number (s.drop (i + 1))).2.1, (number (s.drop (i + 1))).2.2) := by
      unfold after
      rw [A8.getD_drop hlt]
      simp only
      rw [if_pos hc]
    rw [e] at hK
    have w : IntKind.wrap .i64 (((i + 1 : Nat) : Int) + (number (s.drop (i + 1))).2.1) = ((i + 1 : Nat) : Int) + (number (s.drop (i + 1))).2.1 := by rw [g2, wrap64 (by omega) (by omega)]
    rw [w]
    exact ⟨by omega, by omega, by omega, hK⟩
theorem ok35 : ∀ args pres res, sAfter args = some (pres, res) → SpecOK Try.prog G0 35 args pres res := by
  intro args pres res h
  unfold sAfter at h
  split at h
  case h_2 => cases h
  cases h
  rename_i s n c
  refine mk okF1 at35 (by decide) rfl (fun hp K hK => ?_)
  have h1 := hp _ (List.mem_cons_self ..)
  have h2 := hp _ (List.mem_cons_of_mem _ (List.mem_cons_self ..))
  have h3 := hp _ (List.mem_cons_of_mem _ (List.mem_cons_of_mem _ (List.mem_cons_self ..)))
  have h4 := hp _ (List.mem_cons_of_mem _ (List.mem_cons_of_mem _ (List.mem_cons_of_mem _ (List.mem_cons_self ..))))
  have h5 := hp _ (List.mem_cons_of_mem _ (List.mem_cons_of_mem _ (List.mem_cons_of_mem _ (List.mem_cons_of_mem _ (List.mem_cons_self ..)))))
  obtain ⟨i, rfl⟩ := nat_of h2
  simp only [Int.toNat_natCast] at hK
  exact f35_ev s i c h1 h3 h4 h5 K hK
theorem okF2 : EOK Try.prog F2 G0 := addE_ok okF1 ok35
theorem f28_ev (s : List UInt8) (hs : (s.length : Int) ≤ big - 10) (K : List AV → Prop) (hK : K [dayAV (date s).k (date s).d (date s).m (date s).w (date s).e 0, i64 (date s).n, bo (date s).ok]) : evSpec C2 Try.f28 [.imm (.str s)] K := by
  have hb : big = 9223372036854774000 := rfl
  rw [f28_in]
  refine brn_intro (fun h => ?_) (fun h => ?_)
  · have : s = [] := by simpa using h
    subst this
    exact hK
  · have hne : s ≠ [] := by simpa using h
    obtain ⟨b, r, rfl⟩ : ∃ b r, s = b :: r := by
      cases s with
      | nil => exact absurd rfl hne
      | cons b r => exact ⟨b, r, rfl⟩
    have et : ∀ l : List UInt8, List.take ((b :: r).length - Int.toNat 1) (List.drop (Int.toNat 1) (b :: r)) = r := fun _ => by
      show List.take (r.length + 1 - 1) r = r
      rw [Nat.add_sub_cancel, List.take_length]
    have et' := et []
    rw [et']
    obtain ⟨v, n, g1, g2, g3, g4, g5⟩ := number_n r
    have w1 : IntKind.wrap .i64 ((number r).2.1 + 1) = ((n + 1 : Nat) : Int) := by rw [g2, wrap64 (by simp at hs; omega) (by simp at hs; omega)]; rfl
    rw [w1]
    simp only [Int.toNat_natCast]
    have hl : ((b :: r).length : Int) = (r.length : Int) + 1 := by simp
    refine ⟨by decide, by omega, brn_intro (fun h1 => ?_) (fun h1 => ?_)⟩
    · have hb74 : b = 74 := by
        have : (b.toNat : Int) = 74 := by simpa using h1
        exact UInt8.toNat_inj.1 (by show b.toNat = 74; omega)
      subst hb74
      have e : date (74 :: r) = ⟨1, (number r).1, 0, 0, 0, (number r).2.1 + 1, (number r).2.2⟩ := rfl
      rw [e] at hK
      have e2 : (number r).2.1 + 1 = ((n + 1 : Nat) : Int) := by rw [g2]; rfl
      simp only at hK
      rw [e2] at hK
      exact ⟨by decide, by omega, by omega, hK⟩
    · have hb74 : b ≠ 74 := by rintro rfl; simp at h1
      refine brn_intro (fun h2 => ?_) (fun h2 => ?_)
      · have hb77 : b = 77 := by
          have : (b.toNat : Int) = 77 := by simpa using h2
          exact UInt8.toNat_inj.1 (by show b.toNat = 77; omega)
        subst hb77
        have e : date (77 :: r) = dateM (77 :: r) := rfl
        rw [e] at hK
        unfold dateM at hK
        have e1 : (77 :: r : List UInt8).drop 1 = r := rfl
        rw [e1, g2, Int.toNat_natCast] at hK
        rw [show u8 46 = 46 from rfl]
        obtain ⟨v2, n2, a1, a2, a3, _⟩ := after_n (77 :: r) (n + 1) 46
        obtain ⟨v3, n3, b1, b2, b3, _⟩ := after_n (77 :: r) n2 46
        refine ⟨by decide, by omega, by omega, brn_intro (fun h3 => ?_) (fun h3 => ?_)⟩
        · have h3' : (number r).2.2 = false := by simpa using h3
          rw [if_neg (by rw [h3']; simp)] at hK
          exact hK
        · have h3' : (number r).2.2 = true := by simpa using h3
          rw [if_pos h3'] at hK
          refine ⟨by omega, by omega, by omega, by decide, by decide, brn_intro (fun h4 => ?_) (fun h4 => ?_)⟩
          · have h4' : (after (77 :: r) (n + 1) 46).2.2 = false := by simpa using h4
            rw [if_neg (by rw [h4']; simp)] at hK
            exact hK
          · have h4' : (after (77 :: r) (n + 1) 46).2.2 = true := by simpa using h4
            rw [if_pos h4'] at hK
            rw [a2] at hK ⊢
            rw [Int.toNat_natCast] at hK ⊢
            exact ⟨by omega, by omega, by omega, by decide, by decide, hK⟩
      · have hb77 : b ≠ 77 := by rintro rfl; simp at h2
        have e : date (b :: r) = ⟨2, (number (b :: r)).1, 0, 0, 0, (number (b :: r)).2.1, (number (b :: r)).2.2⟩ := by
          show (if b = 74 then _ else if b = 77 then _ else _) = _
          rw [if_neg hb74, if_neg hb77]
        rw [e] at hK
        exact ⟨by omega, hK⟩
theorem ok28 : ∀ args pres res, sDate args = some (pres, res) → SpecOK Try.prog G0 28 args pres res := by
  intro args pres res h
  unfold sDate at h
  split at h
  case h_2 => cases h
  cases h
  rename_i s
  exact mk okF2 at28 (by decide) rfl (fun hp K hK => f28_ev s (hp _ (List.mem_cons_self ..)) K hK)
theorem okF3 : EOK Try.prog F3 G0 := addE_ok okF2 ok28
theorem date_n (s : List UInt8) : ∃ n : Nat, (date s).n = (n : Int) ∧ n ≤ s.length := by
  unfold date
  cases s with
  | nil => exact ⟨0, rfl, Nat.le_refl _⟩
  | cons b r =>
    obtain ⟨v, n, g1, g2, g3, g4, g5⟩ := number_n r
    obtain ⟨v', n', g1', g2', g3', _⟩ := number_n (b :: r)
    simp only
    split
    · exact ⟨n + 1, by show (number r).2.1 + 1 = _; rw [g2]; rfl, by simp; omega⟩
    · split
      · unfold dateM
        split
        · split
          · obtain ⟨_, n3, _, b2, b3, _⟩ := after_n (b :: r) (after (b :: r) ((number ((b :: r).drop 1)).2.1.toNat + 1) 46).2.1.toNat 46
            exact ⟨n3, b2, b3⟩
          · exact ⟨0, rfl, Nat.zero_le _⟩
        · exact ⟨0, rfl, Nat.zero_le _⟩
      · exact ⟨n', g2', g3'⟩
theorem parse_n (s : List UInt8) : ∃ n : Nat, (A8.parse s).2.1 = (n : Int) ∧ n ≤ s.length := by
  unfold A8.parse
  split
  · rename_i h
    obtain ⟨n, e, hn, _⟩ := A8.hours_le s (A8.off s) (A8.off_le_len s) h
    obtain ⟨_, _, n', e', _, h'⟩ := A8.fields_b s n hn
    refine ⟨n', ?_, h'⟩
    simp only
    rw [e, Int.toNat_natCast, e']
  · exact ⟨0, rfl, Nat.zero_le _⟩
theorem f15_ev (s : List UInt8) (hs : (s.length : Int) ≤ big - 20) (K : List AV → Prop) (hK : K [dayAV (day s).k (day s).d (day s).m (day s).w (day s).e (day s).t, i64 (day s).n, bo (day s).ok]) : evSpec C3 Try.f15 [.imm (.str s)] K := by
  have hb : big = 9223372036854774000 := rfl
  have hb8 : A8.big = 9223372036854775000 := rfl
  rw [f15_in]
  obtain ⟨n, en, hn⟩ := date_n s
  have w1 : IntKind.wrap .i64 ((date s).n + 1) = ((n + 1 : Nat) : Int) := by rw [en, wrap64 (by omega) (by omega)]; rfl
  rw [w1]
  simp only [Int.toNat_natCast, take_rest]
  have tail : ∀ (t : Int) (m : Int) (ok : Bool), (K [dayAV (dayT (date s) t m ok).k (dayT (date s) t m ok).d (dayT (date s) t m ok).m (dayT (date s) t m ok).w (dayT (date s) t m ok).e (dayT (date s) t m ok).t, i64 (dayT (date s) t m ok).n, bo (dayT (date s) t m ok).ok]) →
      brn (!ok || !validDay (date s).k (date s).d (date s).m (date s).w (date s).e t) (K [dayAV 0 0 0 0 0 0, i64 0, bo false]) (K [dayAV (date s).k (date s).d (date s).m (date s).w (date s).e t, i64 m, bo true]) := by
    intro t m ok h
    unfold dayT at h
    refine brn_intro (fun h1 => ?_) (fun h1 => ?_)
    · rw [if_neg] at h
      · exact h
      · simp only [Bool.or_eq_true, Bool.not_eq_true'] at h1
        simp only [Bool.and_eq_true, not_and, Bool.not_eq_true]
        rcases h1 with h1 | h1
        · intro h2; rw [h1] at h2; cases h2
        · intro _; exact h1
    · rw [if_pos] at h
      · exact h
      · simp only [Bool.or_eq_false_iff, Bool.not_eq_false'] at h1
        rw [h1.1, h1.2]; rfl
  refine ⟨by omega, fun _ => by omega, fun h => ?_, brn_intro (fun h => ?_) (fun h => ?_)⟩
  · rw [Bool.and_eq_true] at h; simpa using h.2
  · have hsl : slash s (date s) = true := by
      unfold slash
      simp only [Bool.and_eq_true, decide_eq_true_eq, beq_iff_eq] at h ⊢
      refine ⟨h.1, ?_⟩
      have := h.2
      exact UInt8.toNat_inj.1 (by show _ = 47; omega)
    have hlt : n < s.length := by
      simp only [Bool.and_eq_true, decide_eq_true_eq] at h
      omega
    unfold day at hK
    rw [if_pos hsl, en, Int.toNat_natCast] at hK
    obtain ⟨m, em, hm⟩ := parse_n (s.drop (n + 1))
    have hl : (s.drop (n + 1)).length = s.length - (n + 1) := List.length_drop
    have w2 : IntKind.wrap .i64 (((n + 1 : Nat) : Int) + (A8.parse (s.drop (n + 1))).2.1) = (n : Int) + 1 + (A8.parse (s.drop (n + 1))).2.1 := by rw [em, wrap64 (by omega) (by omega)]; omega
    rw [w2]
    exact ⟨by omega, by omega, by omega, tail _ _ _ hK⟩
  · have hsl : slash s (date s) = false := by
      cases hc : slash s (date s) with
      | false => rfl
      | true =>
        unfold slash at hc
        simp only [Bool.and_eq_true, decide_eq_true_eq, beq_iff_eq] at hc
        have : ((date s).ok && decide ((date s).n < (s.length : Int)) && (((s.getD (Int.toNat (date s).n) 0).toNat : Int) == 47)) = true := by
          simp only [Bool.and_eq_true, decide_eq_true_eq, beq_iff_eq]
          refine ⟨hc.1, ?_⟩
          rw [hc.2]
          rfl
        rw [this] at h
        cases h
    unfold day at hK
    rw [if_neg (by rw [hsl]; simp)] at hK
    exact tail _ _ _ hK
theorem ok15 : ∀ args pres res, sDay args = some (pres, res) → SpecOK Try.prog G0 15 args pres res := by
  intro args pres res h
  unfold sDay at h
  split at h
  case h_2 => cases h
  cases h
  rename_i s
  exact mk okF3 at15 (by decide) rfl (fun hp K hK => f15_ev s (hp _ (List.mem_cons_self ..)) K hK)
theorem validDay_b {k d m w e t : Int} (h : validDay k d m w e t = true) : -604799 ≤ t ∧ t ≤ 604799 ∧ 0 ≤ d ∧ d ≤ 365 ∧ 0 ≤ m ∧ m ≤ 12 ∧ 0 ≤ w ∧ w ≤ 5 ∧ 0 ≤ e ∧ e < 7 ∧ (k = 1 ∨ k = 2 ∨ k = 3) := by
  unfold validDay at h
  simp only [Bool.or_eq_true, Bool.and_eq_true, decide_eq_true_eq, beq_iff_eq] at h
  omega
theorem dd_len (n : Nat) : 1 ≤ (dd n).length ∧ (dd n).length ≤ 3 := A8.dd_len n
theorem fmt_len {n : Int} (h0 : -604799 ≤ n) (h1 : n ≤ 604799) : (A8.fmt n).length ≤ 10 := by
  unfold A8.fmt
  have := A8.fmtN_len n.natAbs (by omega)
  split
  · simp only [List.length_cons]; omega
  · omega
theorem f14_ev (k d m w e t : Int) (hv : validDay k d m w e t = true) (K : List AV → Prop) (hK : K [st (dayF k d m w e t)]) : evSpec C3 Try.f14 [dayAV k d m w e t] K := by
  rw [f14_in]
  obtain ⟨t0, t1, d0, d1, m0, m1, w0, w1, e0, e1, hk⟩ := validDay_b hv
  have lt := fmt_len t0 t1
  have ld := dd_len d.toNat
  have lm := dd_len m.toNat
  have lw := dd_len w.toNat
  have le := dd_len e.toNat
  unfold dayF at hK
  rcases hk with rfl | rfl | rfl
  · rw [if_pos rfl] at hK
    have hK' : K [.imm (.str ([74] ++ dd d.toNat ++ [47] ++ A8.fmt t))] := by simpa [st] using hK
    refine ⟨by omega, by omega, brn_intro (fun _ => ⟨by simp; omega, brn_intro (fun h => by simp at h) (fun _ => ?_)⟩) (fun h => by simp at h)⟩
    repeat' refine And.intro ?_ ?_
    all_goals first | omega | exact hK' | (simp only [List.length_append, List.length_cons, List.length_nil]; omega)
  · rw [if_neg (by decide), if_neg (by decide)] at hK
    have hK' : K [.imm (.str (dd d.toNat ++ [47] ++ A8.fmt t))] := by simpa [st] using hK
    refine ⟨by omega, by omega, brn_intro (fun h => by simp at h) (fun _ => brn_intro (fun h => by simp at h) (fun _ => ?_))⟩
    repeat' refine And.intro ?_ ?_
    all_goals first | omega | exact hK' | (simp only [List.length_append, List.length_cons, List.length_nil]; omega)
  · rw [if_neg (by decide), if_pos rfl] at hK
    have hK' : K [.imm (.str ([77] ++ dd m.toNat ++ [46] ++ dd w.toNat ++ [46] ++ dd e.toNat ++ [47] ++ A8.fmt t))] := by simpa [st] using hK
    refine ⟨by omega, by omega, brn_intro (fun h => by simp at h) (fun _ => brn_intro (fun _ => ?_) (fun h => by simp at h))⟩
    repeat' refine And.intro ?_ ?_
    all_goals first | omega | exact hK' | (simp only [List.length_append, List.length_cons, List.length_nil]; omega)
theorem ok14 : ∀ args pres res, sDayF args = some (pres, res) → SpecOK Try.prog G0 14 args pres res := by
  intro args pres res h
  unfold sDayF at h
  split at h
  case h_2 => cases h
  cases h
  rename_i k d m w e t
  exact mk okF3 at14 (by decide) rfl (fun hp K hK => f14_ev k d m w e t (hp _ (List.mem_cons_self ..)) K hK)
theorem okF4 : EOK Try.prog F4 G0 := addE_ok (addE_ok okF3 ok15) ok14
end Z09

