/- The walk's evaluator and its laws (over whatever program), and contracts of the program's functions. -/
import Derived.Test.YtmhnajhokkieoaaDoorAe3
import Derived.KernelRfl
import Derived.Recover
import Derived.Test.YtmhnajhokkieoaaDoorProg
import Derived.Laws.BitsLemmas
import Derived.WalkKit
import Derived.Lib.Walk
import Derived.Lib.SliceRun
import Derived.Lib.AppendZerosOnto
import Derived.Laws.Externs
import Derived.Lib.Mul64
set_option linter.all false
set_option maxRecDepth 100000
namespace P9
open Go Go.AE Go.Proofs
attribute [local irreducible] loopK evCode evSpec loopB norm
theorem at9 : Tryd.prog.funcs[28]? = some Tryd.f28 := by kernel_rfl
theorem at11 : Tryd.prog.funcs[81]? = some Tryd.f81 := by kernel_rfl
theorem at15 : Tryd.prog.funcs[73]? = some Tryd.f73 := by kernel_rfl
theorem at22 : Tryd.prog.funcs[49]? = some Tryd.f49 := by kernel_rfl
theorem at23 : Tryd.prog.funcs[53]? = some Tryd.f53 := by kernel_rfl
theorem at28 : Tryd.prog.funcs[91]? = some Tryd.f91 := by kernel_rfl
theorem at34 : Tryd.prog.funcs[98]? = some Tryd.f98 := by kernel_rfl
theorem at35 : Tryd.prog.funcs[99]? = some Tryd.f99 := by kernel_rfl
theorem mk {E : FuncId → List AV → Option (List Prop × List AV)} (hE : EOK Tryd.prog E G0) {f : FuncId} {fn : Func} {args res : List AV} {pres : List Prop} (hf : Tryd.prog.funcs[f]? = some fn) (hn : (fn.name == "runtime.NumGoroutine") = false) (hb : fn.body.isNone = false)
    (h : (∀ p, p ∈ pres → p) → ∀ K : List AV → Prop, K res → evSpec (cx E) fn args K) : SpecOK Tryd.prog G0 f args pres res :=
  spec_ok (C := cx E) hE noCall_ok hf hn hb (fun hp => h hp _ rfl)
theorem okF0 : EOK Tryd.prog F0 G0 := addE_ok (addE_ok P7.okE5 P8.ok9) P8.ok10
theorem wrap64 {n : Int} (h1 : -9223372036854775808 ≤ n) (h2 : n ≤ 9223372036854775807) : IntKind.wrap .i64 n = n := P8.wrap64 h1 h2
theorem nat_of {n : Int} (h : 0 ≤ n) : ∃ i : Nat, n = (i : Int) := ⟨n.toNat, by omega⟩
theorem take_rest (s : List UInt8) (i : Nat) : (s.drop i).take (s.length - i) = s.drop i := by
  rw [List.take_of_length_le]; simp
theorem ok22 : ∀ args pres res, sSide args = some (pres, res) → SpecOK Tryd.prog G0 49 args pres res := by
  intro args pres res h
  unfold sSide at h
  split at h
  case h_2 => cases h
  cases h
  exact mk okF0 at22 (by decide) rfl (fun _ K hK => by rw [show cx F0 = C0 from rfl, f22_in]; exact hK)
theorem digit_read {l : List UInt8} {n : Nat} : (decide ((n : Int) < (l.length : Int)) && decide (((l.getD n 0).toNat : Int) ≥ 48) && decide (((l.getD n 0).toNat : Int) ≤ 57)) = (P8.digit l n).2 := by
  rw [P8.digit_eq, Bool.eq_iff_iff]
  have hb := P8.isD_iff (l.getD n 0)
  simp only [Bool.and_eq_true, decide_eq_true_eq]
  by_cases h1 : n < l.length
  · rw [if_pos h1]
    by_cases h2 : P8.isD (l.getD n 0) = true
    · rw [if_pos h2]; simp only [iff_true]; have := hb.1 h2; omega
    · rw [if_neg h2]; simp only [Bool.false_eq_true, iff_false]; rw [hb] at h2; omega
  · rw [if_neg h1]; simp only [Bool.false_eq_true, iff_false]; omega
theorem digit_val {l : List UInt8} {n : Nat} (h : (P8.digit l n).2 = true) : n < l.length ∧ 48 ≤ (l.getD n 0).toNat ∧ (l.getD n 0).toNat ≤ 57 ∧ (P8.digit l n).1 = (l.getD n 0).toNat - 48 := by
  rw [P8.digit_eq] at h ⊢
  by_cases h1 : n < l.length
  · rw [if_pos h1] at h ⊢
    by_cases h2 : P8.isD (l.getD n 0) = true
    · rw [if_pos h2]
      have := (P8.isD_iff _).1 h2
      exact ⟨h1, this.1, this.2, rfl⟩
    · rw [if_neg h2] at h; cases h
  · rw [if_neg h1] at h; cases h
theorem w8sub {x : Int} (h1 : 48 ≤ x) (h2 : x ≤ 57) : IntKind.wrap .i64 (IntKind.wrap .u8 (x - 48)) = x - 48 := by
  rw [P8.wrap8 (by omega) (by omega), wrap64 (by omega) (by omega)]
def p34 : Plan := ⟨[], [true, false, true, true, true, true, true], []⟩
theorem f34_ev (s : List UInt8) (hs : (s.length : Int) ≤ big) (K : List AV → Prop) (hK : K [i64 (number s).1, i64 (number s).2.1, bo (number s).2.2]) : evSpec C0 Tryd.f98 [.imm (.str s)] K := by
  unfold big at hs
  rw [f34_in]
  unfold LoopI
  have hrl := P8.run_le s
  refine loop_rule (fun j : Nat => h34 s (P8.num ((P8.runD s).take j)) (j : Int)) (fun j => j ≤ 3 ∧ j ≤ (P8.runD s).length) (fun j => (P8.runD s).length - j)
    (fun j hP K' hnorm hexit => ?_) rfl 0 p34 _ ⟨by omega, by omega⟩ (by kernel_rfl)
  obtain ⟨h3, hle⟩ := hP
  have hd := P8.run_digit s j hle
  have hnl := P8.num_le s j hle
  have hn9 : P8.num ((P8.runD s).take j) < 1000 := by
    have : 10 ^ j ≤ 10 ^ 3 := Nat.pow_le_pow_right (by decide) h3
    omega
  have ej : IntKind.wrap .i64 ((j : Int) + 1) = ((j + 1 : Nat) : Int) := by rw [wrap64 (by omega) (by omega)]; omega
  unfold number at hK
  rw [f34_lp (hc := rfl)]
  refine ⟨fun h => by omega, fun h => by simpa using h, fun h => by omega, fun h => ?_, brn_intro (fun h => ?_) (fun h => ?_)⟩
  · rw [Bool.and_eq_true] at h; simpa using h.1
  · have h' : (P8.digit s j).2 = true := by rw [← digit_read]; exact h
    have hlt : j < (P8.runD s).length := by
      by_cases hlt : j < (P8.runD s).length
      · exact hlt
      · rw [hd, if_neg hlt] at h'; cases h'
    obtain ⟨v1, v2, v3, v4⟩ := digit_val h'
    refine brn_intro (fun h4 => ?_) (fun h4 => ?_)
    · have h4' : j = 3 := by simp only [beq_iff_eq] at h4; omega
      rw [if_neg (by omega)] at hK
      refine hexit _ _ (by simp) ?_
      exact Eq.mp (by kernel_rfl) hK
    · have h4' : ¬ j = 3 := by intro e; rw [e] at h4; simp at h4
      refine ⟨by omega, by omega, hnorm (j + 1) p34 _ ⟨by omega, hlt⟩ (by omega) ?_⟩
      have e2 : ((P8.num ((P8.runD s).take (j + 1)) : Nat) : Int) = IntKind.wrap .i64 (IntKind.wrap .i64 (((P8.num ((P8.runD s).take j) : Nat) : Int) * 10) + IntKind.wrap .i64 (IntKind.wrap .u8 (((s.getD (Int.toNat (j : Int)) 0).toNat : Int) - 48))) := by
        rw [P8.num_succ _ _ hlt]
        rw [hd, if_pos hlt] at v4
        simp only at v4
        rw [v4, Int.toNat_natCast, w8sub (by omega) (by omega), wrap64 (n := ((P8.num ((P8.runD s).take j) : Nat) : Int) * 10) (by omega) (by omega), wrap64 (by omega) (by omega)]
        omega
      rw [e2, ← ej]
      show _ = _
      kernel_rfl
  · have h' : (P8.digit s j).2 = false := by rw [← digit_read]; exact h
    have hj : j = (P8.runD s).length := by
      by_cases hlt : j < (P8.runD s).length
      · rw [hd, if_pos hlt] at h'; cases h'
      · omega
    refine hexit _ _ (by simp) ?_
    rw [if_pos (by omega), ← hj] at hK
    have e1 : P8.num (P8.runD s) = P8.num ((P8.runD s).take j) := by rw [hj, List.take_length]
    rw [e1] at hK
    have e2 : decide (0 < j) = decide ((j : Int) > 0) := by rw [Bool.eq_iff_iff]; simp only [decide_eq_true_eq]; omega
    rw [e2] at hK
    exact Eq.mp (by kernel_rfl) hK
theorem ok34 : ∀ args pres res, sNumber args = some (pres, res) → SpecOK Tryd.prog G0 98 args pres res := by
  intro args pres res h
  unfold sNumber at h
  split at h
  case h_2 => cases h
  cases h
  rename_i s
  exact mk okF0 at34 (by decide) rfl (fun hp K hK => f34_ev s (hp _ (List.mem_cons_self ..)) K hK)
theorem ok23 : ∀ args pres res, sValidDay args = some (pres, res) → SpecOK Tryd.prog G0 53 args pres res := by
  intro args pres res h
  unfold sValidDay at h
  split at h
  case h_2 => cases h
  cases h
  rename_i k d m w e t
  refine mk okF0 at23 (by decide) rfl (fun _ K hK => ?_)
  refine Eq.mpr (f23_in k d m w e t K) ?_
  have fin : ∀ b, b = validDay k d m w e t → K [.imm (.bool b)] := fun b hb => by rw [hb]; exact hK
  unfold validDay at fin
  refine brn_intro (fun h => fin _ ?_) (fun h => brn_intro (fun h1 => brn_intro (fun _ => fin _ ?_) (fun h2 => brn_intro (fun h3 => fin _ ?_) (fun h3 => fin _ ?_))) (fun h1 => brn_intro (fun h2 => fin _ ?_) (fun h2 => brn_intro (fun h3 => fin _ ?_) (fun h3 => fin _ ?_))))
  all_goals
    rw [Bool.eq_iff_iff]
    simp only [Bool.or_eq_true, Bool.and_eq_true, decide_eq_true_eq, beq_iff_eq, Bool.or_eq_false_iff, decide_eq_false_iff_not, beq_eq_false_iff_ne, ne_eq, Bool.false_eq_true, false_iff, iff_false] at *
    omega
theorem ok11 : ∀ args pres res, sValidDay args = some (pres, res) → SpecOK Tryd.prog G0 81 args pres res := by
  intro args pres res h
  unfold sValidDay at h
  split at h
  case h_2 => cases h
  cases h
  rename_i k d m w e t
  refine mk okF0 at11 (by decide) rfl (fun _ K hK => ?_)
  refine Eq.mpr (f11_in k d m w e t K) ?_
  have fin : ∀ b, b = validDay k d m w e t → K [.imm (.bool b)] := fun b hb => by rw [hb]; exact hK
  unfold validDay at fin
  refine brn_intro (fun h => fin _ ?_) (fun h => brn_intro (fun h1 => fin _ ?_) (fun h1 => brn_intro (fun h2 => fin _ ?_) (fun h2 => fin _ ?_)))
  all_goals
    rw [Bool.eq_iff_iff]
    simp only [Bool.or_eq_true, Bool.and_eq_true, decide_eq_true_eq, beq_iff_eq, Bool.or_eq_false_iff, decide_eq_false_iff_not, beq_eq_false_iff_ne, ne_eq, Bool.false_eq_true, false_iff, iff_false] at *
    omega
theorem okF1 : EOK Tryd.prog F1 G0 := addE_ok (addE_ok (addE_ok (addE_ok okF0 ok22) ok34) ok23) ok11
theorem number_n (s : List UInt8) : ∃ v n : Nat, (number s).1 = (v : Int) ∧ (number s).2.1 = (n : Int) ∧ n ≤ s.length ∧ n ≤ 3 ∧ v < 1000 := by
  unfold number
  have := P8.run_le s
  by_cases h : (P8.runD s).length ≤ 3
  · rw [if_pos h]
    have hn := P8.num_le s (P8.runD s).length (Nat.le_refl _)
    rw [List.take_length] at hn
    have : 10 ^ (P8.runD s).length ≤ 10 ^ 3 := Nat.pow_le_pow_right (by decide) h
    exact ⟨_, (P8.runD s).length, rfl, rfl, by omega, h, by omega⟩
  · rw [if_neg h]; exact ⟨0, 0, rfl, rfl, by omega, by omega, by omega⟩
theorem after_n (s : List UInt8) (i : Nat) (c : UInt8) : ∃ v n : Nat, (after s i c).1 = (v : Int) ∧ (after s i c).2.1 = (n : Int) ∧ n ≤ s.length ∧ v < 1000 := by
  unfold after
  have hl : (s.drop i).length = s.length - i := List.length_drop
  cases h : s.drop i with
  | nil => exact ⟨0, 0, rfl, rfl, by omega, by omega⟩
  | cons b r =>
    rw [h, List.length_cons] at hl
    simp only
    by_cases hb : b = c
    · rw [if_pos hb]
      obtain ⟨v, n, e1, e2, h3, _, h5⟩ := number_n r
      refine ⟨v, i + 1 + n, e1, ?_, by omega, h5⟩
      rw [e2]
      simp
    · rw [if_neg hb]; exact ⟨0, 0, rfl, rfl, by omega, by omega⟩
theorem u8_int {c : Int} (h0 : 0 ≤ c) (h1 : c ≤ 255) : ((u8 c).toNat : Int) = c := by
  unfold u8
  simp [UInt8.toNat_ofNat']
  omega
theorem f35_ev (s : List UInt8) (i : Nat) (c : Int) (hs : (s.length : Int) ≤ big) (hi : (i : Int) ≤ big) (h0 : 0 ≤ c) (h1 : c ≤ 255) (K : List AV → Prop) (hK : K [i64 (after s i (u8 c)).1, i64 (after s i (u8 c)).2.1, bo (after s i (u8 c)).2.2]) :
    evSpec C1 Tryd.f99 [.imm (.str s), .imm (.int .i64 i), .imm (.int .u8 c)] K := by
  have hb : big = 9223372036854774000 := rfl
  rw [f35_in]
  have e1 : IntKind.wrap .i64 ((i : Int) + 1) = ((i + 1 : Nat) : Int) := by rw [wrap64 (by omega) (by omega)]; first | done | rfl
  rw [e1]
  simp only [Int.toNat_natCast, take_rest]
  refine ⟨fun h => by omega, fun h => by simpa using h, brn_intro (fun h => ?_) (fun h => ?_)⟩
  · have : after s i (u8 c) = (0, 0, false) := by
      unfold after
      by_cases hlt : i < s.length
      · rw [P8.getD_drop hlt]
        simp only
        rw [if_neg]
        intro e
        rw [e, u8_int h0 h1] at h
        simp at h
        omega
      · rw [List.drop_eq_nil_of_le (by omega)]
    rw [this] at hK
    exact hK
  · simp only [Bool.or_eq_false_iff, decide_eq_false_iff_not, bne_eq_false_iff_eq] at h
    have hlt : i < s.length := by omega
    have hc : s.getD i 0 = u8 c := UInt8.toNat_inj.1 (by have := u8_int h0 h1; omega)
    obtain ⟨v, n, g1, g2, g3, g4, _⟩ := number_n (s.drop (i + 1))
    have hl : (s.drop (i + 1)).length = s.length - (i + 1) := List.length_drop
    have e : after s i (u8 c) = ((number (s.drop (i + 1))).1, ((i + 1 : Nat) : Int) + (number (s.drop (i + 1))).2.1, (number (s.drop (i + 1))).2.2) := by
      unfold after
      rw [P8.getD_drop hlt]
      simp only
      rw [if_pos hc]
    rw [e] at hK
    have w : IntKind.wrap .i64 (((i + 1 : Nat) : Int) + (number (s.drop (i + 1))).2.1) = ((i + 1 : Nat) : Int) + (number (s.drop (i + 1))).2.1 := by rw [g2, wrap64 (by omega) (by omega)]
    rw [w]
    exact ⟨by omega, by omega, by omega, hK⟩
theorem ok35 : ∀ args pres res, sAfter args = some (pres, res) → SpecOK Tryd.prog G0 99 args pres res := by
  intro args pres res h
  unfold sAfter at h
  split at h
  case h_2 => cases h
  cases h
  rename_i s n c
  refine mk okF1 at35 (by decide) rfl (fun hp K hK => ?_)
  have h1 := hp _ (List.mem_cons_self ..)
  have h2 := hp _ (List.mem_cons_of_mem _ (List.mem_cons_self ..))
  have h3 := hp _ (List.mem_cons_of_mem _ (List.mem_cons_of_mem _ (List.mem_cons_self ..)))
  have h4 := hp _ (List.mem_cons_of_mem _ (List.mem_cons_of_mem _ (List.mem_cons_of_mem _ (List.mem_cons_self ..))))
  have h5 := hp _ (List.mem_cons_of_mem _ (List.mem_cons_of_mem _ (List.mem_cons_of_mem _ (List.mem_cons_of_mem _ (List.mem_cons_self ..)))))
  obtain ⟨i, rfl⟩ := nat_of h2
  simp only [Int.toNat_natCast] at hK
  exact f35_ev s i c h1 h3 h4 h5 K hK
theorem okF2 : EOK Tryd.prog F2 G0 := addE_ok okF1 ok35
theorem f28_ev (s : List UInt8) (hs : (s.length : Int) ≤ big - 10) (K : List AV → Prop) (hK : K [dayAV (date s).k (date s).d (date s).m (date s).w (date s).e 0, i64 (date s).n, bo (date s).ok]) : evSpec C2 Tryd.f91 [.imm (.str s)] K := by
  have hb : big = 9223372036854774000 := rfl
  rw [f28_in (hm := rfl)]
  refine brn_intro (fun h => ?_) (fun h => ?_)
  · have : s = [] := by simpa using h
    subst this
    exact hK
  · have hne : s ≠ [] := by simpa using h
    obtain ⟨b, r, rfl⟩ : ∃ b r, s = b :: r := by
      cases s with
      | nil => exact absurd rfl hne
      | cons b r => exact ⟨b, r, rfl⟩
    have et : ∀ l : List UInt8, List.take ((b :: r).length - Int.toNat 1) (List.drop (Int.toNat 1) (b :: r)) = r := fun _ => by
      show List.take (r.length + 1 - 1) r = r
      rw [Nat.add_sub_cancel, List.take_length]
    have et' := et []
    rw [et']
    obtain ⟨v, n, g1, g2, g3, g4, g5⟩ := number_n r
    have w1 : IntKind.wrap .i64 ((number r).2.1 + 1) = ((n + 1 : Nat) : Int) := by rw [g2, wrap64 (by simp at hs; omega) (by simp at hs; omega)]; first | done | rfl
    rw [w1]
    simp only [Int.toNat_natCast]
    have hl : ((b :: r).length : Int) = (r.length : Int) + 1 := by simp
    refine ⟨by decide, by omega, brn_intro (fun h1 => ?_) (fun h1 => ?_)⟩
    · have hb74 : b = 74 := by
        have : (b.toNat : Int) = 74 := by simpa using h1
        exact UInt8.toNat_inj.1 (by show b.toNat = 74; omega)
      subst hb74
      have e : date (74 :: r) = ⟨1, (number r).1, 0, 0, 0, (number r).2.1 + 1, (number r).2.2⟩ := rfl
      rw [e] at hK
      have e2 : (number r).2.1 + 1 = ((n + 1 : Nat) : Int) := by rw [g2]; first | done | rfl
      simp only at hK
      rw [e2] at hK
      exact ⟨by decide, by omega, by omega, hK⟩
    · have hb74 : b ≠ 74 := by rintro rfl; simp at h1
      refine brn_intro (fun h2 => ?_) (fun h2 => ?_)
      · have hb77 : b = 77 := by
          have : (b.toNat : Int) = 77 := by simpa using h2
          exact UInt8.toNat_inj.1 (by show b.toNat = 77; omega)
        subst hb77
        have e : date (77 :: r) = dateM (77 :: r) := rfl
        rw [e] at hK
        unfold dateM at hK
        have e1 : (77 :: r : List UInt8).drop 1 = r := rfl
        rw [e1, g2, Int.toNat_natCast] at hK
        rw [show u8 46 = 46 from rfl]
        obtain ⟨v2, n2, a1, a2, a3, _⟩ := after_n (77 :: r) (n + 1) 46
        obtain ⟨v3, n3, b1, b2, b3, _⟩ := after_n (77 :: r) n2 46
        refine ⟨by decide, by omega, by omega, brn_intro (fun h3 => ?_) (fun h3 => ?_)⟩
        · have h3' : (number r).2.2 = false := by simpa using h3
          rw [if_neg (by rw [h3']; simp)] at hK
          exact hK
        · have h3' : (number r).2.2 = true := by simpa using h3
          rw [if_pos h3'] at hK
          refine ⟨by omega, by omega, by omega, by decide, by decide, brn_intro (fun h4 => ?_) (fun h4 => ?_)⟩
          · have h4' : (after (77 :: r) (n + 1) 46).2.2 = false := by simpa using h4
            rw [if_neg (by rw [h4']; simp)] at hK
            exact hK
          · have h4' : (after (77 :: r) (n + 1) 46).2.2 = true := by simpa using h4
            rw [if_pos h4'] at hK
            rw [a2] at hK ⊢
            rw [Int.toNat_natCast] at hK ⊢
            exact ⟨by omega, by omega, by omega, by decide, by decide, hK⟩
      · have hb77 : b ≠ 77 := by rintro rfl; simp at h2
        have e : date (b :: r) = ⟨2, (number (b :: r)).1, 0, 0, 0, (number (b :: r)).2.1, (number (b :: r)).2.2⟩ := by
          show (if b = 74 then _ else if b = 77 then _ else _) = _
          rw [if_neg hb74, if_neg hb77]
        rw [e] at hK
        exact ⟨by omega, hK⟩
theorem ok28 : ∀ args pres res, sDate args = some (pres, res) → SpecOK Tryd.prog G0 91 args pres res := by
  intro args pres res h
  unfold sDate at h
  split at h
  case h_2 => cases h
  cases h
  rename_i s
  exact mk okF2 at28 (by decide) rfl (fun hp K hK => f28_ev s (hp _ (List.mem_cons_self ..)) K hK)
theorem okF3 : EOK Tryd.prog F3 G0 := addE_ok okF2 ok28
theorem date_n (s : List UInt8) : ∃ n : Nat, (date s).n = (n : Int) ∧ n ≤ s.length := by
  unfold date
  cases s with
  | nil => exact ⟨0, rfl, Nat.le_refl _⟩
  | cons b r =>
    obtain ⟨v, n, g1, g2, g3, g4, g5⟩ := number_n r
    obtain ⟨v', n', g1', g2', g3', _⟩ := number_n (b :: r)
    simp only
    split
    · exact ⟨n + 1, by show (number r).2.1 + 1 = _; rw [g2]; rfl, by simp; omega⟩
    · split
      · unfold dateM
        split
        · split
          · obtain ⟨_, n3, _, b2, b3, _⟩ := after_n (b :: r) (after (b :: r) ((number ((b :: r).drop 1)).2.1.toNat + 1) 46).2.1.toNat 46
            exact ⟨n3, b2, b3⟩
          · exact ⟨0, rfl, Nat.zero_le _⟩
        · exact ⟨0, rfl, Nat.zero_le _⟩
      · exact ⟨n', g2', g3'⟩
theorem parse_n (s : List UInt8) : ∃ n : Nat, (P8.parse s).2.1 = (n : Int) ∧ n ≤ s.length := by
  unfold P8.parse
  split
  · rename_i h
    obtain ⟨n, e, hn, _⟩ := P8.hours_le s (P8.off s) (P8.off_le_len s) h
    obtain ⟨_, _, n', e', _, h'⟩ := P8.fields_b s n hn
    refine ⟨n', ?_, h'⟩
    simp only
    rw [e, Int.toNat_natCast, e']
  · exact ⟨0, rfl, Nat.zero_le _⟩
theorem f15_ev (s : List UInt8) (hs : (s.length : Int) ≤ big - 20) (K : List AV → Prop) (hK : K [dayAV (day s).k (day s).d (day s).m (day s).w (day s).e (day s).t, i64 (day s).n, bo (day s).ok]) : evSpec C3 Tryd.f73 [.imm (.str s)] K := by
  have hb : big = 9223372036854774000 := rfl
  have hb8 : P8.big = 9223372036854775000 := rfl
  rw [f15_in]
  obtain ⟨n, en, hn⟩ := date_n s
  have w1 : IntKind.wrap .i64 ((date s).n + 1) = ((n + 1 : Nat) : Int) := by rw [en, wrap64 (by omega) (by omega)]; first | done | rfl
  rw [w1]
  simp only [Int.toNat_natCast, take_rest]
  have tail : ∀ (t : Int) (m : Int) (ok : Bool), (K [dayAV (dayT (date s) t m ok).k (dayT (date s) t m ok).d (dayT (date s) t m ok).m (dayT (date s) t m ok).w (dayT (date s) t m ok).e (dayT (date s) t m ok).t, i64 (dayT (date s) t m ok).n, bo (dayT (date s) t m ok).ok]) →
      brn (!ok || !validDay (date s).k (date s).d (date s).m (date s).w (date s).e t) (K [dayAV 0 0 0 0 0 0, i64 0, bo false]) (K [dayAV (date s).k (date s).d (date s).m (date s).w (date s).e t, i64 m, bo true]) := by
    intro t m ok h
    unfold dayT at h
    refine brn_intro (fun h1 => ?_) (fun h1 => ?_)
    · rw [if_neg] at h
      · exact h
      · simp only [Bool.or_eq_true, Bool.not_eq_true'] at h1
        simp only [Bool.and_eq_true, not_and, Bool.not_eq_true]
        rcases h1 with h1 | h1
        · intro h2; rw [h1] at h2; cases h2
        · intro _; exact h1
    · rw [if_pos] at h
      · exact h
      · simp only [Bool.or_eq_false_iff, Bool.not_eq_false'] at h1
        rw [h1.1, h1.2]; first | done | rfl
  refine ⟨by omega, fun _ => by omega, fun h => ?_, brn_intro (fun h => ?_) (fun h => ?_)⟩
  · rw [Bool.and_eq_true] at h; simpa using h.2
  · have hsl : slash s (date s) = true := by
      unfold slash
      simp only [Bool.and_eq_true, decide_eq_true_eq, beq_iff_eq] at h ⊢
      refine ⟨h.1, ?_⟩
      have := h.2
      exact UInt8.toNat_inj.1 (by show _ = 47; omega)
    have hlt : n < s.length := by
      simp only [Bool.and_eq_true, decide_eq_true_eq] at h
      omega
    unfold day at hK
    rw [if_pos hsl, en, Int.toNat_natCast] at hK
    obtain ⟨m, em, hm⟩ := parse_n (s.drop (n + 1))
    have hl : (s.drop (n + 1)).length = s.length - (n + 1) := List.length_drop
    have w2 : IntKind.wrap .i64 (((n + 1 : Nat) : Int) + (P8.parse (s.drop (n + 1))).2.1) = (n : Int) + 1 + (P8.parse (s.drop (n + 1))).2.1 := by rw [em, wrap64 (by omega) (by omega)]; omega
    rw [w2]
    exact ⟨by omega, by omega, by omega, tail _ _ _ hK⟩
  · have hsl : slash s (date s) = false := by
      cases hc : slash s (date s) with
      | false => rfl
      | true =>
        unfold slash at hc
        simp only [Bool.and_eq_true, decide_eq_true_eq, beq_iff_eq] at hc
        have : ((date s).ok && decide ((date s).n < (s.length : Int)) && (((s.getD (Int.toNat (date s).n) 0).toNat : Int) == 47)) = true := by
          simp only [Bool.and_eq_true, decide_eq_true_eq, beq_iff_eq]
          refine ⟨hc.1, ?_⟩
          rw [hc.2]
          first | done | rfl
        rw [this] at h
        cases h
    unfold day at hK
    rw [if_neg (by rw [hsl]; simp)] at hK
    exact tail _ _ _ hK
theorem ok15 : ∀ args pres res, sDay args = some (pres, res) → SpecOK Tryd.prog G0 73 args pres res := by
  intro args pres res h
  unfold sDay at h
  split at h
  case h_2 => cases h
  cases h
  rename_i s
  exact mk okF3 at15 (by decide) rfl (fun hp K hK => f15_ev s (hp _ (List.mem_cons_self ..)) K hK)
theorem dd_len (n : Nat) : 1 ≤ (dd n).length ∧ (dd n).length ≤ 3 := P8.dd_len n
theorem okF4 : EOK Tryd.prog F4 G0 := addE_ok okF3 ok15
theorem f9_in (a : List UInt8) (o : Int) (h : Bool) (b : List UInt8) (p : Int) (k : Int) (d : Int) (m : Int) (w : Int) (e : Int) (t : Int) (k' : Int) (d' : Int) (m' : Int) (w' : Int) (e' : Int) (t' : Int) (K : List AV → Prop) : evSpec C4 Tryd.f28 [ruleAV a o h b p k d m w e t k' d' m' w' e' t'] K = (a.length ≤ 9223372036854775807 ∧ brn (!P7.valid a || !side o) (K [bo false]) (brn (!h) (K [bo (decide (a = a) && (o == o && (h == false && (decide (b = []) && (p == 0 && (k == 0 && (d == 0 && (m == 0 && (w == 0 && (e == 0 && (t == 0 && true))))) && (k' == 0 && (d' == 0 && (m' == 0 && (w' == 0 && (e' == 0 && (t' == 0 && true))))) && true)))))))]) (b.length ≤ 9223372036854775807 ∧ K [bo (P7.valid b && side p && validDay k d m w e t && validDay k' d' m' w' e' t')]))) := by kernel_rfl
theorem f8_a (s : List UInt8) (k : AX → St → Prop) : evCode C5 a8 (e8 s) k = (k AX.normal (St.mk (lapp [st s, AV.dead, AV.ptr (0 : Nat) (0 : Nat), AV.ptr (1 : Nat) (0 : Nat), AV.ptr (2 : Nat) (0 : Nat), AV.ptr (3 : Nat) (0 : Nat), st s, AV.agg [st s, i64 0], AV.ptr (3 : Nat) (0 : Nat)] (dN 31)) [((0 : Nat), Ob.mk true (0 : Nat) (AObj.cells (R8 [] 0))), ((1 : Nat), Ob.mk true (0 : Nat) (AObj.cells [i64 0])), ((2 : Nat), Ob.mk true (0 : Nat) (AObj.cells [i64 0])), ((3 : Nat), Ob.mk true (0 : Nat) (AObj.cells [st s, i64 0]))] (4 : Nat) [])) := by kernel_rfl
theorem f8_n (s : List UInt8) (i : Int) (a : List UInt8) (o : Int) (x : AV) (y : AV) (z : AV) (t : Nat → AV) (k : AX → St → Prop) : evCode C5 (c8 [Dir.r, Dir.r, Dir.r, Dir.l]) (S8 s i (R8 a o) x y z t) k = ((0 : Int) ≤ i ∧ i ≤ (s.length : Int) ∧ (List.take (s.length - i.toNat) (List.drop i.toNat s)).length ≤ 9223372036854775800 ∧ brn (!(P7.parse (List.take (s.length - i.toNat) (List.drop i.toNat s))).2.2) (k (AX.panic (AV.ifc (63 : Nat) (.agg [i64 i]))) (St.mk (lapp [st s, .dead, .ptr 0 0, .ptr 1 0, .ptr 2 0, .ptr 3 0, x, y, z, AV.fn (23 : Nat) [] [.ptr 0 0, .ptr 1 0, .ptr 2 0], .ptr 3 0] (tlR t 11 40)) [(0, Ob.mk true 0 (AObj.cells (R8 a o))), (1, Ob.mk true 0 (AObj.cells [i64 0])), (2, Ob.mk true 0 (AObj.cells [i64 0])), (3, Ob.mk true 0 (AObj.cells [st s, i64 i]))] (4 : Nat) [.ptr 0 0, .ptr 1 0, .ptr 2 0])) (k AX.normal (St.mk (lapp [st s, .dead, .ptr 0 0, .ptr 1 0, .ptr 2 0, .ptr 3 0, x, y, z, AV.fn (23 : Nat) [] [.ptr 0 0, .ptr 1 0, .ptr 2 0], .ptr 3 0, st (P7.parse (List.take (s.length - i.toNat) (List.drop i.toNat s))).1, .ptr 0 0] (tlR t 13 40)) [(0, Ob.mk true 0 (AObj.cells (R8 (P7.parse (List.take (s.length - i.toNat) (List.drop i.toNat s))).1 o))), (1, Ob.mk true 0
 (AObj.cells [i64 0])), (2, Ob.mk true 0 (AObj.cells [i64 0])), (3, Ob.mk true 0 (AObj.cells [st s, i64 (IntKind.wrap .i64 (i + (P7.parse (List.take (s.length - i.toNat) (List.drop i.toNat s))).2.1))]))] (4 : Nat) [.ptr 0 0, .ptr 1 0, .ptr 2 0]))) := by kernel_rfl
theorem f8_o (s : List UInt8) (i : Int) (a : List UInt8) (o : Int) (x : AV) (y : AV) (z : AV) (t : Nat → AV) (k : AX → St → Prop) : evCode C5 (c8 [Dir.r, Dir.r, Dir.r, Dir.r, Dir.l]) (S8 s i (R8 a o) x y z t) k = ((0 : Int) ≤ i ∧ i ≤ (s.length : Int) ∧ (↑(List.take (s.length - i.toNat) (List.drop i.toNat s)).length : Int) ≤ P8.big ∧ brn (!((P8.parse (List.take (s.length - i.toNat) (List.drop i.toNat s))).2.2 && side (P8.parse (List.take (s.length - i.toNat) (List.drop i.toNat s))).1)) (k (AX.panic (AV.ifc (63 : Nat) (.agg [i64 i]))) (St.mk (lapp [st s, .dead, .ptr 0 0, .ptr 1 0, .ptr 2 0, .ptr 3 0, x, y, z, AV.fn (23 : Nat) [] [.ptr 0 0, .ptr 1 0, .ptr 2 0], t 10, t 11, t 12, .ptr 3 0] (tlR t 14 40)) [(0, Ob.mk true 0 (AObj.cells (R8 a o))), (1, Ob.mk true 0 (AObj.cells [i64 0])), (2, Ob.mk true 0 (AObj.cells [i64 0])), (3, Ob.mk true 0 (AObj.cells [st s, i64 i]))] (4 : Nat) [.ptr 0 0, .ptr 1 0, .ptr 2 0])) (k AX.normal (St.mk (lapp [st s, .dead, .ptr 0 0, .ptr 1 0, .ptr 2 0, .ptr 3 0, x, y, z, AV.fn (23 : Nat) [] [.ptr 0 0, .ptr 1 0, .ptr 2 0], t 10, t 11, t 12, .ptr 3 0, i64 (IntKind.wrap .i64 ((0 : Int) - (P8.parse (List.take (s.length - i.toNat) (List.drop i.toNat s))).1)), .ptr
 0 1] (tlR t 16 40)) [(0, Ob.mk true 0 (AObj.cells (R8 a (IntKind.wrap .i64 ((0 : Int) - (P8.parse (List.take (s.length - i.toNat) (List.drop i.toNat s))).1))))), (1, Ob.mk true 0 (AObj.cells [i64 0])), (2, Ob.mk true 0 (AObj.cells [i64 0])), (3, Ob.mk true 0 (AObj.cells [st s, i64 (IntKind.wrap .i64 (i + (P8.parse (List.take (s.length - i.toNat) (List.drop i.toNat s))).2.1))]))] (4 : Nat) [.ptr 0 0, .ptr 1 0, .ptr 2 0]))) := by kernel_rfl
theorem d_1 (s : List UInt8) (i : Int) (R0 : List AV) (R2 : List AV) (a : List UInt8) (o : Int) (h : Bool) (b : List UInt8) (p : Int) (k : Int) (d : Int) (m : Int) (w : Int) (e : Int) (t : Int) (k' : Int) (d' : Int) (m' : Int) (w' : Int) (e' : Int) (t' : Int) (x : AV) (y : AV) (OUT : List AV) (T : Nat → AV) (K : AX → St → Prop) : evCode C4i (c19 [Dir.r, Dir.l]) (S19 s i R0 (R17 a o h b p k d m w e t k' d' m' w' e' t') R2 x y OUT T) K = (((0 : Int) ≤ i ∧ i ≤ (s.length : Int) ∧ (List.take (s.length - i.toNat) (List.drop i.toNat s)).length ≤ 9223372036854775800 ∧ brn (!(P7.parse (List.take (s.length - i.toNat) (List.drop i.toNat s))).2.2) (K (AX.panic (AV.ifc (63 : Nat) (.agg [i64 i]))) (St.mk (lapp [.ptr 3 0, x, y, .ptr 4 0, .ptr 5 0, T 5, T 6, T 7, .ptr 3 0, T 9, .ptr 4 1] (tlR T 11 45)) [(0, Ob.mk true 0 (AObj.cells R0)), (1, Ob.mk true 0 (AObj.cells [i64 0])), (2, Ob.mk true 0 (AObj.cells [i64 0])), (3, Ob.mk true 0 (AObj.cells [st s, i64 i])), (4, Ob.mk true 0 (AObj.cells (R17 a o h b p k d m w e t k' d' m' w' e' t'))), (5, Ob.mk true 0 (AObj.cells R2))] (6 : Nat) OUT)) (K AX.normal (St.mk (lapp [.ptr 3 0, x, y, .ptr 4 0, .ptr 5 0, T 5, T 6, T 7, .ptr 3 0, st (P7.parse (List.take
 (s.length - i.toNat) (List.drop i.toNat s))).1, .ptr 4 1, i64 o, i64 (IntKind.wrap .i64 (o + 3600)), .ptr 4 2, .ptr 4 3, .ptr 4 4] (tlR T 16 45)) [(0, Ob.mk true 0 (AObj.cells R0)), (1, Ob.mk true 0 (AObj.cells [i64 0])), (2, Ob.mk true 0 (AObj.cells [i64 0])), (3, Ob.mk true 0 (AObj.cells [st s, i64 (IntKind.wrap .i64 (i + (P7.parse (List.take (s.length - i.toNat) (List.drop i.toNat s))).2.1))])), (4, Ob.mk true 0 (AObj.cells (R17 a o true (P7.parse (List.take (s.length - i.toNat) (List.drop i.toNat s))).1 (IntKind.wrap .i64 (o + 3600)) k d m w e t k' d' m' w' e' t'))), (5, Ob.mk true 0 (AObj.cells R2))] (6 : Nat) OUT))) ∧ (0 : Int) ≤ i ∧ i ≤ (s.length : Int) ∧ (List.take (s.length - i.toNat) (List.drop i.toNat s)).length ≤ 9223372036854775800 ∧ brn (!(P7.parse (List.take (s.length - i.toNat) (List.drop i.toNat s))).2.2) (K (AX.panic (AV.ifc (63 : Nat) (.agg [i64 i]))) (St.mk (lapp [.ptr 3 0, x, y, .ptr 4 0, .ptr 5 0, T 5, T 6, T 7, .ptr 3 0, T 9, .ptr 4 1, i64 o, i64 (IntKind.wrap .i64 (o + 3600)), .ptr 4 2] (tlR T 14 45)) [(0, Ob.mk true 0 (AObj.cells R0)), (1, Ob.mk true 0 (AObj.cells [i64 0])), (2, Ob.mk true 0 (AObj.cells [i64 0])), (3, Ob.mk true 0 (AObj.cells [st s, i64
 i])), (4, Ob.mk true 0 (AObj.cells (R17 a o h b p k d m w e t k' d' m' w' e' t'))), (5, Ob.mk true 0 (AObj.cells R2))] (6 : Nat) OUT)) (K AX.normal (St.mk (lapp [.ptr 3 0, x, y, .ptr 4 0, .ptr 5 0, T 5, T 6, T 7, .ptr 3 0, st (P7.parse (List.take (s.length - i.toNat) (List.drop i.toNat s))).1, .ptr 4 1, i64 o, i64 (IntKind.wrap .i64 (o + 3600)), .ptr 4 2, .ptr 4 3, .ptr 4 4] (tlR T 16 45)) [(0, Ob.mk true 0 (AObj.cells R0)), (1, Ob.mk true 0 (AObj.cells [i64 0])), (2, Ob.mk true 0 (AObj.cells [i64 0])), (3, Ob.mk true 0 (AObj.cells [st s, i64 (IntKind.wrap .i64 (i + (P7.parse (List.take (s.length - i.toNat) (List.drop i.toNat s))).2.1))])), (4, Ob.mk true 0 (AObj.cells (R17 a o true (P7.parse (List.take (s.length - i.toNat) (List.drop i.toNat s))).1 (IntKind.wrap .i64 (o + 3600)) k d m w e t k' d' m' w' e' t'))), (5, Ob.mk true 0 (AObj.cells R2))] (6 : Nat) OUT))) := by kernel_rfl
theorem d_2 (s : List UInt8) (i : Int) (R0 : List AV) (R2 : List AV) (a : List UInt8) (o : Int) (h : Bool) (b : List UInt8) (p : Int) (k : Int) (d : Int) (m : Int) (w : Int) (e : Int) (t : Int) (k' : Int) (d' : Int) (m' : Int) (w' : Int) (e' : Int) (t' : Int) (x : AV) (y : AV) (OUT : List AV) (T : Nat → AV) (K : AX → St → Prop) (Z : Int × Int × Bool) (hZ : Z = P8.parse (List.take (s.length - i.toNat) (List.drop i.toNat s))) : evCode C4i (c19 [Dir.r, Dir.r, Dir.l]) (S19 s i R0 (R17 a o h b p k d m w e t k' d' m' w' e' t') R2 x y OUT T) K = ((0 : Int) ≤ i ∧ i ≤ (s.length : Int) ∧ (↑(List.take (s.length - i.toNat) (List.drop i.toNat s)).length : Int) ≤ P8.big ∧ brn (Prod.snd Z).2 ((0 : Int) ≤ i ∧ i ≤ (s.length : Int) ∧ (↑(List.take (s.length - i.toNat) (List.drop i.toNat s)).length : Int) ≤ P8.big ∧ brn (!((Prod.snd Z).2 && side (Prod.fst Z))) (K (AX.panic (AV.ifc (63 : Nat) (.agg [i64 i]))) (St.mk (lapp [.ptr 3 0, x, y, .ptr 4 0, .ptr 5 0, i64 (Prod.fst Z), i64 (Prod.snd Z).1, bo (Prod.snd Z).2] (lapp (tlR T 8 16) (lapp [.tup [i64 (Prod.fst Z), i64 (Prod.snd Z).1, bo (Prod.snd Z).2], .ptr 3 0, .ptr 3 0, .ptr 3 0, st s, .ptr 3 0, .ptr 3 0, .ptr 3 1, i64 i, st (List.take (s.length -
 i.toNat) (List.drop i.toNat s)), .tup [i64 (Prod.fst Z), i64 (Prod.snd Z).1, bo (Prod.snd Z).2], i64 (Prod.fst Z), i64 (Prod.snd Z).1, bo (Prod.snd Z).2, bo (Prod.snd Z).2, .ptr 3 0] (tlR T 32 45)))) [(0, Ob.mk true 0 (AObj.cells R0)), (1, Ob.mk true 0 (AObj.cells [i64 0])), (2, Ob.mk true 0 (AObj.cells [i64 0])), (3, Ob.mk true 0 (AObj.cells [st s, i64 i])), (4, Ob.mk true 0 (AObj.cells (R17 a o h b p k d m w e t k' d' m' w' e' t'))), (5, Ob.mk true 0 (AObj.cells R2))] (6 : Nat) OUT)) (K AX.normal (St.mk (lapp [.ptr 3 0, x, y, .ptr 4 0, .ptr 5 0, i64 (Prod.fst Z), i64 (Prod.snd Z).1, bo (Prod.snd Z).2] (lapp (tlR T 8 16) (lapp [.tup [i64 (Prod.fst Z), i64 (Prod.snd Z).1, bo (Prod.snd Z).2], .ptr 3 0, .ptr 3 0, .ptr 3 0, st s, .ptr 3 0, .ptr 3 0, .ptr 3 1, i64 i, st (List.take (s.length - i.toNat) (List.drop i.toNat s)), .tup [i64 (Prod.fst Z), i64 (Prod.snd Z).1, bo (Prod.snd Z).2], i64 (Prod.fst Z), i64 (Prod.snd Z).1, bo (Prod.snd Z).2, bo (Prod.snd Z).2, .ptr 3 0, i64 (IntKind.wrap .i64 ((0 : Int) - Prod.fst Z)), .ptr 4 4] (tlR T 34 45)))) [(0, Ob.mk true 0 (AObj.cells R0)), (1, Ob.mk true 0 (AObj.cells [i64 0])), (2, Ob.mk true 0 (AObj.cells [i64 0])), (3, Ob.mk true 0
 (AObj.cells [st s, i64 (IntKind.wrap .i64 (i + (Prod.snd Z).1))])), (4, Ob.mk true 0 (AObj.cells (R17 a o h b (IntKind.wrap .i64 ((0 : Int) - Prod.fst Z)) k d m w e t k' d' m' w' e' t'))), (5, Ob.mk true 0 (AObj.cells R2))] (6 : Nat) OUT))) (K AX.normal (St.mk (lapp [.ptr 3 0, x, y, .ptr 4 0, .ptr 5 0, i64 (Prod.fst Z), i64 (Prod.snd Z).1, bo (Prod.snd Z).2] (lapp (tlR T 8 16) (lapp [.tup [i64 (Prod.fst Z), i64 (Prod.snd Z).1, bo (Prod.snd Z).2], .ptr 3 0, .ptr 3 0, .ptr 3 0, st s, .ptr 3 0, .ptr 3 0, .ptr 3 1, i64 i, st (List.take (s.length - i.toNat) (List.drop i.toNat s)), .tup [i64 (Prod.fst Z), i64 (Prod.snd Z).1, bo (Prod.snd Z).2], i64 (Prod.fst Z), i64 (Prod.snd Z).1, bo (Prod.snd Z).2, bo (Prod.snd Z).2] (tlR T 31 45)))) [(0, Ob.mk true 0 (AObj.cells R0)), (1, Ob.mk true 0 (AObj.cells [i64 0])), (2, Ob.mk true 0 (AObj.cells [i64 0])), (3, Ob.mk true 0 (AObj.cells [st s, i64 i])), (4, Ob.mk true 0 (AObj.cells (R17 a o h b p k d m w e t k' d' m' w' e' t'))), (5, Ob.mk true 0 (AObj.cells R2))] (6 : Nat) OUT))) := by subst hZ; kernel_rfl
theorem d_3 (s : List UInt8) (i : Int) (R0 : List AV) (R2 : List AV) (a : List UInt8) (o : Int) (h : Bool) (b : List UInt8) (p : Int) (k : Int) (d : Int) (m : Int) (w : Int) (e : Int) (t : Int) (k' : Int) (d' : Int) (m' : Int) (w' : Int) (e' : Int) (t' : Int) (x : AV) (y : AV) (OUT : List AV) (T : Nat → AV) (K : AX → St → Prop) : evCode C4i (c19 [Dir.r, Dir.r, Dir.r, Dir.l]) (S19 s i R0 (R17 a o h b p k d m w e t k' d' m' w' e' t') R2 x y OUT T) K = ((decide (i < (s.length : Int)) = true → (0 : Int) ≤ i) ∧ (decide (i < (s.length : Int)) = true → i < (s.length : Int)) ∧ brn (!(decide (i < (s.length : Int)) && (↑(UInt8.toNat (List.getD s i.toNat (0 : UInt8))) : Int) == 44)) (K (AX.panic (AV.ifc (63 : Nat) (.agg [i64 i]))) (St.mk (lapp [.ptr 3 0, x, y, .ptr 4 0, .ptr 5 0] (lapp (tlR T 5 34) (lapp [.ptr 3 0] (tlR T 35 45)))) [(0, Ob.mk true 0 (AObj.cells R0)), (1, Ob.mk true 0 (AObj.cells [i64 0])), (2, Ob.mk true 0 (AObj.cells [i64 0])), (3, Ob.mk true 0 (AObj.cells [st s, i64 i])), (4, Ob.mk true 0 (AObj.cells (R17 a o h b p k d m w e t k' d' m' w' e' t'))), (5, Ob.mk true 0 (AObj.cells R2))] (6 : Nat) OUT)) (K AX.normal (St.mk (lapp [.ptr 3 0, x, y, .ptr 4 0, .ptr 5 0] (lapp (tlR T 5
 34) (lapp [.ptr 3 0, .tup []] (tlR T 36 45)))) [(0, Ob.mk true 0 (AObj.cells R0)), (1, Ob.mk true 0 (AObj.cells [i64 0])), (2, Ob.mk true 0 (AObj.cells [i64 0])), (3, Ob.mk true 0 (AObj.cells [st s, i64 (IntKind.wrap .i64 (i + 1))])), (4, Ob.mk true 0 (AObj.cells (R17 a o h b p k d m w e t k' d' m' w' e' t'))), (5, Ob.mk true 0 (AObj.cells R2))] (6 : Nat) OUT))) := by kernel_rfl
theorem d_4 (s : List UInt8) (i : Int) (R0 : List AV) (R2 : List AV) (a : List UInt8) (o : Int) (h : Bool) (b : List UInt8) (p : Int) (k : Int) (d : Int) (m : Int) (w : Int) (e : Int) (t : Int) (k' : Int) (d' : Int) (m' : Int) (w' : Int) (e' : Int) (t' : Int) (x : AV) (y : AV) (OUT : List AV) (T : Nat → AV) (K : AX → St → Prop) (D : Dy) (hD : D = day (List.take (s.length - i.toNat) (List.drop i.toNat s))) (N : Prop) (hN : N = K AX.normal (St.mk (lapp [.ptr 3 0, x, y, .ptr 4 0, .ptr 5 0] (lapp (tlR T 5 36) (lapp [.ptr 3 0, dayAV (Dy.k D) (Dy.d D) (Dy.m D) (Dy.w D) (Dy.e D) (Dy.t D), .ptr 4 5] (tlR T 39 45)))) [(0, Ob.mk true 0 (AObj.cells R0)), (1, Ob.mk true 0 (AObj.cells [i64 0])), (2, Ob.mk true 0 (AObj.cells [i64 0])), (3, Ob.mk true 0 (AObj.cells [st s, i64 (IntKind.wrap .i64 (i + Dy.n D))])), (4, Ob.mk true 0 (AObj.cells (R17 a o h b p (Dy.k D) (Dy.d D) (Dy.m D) (Dy.w D) (Dy.e D) (Dy.t D) k' d' m' w' e' t'))), (5, Ob.mk true 0 (AObj.cells R2)), (6, Ob.mk true 0 (AObj.cells [i64 (Dy.k D), i64 (Dy.d D), i64 (Dy.m D), i64 (Dy.w D), i64 (Dy.e D), i64 (Dy.t D)])), (7, Ob.mk true 0 (AObj.cells [i64 (Dy.k D), i64 (Dy.d D), i64 (Dy.m D), i64 (Dy.w D), i64 (Dy.e D), i64 (Dy.t D)]))] (8
 : Nat) OUT)) (Q : Prop) (hQ : Q = K (AX.panic (AV.ifc (63 : Nat) (.agg [i64 i]))) (St.mk (lapp [.ptr 3 0, x, y, .ptr 4 0, .ptr 5 0] (lapp (tlR T 5 36) (lapp [.ptr 3 0] (tlR T 37 45)))) [(0, Ob.mk true 0 (AObj.cells R0)), (1, Ob.mk true 0 (AObj.cells [i64 0])), (2, Ob.mk true 0 (AObj.cells [i64 0])), (3, Ob.mk true 0 (AObj.cells [st s, i64 i])), (4, Ob.mk true 0 (AObj.cells (R17 a o h b p k d m w e t k' d' m' w' e' t'))), (5, Ob.mk true 0 (AObj.cells R2)), (6, Ob.mk true 0 (AObj.cells [i64 0, i64 0, i64 0, i64 0, i64 0, i64 0])), (7, Ob.mk true 0 (AObj.cells [i64 (Dy.k D), i64 (Dy.d D), i64 (Dy.m D), i64 (Dy.w D), i64 (Dy.e D), i64 (Dy.t D)]))] (8 : Nat) OUT)) : evCode C4i (c19 [Dir.r, Dir.r, Dir.r, Dir.r, Dir.l]) (S19 s i R0 (R17 a o h b p k d m w e t k' d' m' w' e' t') R2 x y OUT T) K = ((0 : Int) ≤ i ∧ i ≤ (s.length : Int) ∧ ((↑(List.take (s.length - i.toNat) (List.drop i.toNat s)).length : Int) ≤ big - 20 ∧ brn (!Dy.ok D) Q N ∧ brn (!Dy.ok D) Q N) ∧ (↑(List.take (s.length - i.toNat) (List.drop i.toNat s)).length : Int) ≤ big - 20 ∧ brn (!Dy.ok D) Q N) := by subst hQ; subst hN; subst hD; kernel_rfl
theorem d_5 (s : List UInt8) (i : Int) (R0 : List AV) (R2 : List AV) (a : List UInt8) (o : Int) (h : Bool) (b : List UInt8) (p : Int) (k : Int) (d : Int) (m : Int) (w : Int) (e : Int) (t : Int) (k' : Int) (d' : Int) (m' : Int) (w' : Int) (e' : Int) (t' : Int) (x : AV) (y : AV) (OUT : List AV) (X : List AV) (Y : List AV) (T : Nat → AV) (K : AX → St → Prop) : evCode C4i (c19 [Dir.r, Dir.r, Dir.r, Dir.r, Dir.r, Dir.l]) (S19b s i R0 (R17 a o h b p k d m w e t k' d' m' w' e' t') R2 x y OUT X Y T) K = ((decide (i < (s.length : Int)) = true → (0 : Int) ≤ i) ∧ (decide (i < (s.length : Int)) = true → i < (s.length : Int)) ∧ brn (!(decide (i < (s.length : Int)) && (↑(UInt8.toNat (List.getD s i.toNat (0 : UInt8))) : Int) == 44)) (K (AX.panic (AV.ifc (63 : Nat) (.agg [i64 i]))) (St.mk (lapp [.ptr 3 0, x, y, .ptr 4 0, .ptr 5 0] (lapp (tlR T 5 39) (lapp [.ptr 3 0] (tlR T 40 45)))) [(0, Ob.mk true 0 (AObj.cells R0)), (1, Ob.mk true 0 (AObj.cells [i64 0])), (2, Ob.mk true 0 (AObj.cells [i64 0])), (3, Ob.mk true 0 (AObj.cells [st s, i64 i])), (4, Ob.mk true 0 (AObj.cells (R17 a o h b p k d m w e t k' d' m' w' e' t'))), (5, Ob.mk true 0 (AObj.cells R2)), (6, Ob.mk true 0 (AObj.cells X)), (7, Ob.mk
 true 0 (AObj.cells Y))] (8 : Nat) OUT)) (K AX.normal (St.mk (lapp [.ptr 3 0, x, y, .ptr 4 0, .ptr 5 0] (lapp (tlR T 5 39) (lapp [.ptr 3 0, .tup []] (tlR T 41 45)))) [(0, Ob.mk true 0 (AObj.cells R0)), (1, Ob.mk true 0 (AObj.cells [i64 0])), (2, Ob.mk true 0 (AObj.cells [i64 0])), (3, Ob.mk true 0 (AObj.cells [st s, i64 (IntKind.wrap .i64 (i + 1))])), (4, Ob.mk true 0 (AObj.cells (R17 a o h b p k d m w e t k' d' m' w' e' t'))), (5, Ob.mk true 0 (AObj.cells R2)), (6, Ob.mk true 0 (AObj.cells X)), (7, Ob.mk true 0 (AObj.cells Y))] (8 : Nat) OUT))) := by kernel_rfl
theorem d_6 (s : List UInt8) (i : Int) (R0 : List AV) (R2 : List AV) (a : List UInt8) (o : Int) (h : Bool) (b : List UInt8) (p : Int) (k : Int) (d : Int) (m : Int) (w : Int) (e : Int) (t : Int) (k' : Int) (d' : Int) (m' : Int) (w' : Int) (e' : Int) (t' : Int) (x : AV) (y : AV) (OUT : List AV) (X : List AV) (Y : List AV) (T : Nat → AV) (K : AX → St → Prop) (D : Dy) (hD : D = day (List.take (s.length - i.toNat) (List.drop i.toNat s))) (N : Prop) (hN : N = K AX.normal (St.mk (lapp [.ptr 3 0, x, y, .ptr 4 0, .ptr 5 0] (lapp (tlR T 5 41) [.ptr 3 0, dayAV (Dy.k D) (Dy.d D) (Dy.m D) (Dy.w D) (Dy.e D) (Dy.t D), .ptr 4 11, T 44])) [(0, Ob.mk true 0 (AObj.cells R0)), (1, Ob.mk true 0 (AObj.cells [i64 0])), (2, Ob.mk true 0 (AObj.cells [i64 0])), (3, Ob.mk true 0 (AObj.cells [st s, i64 (IntKind.wrap .i64 (i + Dy.n D))])), (4, Ob.mk true 0 (AObj.cells (R17 a o h b p k d m w e t (Dy.k D) (Dy.d D) (Dy.m D) (Dy.w D) (Dy.e D) (Dy.t D)))), (5, Ob.mk true 0 (AObj.cells R2)), (6, Ob.mk true 0 (AObj.cells X)), (7, Ob.mk true 0 (AObj.cells Y)), (8, Ob.mk true 0 (AObj.cells [i64 (Dy.k D), i64 (Dy.d D), i64 (Dy.m D), i64 (Dy.w D), i64 (Dy.e D), i64 (Dy.t D)])), (9, Ob.mk true 0 (AObj.cells [i64 (Dy.k D),
 i64 (Dy.d D), i64 (Dy.m D), i64 (Dy.w D), i64 (Dy.e D), i64 (Dy.t D)]))] (10 : Nat) OUT)) (Q : Prop) (hQ : Q = K (AX.panic (AV.ifc (63 : Nat) (.agg [i64 i]))) (St.mk (lapp [.ptr 3 0, x, y, .ptr 4 0, .ptr 5 0] (lapp (tlR T 5 41) [.ptr 3 0, T 42, T 43, T 44])) [(0, Ob.mk true 0 (AObj.cells R0)), (1, Ob.mk true 0 (AObj.cells [i64 0])), (2, Ob.mk true 0 (AObj.cells [i64 0])), (3, Ob.mk true 0 (AObj.cells [st s, i64 i])), (4, Ob.mk true 0 (AObj.cells (R17 a o h b p k d m w e t k' d' m' w' e' t'))), (5, Ob.mk true 0 (AObj.cells R2)), (6, Ob.mk true 0 (AObj.cells X)), (7, Ob.mk true 0 (AObj.cells Y)), (8, Ob.mk true 0 (AObj.cells [i64 0, i64 0, i64 0, i64 0, i64 0, i64 0])), (9, Ob.mk true 0 (AObj.cells [i64 (Dy.k D), i64 (Dy.d D), i64 (Dy.m D), i64 (Dy.w D), i64 (Dy.e D), i64 (Dy.t D)]))] (10 : Nat) OUT)) : evCode C4i (c19 [Dir.r, Dir.r, Dir.r, Dir.r, Dir.r, Dir.r, Dir.l]) (S19b s i R0 (R17 a o h b p k d m w e t k' d' m' w' e' t') R2 x y OUT X Y T) K = ((0 : Int) ≤ i ∧ i ≤ (s.length : Int) ∧ ((↑(List.take (s.length - i.toNat) (List.drop i.toNat s)).length : Int) ≤ big - 20 ∧ brn (!Dy.ok D) Q N ∧ brn (!Dy.ok D) Q N) ∧ (↑(List.take (s.length - i.toNat) (List.drop i.toNat s)).length : Int) ≤
 big - 20 ∧ brn (!Dy.ok D) Q N) := by subst hQ; subst hN; subst hD; kernel_rfl
theorem d_0 (s : List UInt8) (i : Int) (R0 : List AV) (a : List UInt8) (o : Int) (h : Bool) (b : List UInt8) (p : Int) (k : Int) (d : Int) (m : Int) (w : Int) (e : Int) (t : Int) (k' : Int) (d' : Int) (m' : Int) (w' : Int) (e' : Int) (t' : Int) (OUT : List AV) (K : AX → St → Prop) : evCode C4i (c19 [Dir.l]) (St.mk (lapp [.ptr 3 0, ruleAV a o h b p k d m w e t k' d' m' w' e' t'] (lrepl (43 : Nat) AV.dead)) (o8 s i R0) (4 : Nat) OUT) K = (K AX.normal (St.mk (lapp [.ptr 3 0, .agg (R17 a o h b p k d m w e t k' d' m' w' e' t'), .dead, .ptr 4 0, .ptr 5 0] (dN 40)) [(0, Ob.mk true 0 (AObj.cells R0)), (1, Ob.mk true 0 (AObj.cells [i64 0])), (2, Ob.mk true 0 (AObj.cells [i64 0])), (3, Ob.mk true 0 (AObj.cells [st s, i64 i])), (4, Ob.mk true 0 (AObj.cells (R17 a o h b p k d m w e t k' d' m' w' e' t'))), (5, Ob.mk true 0 (AObj.cells (R8 [] 0)))] (6 : Nat) OUT)) := by kernel_rfl
theorem d_7 (s : List UInt8) (i : Int) (R0 : List AV) (a : List UInt8) (o : Int) (h : Bool) (b : List UInt8) (p : Int) (k : Int) (d : Int) (m : Int) (w : Int) (e : Int) (t : Int) (k' : Int) (d' : Int) (m' : Int) (w' : Int) (e' : Int) (t' : Int) (x : AV) (y : AV) (OUT : List AV) (X : List AV) (Y : List AV) (Z : List AV) (W : List AV) (T : Nat → AV) (K : AX → St → Prop) : evCode C4i (c19 [Dir.r, Dir.r, Dir.r, Dir.r, Dir.r, Dir.r, Dir.r]) (S19c s i R0 (R17 a o h b p k d m w e t k' d' m' w' e' t') zRule x y OUT X Y Z W T) K = (K AX.ret (St.mk (lapp [.ptr 3 0, x, y, .ptr 4 0, .ptr 5 0] (lapp (tlR T 5 44) [.agg (R17 a o h b p k d m w e t k' d' m' w' e' t')])) [(0, Ob.mk true 0 (AObj.cells R0)), (1, Ob.mk true 0 (AObj.cells [i64 0])), (2, Ob.mk true 0 (AObj.cells [i64 0])), (3, Ob.mk true 0 (AObj.cells [st s, i64 i])), (4, Ob.mk true 0 (AObj.cells (R17 a o h b p k d m w e t k' d' m' w' e' t'))), (5, Ob.mk true 0 (AObj.cells (R17 a o h b p k d m w e t k' d' m' w' e' t'))), (6, Ob.mk true 0 (AObj.cells X)), (7, Ob.mk true 0 (AObj.cells Y)), (8, Ob.mk true 0 (AObj.cells Z)), (9, Ob.mk true 0 (AObj.cells W))] (10 : Nat) OUT)) := by kernel_rfl
theorem f8_v (s : List UInt8) (i : Int) (a : List UInt8) (o : Int) (h : Bool) (b : List UInt8) (p : Int) (k : Int) (d : Int) (m : Int) (w : Int) (e : Int) (t : Int) (k' : Int) (d' : Int) (m' : Int) (w' : Int) (e' : Int) (t' : Int) (x : AV) (y : AV) (z : AV) (T : Nat → AV) (K : AX → St → Prop) : evCode C5 (c8 [Dir.r, Dir.r, Dir.r, Dir.r, Dir.r, Dir.r, Dir.l]) (S8 s i (R17 a o h b p k d m w e t k' d' m' w' e' t') x y z T) K = (((i == (s.length : Int)) = true → a.length ≤ 9223372036854775807) ∧ ((i == (s.length : Int)) = true → b.length ≤ 9223372036854775807) ∧ brn (!(i == (s.length : Int) && validRule a o h b p k d m w e t k' d' m' w' e' t')) (K (AX.panic (AV.ifc (63 : Nat) (.agg [i64 i]))) (St.mk [st s, .dead, .ptr 0 0, .ptr 1 0, .ptr 2 0, .ptr 3 0, (clean1 x), (clean1 y), (clean1 z), AV.fn (23 : Nat) [] [.ptr 0 0, .ptr 1 0, .ptr 2 0], (clean1 (T 10)), (clean1 (T 11)), (clean1 (T 12)), (clean1 (T 13)), (clean1 (T 14)), (clean1 (T 15)), (clean1 (T 16)), (clean1 (T 17)), (clean1 (T 18)), (clean1 (T 19)), (clean1 (T 20)), (clean1 (T 21)), (clean1 (T 22)), (clean1 (T 23)), (clean1 (T 24)), (clean1 (T 25)), .ptr 3 0, .ptr 3 0, .ptr 3 0, .ptr 3 1, i64 i, st s, i64 (s.length : Int), bo (i
 == (s.length : Int)), bo (i == (s.length : Int)), .opt [((34 : Nat), true)] (.agg (R17 a o h b p k d m w e t k' d' m' w' e' t')), .opt [((34 : Nat), true)] (bo (validRule a o h b p k d m w e t k' d' m' w' e' t')), bo (i == (s.length : Int) && validRule a o h b p k d m w e t k' d' m' w' e' t'), (clean1 (T 38)), (clean1 (T 39))] [(0, Ob.mk true 0 (AObj.cells (R17 a o h b p k d m w e t k' d' m' w' e' t'))), (1, Ob.mk true 0 (AObj.cells [i64 0])), (2, Ob.mk true 0 (AObj.cells [i64 0])), (3, Ob.mk true 0 (AObj.cells [st s, i64 i]))] (4 : Nat) [.ptr 0 0, .ptr 1 0, .ptr 2 0])) (K AX.normal (St.mk [st s, .dead, .ptr 0 0, .ptr 1 0, .ptr 2 0, .ptr 3 0, (clean1 x), (clean1 y), (clean1 z), AV.fn (23 : Nat) [] [.ptr 0 0, .ptr 1 0, .ptr 2 0], (clean1 (T 10)), (clean1 (T 11)), (clean1 (T 12)), (clean1 (T 13)), (clean1 (T 14)), (clean1 (T 15)), (clean1 (T 16)), (clean1 (T 17)), (clean1 (T 18)), (clean1 (T 19)), (clean1 (T 20)), (clean1 (T 21)), (clean1 (T 22)), (clean1 (T 23)), (clean1 (T 24)), (clean1 (T 25)), .ptr 3 0, .ptr 3 0, .ptr 3 0, .ptr 3 1, i64 i, st s, i64 (s.length : Int), bo (i == (s.length : Int)), bo (i == (s.length : Int)), .opt [((34 : Nat), true)] (.agg (R17 a o h b p k d m w e t
 k' d' m' w' e' t')), .opt [((34 : Nat), true)] (bo (validRule a o h b p k d m w e t k' d' m' w' e' t')), bo (i == (s.length : Int) && validRule a o h b p k d m w e t k' d' m' w' e' t'), .tup [], (clean1 (T 39))] [(0, Ob.mk true 0 (AObj.cells (R17 a o h b p k d m w e t k' d' m' w' e' t'))), (1, Ob.mk true 0 (AObj.cells [i64 0])), (2, Ob.mk true 0 (AObj.cells [i64 0])), (3, Ob.mk true 0 (AObj.cells [st s, i64 (IntKind.wrap .i64 (i + 0))]))] (4 : Nat) [.ptr 0 0, .ptr 1 0, .ptr 2 0]))) := by kernel_rfl
theorem f8_vc (s : List UInt8) (i : Int) (a : List UInt8) (o : Int) (h : Bool) (b : List UInt8) (p : Int) (k : Int) (d : Int) (m : Int) (w : Int) (e : Int) (t : Int) (k' : Int) (d' : Int) (m' : Int) (w' : Int) (e' : Int) (t' : Int) (x : AV) (y : AV) (z : AV) (R4 : List AV) (R5 : List AV) (X : List AV) (Y : List AV) (Z : List AV) (W : List AV) (T : Nat → AV) (K : AX → St → Prop) : evCode C5 (c8 [Dir.r, Dir.r, Dir.r, Dir.r, Dir.r, Dir.r, Dir.l]) (S8c s i (R17 a o h b p k d m w e t k' d' m' w' e' t') x y z R4 R5 X Y Z W T) K = (((i == (s.length : Int)) = true → a.length ≤ 9223372036854775807) ∧ ((i == (s.length : Int)) = true → b.length ≤ 9223372036854775807) ∧ brn (!(i == (s.length : Int) && validRule a o h b p k d m w e t k' d' m' w' e' t')) (K (AX.panic (AV.ifc (63 : Nat) (.agg [i64 i]))) (St.mk [st s, .dead, .ptr 0 0, .ptr 1 0, .ptr 2 0, .ptr 3 0, (clean1 x), (clean1 y), (clean1 z), AV.fn (23 : Nat) [] [.ptr 0 0, .ptr 1 0, .ptr 2 0], (clean1 (T 10)), (clean1 (T 11)), (clean1 (T 12)), (clean1 (T 13)), (clean1 (T 14)), (clean1 (T 15)), (clean1 (T 16)), (clean1 (T 17)), (clean1 (T 18)), (clean1 (T 19)), (clean1 (T 20)), (clean1 (T 21)), (clean1 (T 22)), (clean1 (T 23)), (clean1 (T
 24)), (clean1 (T 25)), .ptr 3 0, .ptr 3 0, .ptr 3 0, .ptr 3 1, i64 i, st s, i64 (s.length : Int), bo (i == (s.length : Int)), bo (i == (s.length : Int)), .opt [((34 : Nat), true)] (.agg (R17 a o h b p k d m w e t k' d' m' w' e' t')), .opt [((34 : Nat), true)] (bo (validRule a o h b p k d m w e t k' d' m' w' e' t')), bo (i == (s.length : Int) && validRule a o h b p k d m w e t k' d' m' w' e' t'), (clean1 (T 38)), (clean1 (T 39))] [(0, Ob.mk true 0 (AObj.cells (R17 a o h b p k d m w e t k' d' m' w' e' t'))), (1, Ob.mk true 0 (AObj.cells [i64 0])), (2, Ob.mk true 0 (AObj.cells [i64 0])), (3, Ob.mk true 0 (AObj.cells [st s, i64 i])), (4, Ob.mk true 0 (AObj.cells R4)), (5, Ob.mk true 0 (AObj.cells R5)), (6, Ob.mk true 0 (AObj.cells X)), (7, Ob.mk true 0 (AObj.cells Y)), (8, Ob.mk true 0 (AObj.cells Z)), (9, Ob.mk true 0 (AObj.cells W))] (10 : Nat) [.ptr 0 0, .ptr 1 0, .ptr 2 0])) (K AX.normal (St.mk [st s, .dead, .ptr 0 0, .ptr 1 0, .ptr 2 0, .ptr 3 0, (clean1 x), (clean1 y), (clean1 z), AV.fn (23 : Nat) [] [.ptr 0 0, .ptr 1 0, .ptr 2 0], (clean1 (T 10)), (clean1 (T 11)), (clean1 (T 12)), (clean1 (T 13)), (clean1 (T 14)), (clean1 (T 15)), (clean1 (T 16)), (clean1 (T 17)), (clean1 (T
 18)), (clean1 (T 19)), (clean1 (T 20)), (clean1 (T 21)), (clean1 (T 22)), (clean1 (T 23)), (clean1 (T 24)), (clean1 (T 25)), .ptr 3 0, .ptr 3 0, .ptr 3 0, .ptr 3 1, i64 i, st s, i64 (s.length : Int), bo (i == (s.length : Int)), bo (i == (s.length : Int)), .opt [((34 : Nat), true)] (.agg (R17 a o h b p k d m w e t k' d' m' w' e' t')), .opt [((34 : Nat), true)] (bo (validRule a o h b p k d m w e t k' d' m' w' e' t')), bo (i == (s.length : Int) && validRule a o h b p k d m w e t k' d' m' w' e' t'), .tup [], (clean1 (T 39))] [(0, Ob.mk true 0 (AObj.cells (R17 a o h b p k d m w e t k' d' m' w' e' t'))), (1, Ob.mk true 0 (AObj.cells [i64 0])), (2, Ob.mk true 0 (AObj.cells [i64 0])), (3, Ob.mk true 0 (AObj.cells [st s, i64 (IntKind.wrap .i64 (i + 0))])), (4, Ob.mk true 0 (AObj.cells R4)), (5, Ob.mk true 0 (AObj.cells R5)), (6, Ob.mk true 0 (AObj.cells X)), (7, Ob.mk true 0 (AObj.cells Y)), (8, Ob.mk true 0 (AObj.cells Z)), (9, Ob.mk true 0 (AObj.cells W))] (10 : Nat) [.ptr 0 0, .ptr 1 0, .ptr 2 0]))) := by kernel_rfl
theorem f8_z (s : List UInt8) (i : Int) (a : List UInt8) (o : Int) (h : Bool) (b : List UInt8) (p : Int) (k : Int) (d : Int) (m : Int) (w : Int) (e : Int) (t : Int) (k' : Int) (d' : Int) (m' : Int) (w' : Int) (e' : Int) (t' : Int) (x : AV) (y : AV) (z : AV) (T : Nat → AV) (K : AX → St → Prop) : evCode C5 (c8 [Dir.r, Dir.r, Dir.r, Dir.r, Dir.r, Dir.r, Dir.r]) (S8 s i (R17 a o h b p k d m w e t k' d' m' w' e' t') x y z T) K = (K AX.ret (St.mk (lapp [st s, .dead, .ptr 0 0, .ptr 1 0, .ptr 2 0, .ptr 3 0, x, y, z, AV.fn (23 : Nat) [] [.ptr 0 0, .ptr 1 0, .ptr 2 0]] (lapp (tlR T 10 39) [.agg (R17 a o h b p k d m w e t k' d' m' w' e' t')])) [(0, Ob.mk true 0 (AObj.cells (R17 a o h b p k d m w e t k' d' m' w' e' t'))), (1, Ob.mk true 0 (AObj.cells [i64 0])), (2, Ob.mk true 0 (AObj.cells [i64 0])), (3, Ob.mk true 0 (AObj.cells [st s, i64 i]))] (4 : Nat) [.ptr 0 0, .ptr 1 0, .ptr 2 0])) := by kernel_rfl
theorem f8_zc (s : List UInt8) (i : Int) (a : List UInt8) (o : Int) (h : Bool) (b : List UInt8) (p : Int) (k : Int) (d : Int) (m : Int) (w : Int) (e : Int) (t : Int) (k' : Int) (d' : Int) (m' : Int) (w' : Int) (e' : Int) (t' : Int) (x : AV) (y : AV) (z : AV) (R4 : List AV) (R5 : List AV) (X : List AV) (Y : List AV) (Z : List AV) (W : List AV) (T : Nat → AV) (K : AX → St → Prop) : evCode C5 (c8 [Dir.r, Dir.r, Dir.r, Dir.r, Dir.r, Dir.r, Dir.r]) (S8c s i (R17 a o h b p k d m w e t k' d' m' w' e' t') x y z R4 R5 X Y Z W T) K = (K AX.ret (St.mk (lapp [st s, .dead, .ptr 0 0, .ptr 1 0, .ptr 2 0, .ptr 3 0, x, y, z, AV.fn (23 : Nat) [] [.ptr 0 0, .ptr 1 0, .ptr 2 0]] (lapp (tlR T 10 39) [.agg (R17 a o h b p k d m w e t k' d' m' w' e' t')])) [(0, Ob.mk true 0 (AObj.cells (R17 a o h b p k d m w e t k' d' m' w' e' t'))), (1, Ob.mk true 0 (AObj.cells [i64 0])), (2, Ob.mk true 0 (AObj.cells [i64 0])), (3, Ob.mk true 0 (AObj.cells [st s, i64 i])), (4, Ob.mk true 0 (AObj.cells R4)), (5, Ob.mk true 0 (AObj.cells R5)), (6, Ob.mk true 0 (AObj.cells X)), (7, Ob.mk true 0 (AObj.cells Y)), (8, Ob.mk true 0 (AObj.cells Z)), (9, Ob.mk true 0 (AObj.cells W))] (10 : Nat) [.ptr 0 0, .ptr 1 0, .ptr 2 0])) := by kernel_rfl
theorem f16_n (R : List AV) (K : AX → St → Prop) : evCode C16 (c16 [Dir.r]) (E16 R nilV) K = (K AX.normal (St.mk (lapp [AV.ptr (0 : Nat) (0 : Nat), AV.ptr (1 : Nat) (0 : Nat), AV.ptr (2 : Nat) (0 : Nat), AV.imm (IV.val Value.nilIface), AV.dead, AV.dead, AV.imm (IV.val Value.nilIface), AV.imm (IV.val Value.nilIface), bo false] (dN 10)) [((0 : Nat), Ob.mk true (0 : Nat) (AObj.cells R)), ((1 : Nat), Ob.mk true (0 : Nat) (AObj.cells [i64 0])), ((2 : Nat), Ob.mk true (0 : Nat) (AObj.cells [i64 0]))] (3 : Nat) [AV.ptr (0 : Nat) (0 : Nat), AV.ptr (1 : Nat) (0 : Nat), AV.ptr (2 : Nat) (0 : Nat)])) := by kernel_rfl
theorem f16_s (r0 : AV) (r1 : AV) (r2 : AV) (r3 : AV) (r4 : AV) (r5 : AV) (r6 : AV) (r7 : AV) (r8 : AV) (r9 : AV) (r10 : AV) (r11 : AV) (r12 : AV) (r13 : AV) (r14 : AV) (r15 : AV) (r16 : AV) (j : Int) (K : AX → St → Prop) (Z : St) (hZ : Z = St.mk [AV.ptr (0 : Nat) (0 : Nat), AV.ptr (1 : Nat) (0 : Nat), AV.ptr (2 : Nat) (0 : Nat), AV.ifc (63 : Nat) (AV.agg [i64 j]), AV.ptr (3 : Nat) (0 : Nat), bo true, AV.ifc (63 : Nat) (AV.agg [i64 j]), AV.ifc (63 : Nat) (AV.agg [i64 j]), bo true, AV.tup [AV.agg [i64 j], bo true], AV.ifc (63 : Nat) (AV.agg [i64 j]), AV.tup [AV.agg [i64 j], bo true], AV.agg [i64 j], bo true, bo true, AV.agg (R8 [] 0), AV.ptr (3 : Nat) (0 : Nat), i64 j, AV.dead] [((0 : Nat), Ob.mk true (0 : Nat) (AObj.cells (R8 [] 0))), ((1 : Nat), Ob.mk true (0 : Nat) (AObj.cells [i64 14])), ((2 : Nat), Ob.mk true (0 : Nat) (AObj.cells [i64 j])), ((3 : Nat), Ob.mk true (0 : Nat) (AObj.cells [i64 j]))] (4 : Nat) [AV.ptr (0 : Nat) (0 : Nat), AV.ptr (1 : Nat) (0 : Nat), AV.ptr (2 : Nat) (0 : Nat)]) : evCode C16 (c16 [Dir.r]) (E16 [r0, r1, r2, r3, r4, r5, r6, r7, r8, r9, r10, r11, r12, r13, r14, r15, r16] (AV.ifc (63 : TypeId) (AV.agg [i64 j]))) K = ((K AX.ret Z ∧ K AX.ret Z ∧ K AX.ret
 Z) ∧ K AX.ret Z) := by subst hZ; kernel_rfl
theorem f9_ev (a : List UInt8) (o : Int) (h : Bool) (b : List UInt8) (p k d m w e t k' d' m' w' e' t' : Int) (ha : a.length ≤ 9223372036854775807) (hb : b.length ≤ 9223372036854775807)
    (K : List AV → Prop) (hK : K [bo (validRule a o h b p k d m w e t k' d' m' w' e' t')]) : evSpec C4 Tryd.f28 [ruleAV a o h b p k d m w e t k' d' m' w' e' t'] K := by
  rw [f9_in]
  unfold validRule at hK
  refine ⟨ha, brn_intro (fun h1 => ?_) (fun h1 => brn_intro (fun h2 => ?_) (fun h2 => ⟨hb, ?_⟩))⟩
  · have : (P7.valid a && side o) = false := by
      cases hx : P7.valid a <;> cases hy : side o <;> simp_all
    rw [this, Bool.false_and] at hK
    exact hK
  · have : (P7.valid a && side o) = true := by
      cases hx : P7.valid a <;> cases hy : side o <;> simp_all
    rw [this, Bool.true_and] at hK
    have hh : h = false := by simpa using h2
    subst hh
    simp only [Bool.false_eq_true, if_false] at hK
    simpa [bo, Bool.and_assoc] using hK
  · have : (P7.valid a && side o) = true := by
      cases hx : P7.valid a <;> cases hy : side o <;> simp_all
    rw [this, Bool.true_and] at hK
    have hh : h = true := by simpa using h2
    subst hh
    simp only [if_true] at hK
    exact hK
theorem ok9 : ∀ args pres res, sValidRule args = some (pres, res) → SpecOK Tryd.prog G0 28 args pres res := by
  intro args pres res h
  unfold sValidRule at h
  split at h
  case h_2 => cases h
  cases h
  exact mk okF4 at9 (by decide) rfl (fun hp K hK => f9_ev _ _ _ _ _ _ _ _ _ _ _ _ _ _ _ _ _ (hp _ (List.mem_cons_self ..)) (hp _ (List.mem_cons_of_mem _ (List.mem_cons_self ..))) K hK)
theorem okF5 : EOK Tryd.prog F5 G0 := addE_ok okF4 ok9
structure Dv where
  k : Int
  d : Int
  m : Int
  w : Int
  e : Int
  t : Int
deriving DecidableEq
structure Ru where
  a : List UInt8
  o : Int
  h : Bool
  b : List UInt8
  p : Int
  S : Dv
  E : Dv
deriving DecidableEq
def zD : Dv := ⟨0, 0, 0, 0, 0, 0⟩
def zR : Ru := ⟨[], 0, false, [], 0, zD, zD⟩
def Ru.cells (r : Ru) : List AV := R17 r.a r.o r.h r.b r.p r.S.k r.S.d r.S.m r.S.w r.S.e r.S.t r.E.k r.E.d r.E.m r.E.w r.E.e r.E.t
def validRu (r : Ru) : Bool := validRule r.a r.o r.h r.b r.p r.S.k r.S.d r.S.m r.S.w r.S.e r.S.t r.E.k r.E.d r.E.m r.E.w r.E.e r.E.t
def Dy.dv (x : Dy) : Dv := ⟨x.k, x.d, x.m, x.w, x.e, x.t⟩
inductive Out where
  | stop (j : Nat)
  | rule (r : Ru)
deriving DecidableEq
def nameQ (s : List UInt8) (i : Nat) (F : List UInt8 → Nat → Out) : Out :=
  if (P7.parse (s.drop i)).2.2 then F (P7.parse (s.drop i)).1 (i + (P7.parse (s.drop i)).2.1.toNat) else .stop i
def offQ (s : List UInt8) (i : Nat) (F : Int → Nat → Out) : Out :=
  if (P8.parse (s.drop i)).2.2 && side (P8.parse (s.drop i)).1 then F (0 - (P8.parse (s.drop i)).1) (i + (P8.parse (s.drop i)).2.1.toNat) else .stop i
def comma (s : List UInt8) (i : Nat) : Bool := match s.drop i with
  | b :: _ => b == 44
  | [] => false
def commaQ (s : List UInt8) (i : Nat) (F : Nat → Out) : Out := if comma s i then F (i + 1) else .stop i
def dayQ (s : List UInt8) (i : Nat) (F : Dv → Nat → Out) : Out :=
  if (day (s.drop i)).ok then F (day (s.drop i)).dv (i + (day (s.drop i)).n.toNat) else .stop i
def dstOffQ (s : List UInt8) (i : Nat) (o : Int) (F : Int → Nat → Out) : Out :=
  if (P8.parse (s.drop i)).2.2 then offQ s i F else F (o + 3600) i
def dstQ (s : List UInt8) (i : Nat) (a : List UInt8) (o : Int) (F : Ru → Nat → Out) : Out :=
  nameQ s i fun b i => dstOffQ s i o fun p i => commaQ s i fun i => dayQ s i fun S i => commaQ s i fun i => dayQ s i fun E i => F ⟨a, o, true, b, p, S, E⟩ i
def endP (s : List UInt8) (r : Ru) (i : Nat) : Out := if i = s.length then (if validRu r then .rule r else .stop i) else .stop i
def stdR (a : List UInt8) (o : Int) : Ru := ⟨a, o, false, [], 0, zD, zD⟩
def parse9 (s : List UInt8) : Out :=
  nameQ s 0 fun a i => offQ s i fun o i => if i < s.length then dstQ s i a o (endP s) else endP s (stdR a o) i
theorem parse7_n (s : List UInt8) : ∃ n : Nat, (P7.parse s).2.1 = (n : Int) ∧ n ≤ s.length ∧ (P7.parse s).1.length ≤ s.length := by
  have hP : ∀ s, ∃ n : Nat, (P7.parseP s).2.1 = (n : Int) ∧ n ≤ s.length ∧ (P7.parseP s).1.length ≤ s.length := by
    intro s
    unfold P7.parseP
    split
    · exact ⟨P7.letters s, rfl, P7.letters_le s, by simp; omega⟩
    · exact ⟨0, rfl, Nat.zero_le _, by simp⟩
  unfold P7.parse
  split
  · rename_i b r
    split
    · unfold P7.parseQ
      split
      · rename_i hp
        split
        · exact ⟨P7.place r 62 + 2, by simp, by simp only [List.length_cons]; omega, by simp; omega⟩
        · exact ⟨0, rfl, Nat.zero_le _, by simp⟩
      · exact ⟨0, rfl, Nat.zero_le _, by simp⟩
    · exact hP _
  · exact hP _
theorem day_n (s : List UInt8) : ∃ n : Nat, (day s).n = (n : Int) ∧ n ≤ s.length := by
  obtain ⟨i, hi, hl⟩ := date_n s
  have hT : ∀ (t : Int) (n : Nat) (ok : Bool), n ≤ s.length → ∃ m : Nat, (dayT (date s) t (n : Int) ok).n = (m : Int) ∧ m ≤ s.length := by
    intro t n ok hn
    unfold dayT
    split
    · exact ⟨n, rfl, hn⟩
    · exact ⟨0, rfl, Nat.zero_le _⟩
  unfold day
  split
  · rename_i hsl
    have hlt : i < s.length := by
      unfold slash at hsl
      simp only [Bool.and_eq_true, decide_eq_true_eq] at hsl
      omega
    obtain ⟨n, hn, hnl⟩ := parse_n (s.drop ((date s).n.toNat + 1))
    rw [hn, show ((date s).n + 1 + (n : Int)) = ((i + 1 + n : Nat) : Int) by omega]
    refine hT _ _ _ ?_
    rw [List.length_drop, hi, Int.toNat_natCast] at hnl
    omega
  · rw [hi]; exact hT _ _ _ hl
theorem side_b {n : Int} (h : side n = true) : -89999 ≤ n ∧ n ≤ 89999 := by
  unfold side at h
  simpa only [Bool.and_eq_true, decide_eq_true_eq] using h
theorem comma_eq (s : List UInt8) (i : Nat) : comma s i = (decide (i < s.length) && (s.getD i 0 == 44)) := by
  unfold comma
  rcases Nat.lt_or_ge i s.length with h | h
  · rw [List.drop_eq_getElem_cons h]
    simp [h, List.getD_eq_getElem?_getD]
  · rw [List.drop_of_length_le h]
    simp [Nat.not_lt.2 h]
end P9
set_option maxRecDepth 100000
namespace P9
open Go Go.AE Go.Proofs
attribute [local irreducible] loopK evCode evSpec loopB norm
def Ok0 (R0 : List AV) (st : St) : Prop := ∃ r, st.objs = (0, ⟨true, 0, .cells R0⟩) :: (1, ⟨true, 0, .cells [i64 0]⟩) :: (2, ⟨true, 0, .cells [i64 0]⟩) :: r
def Stops (G : Out → Prop) (R0 : List AV) (OUT : List AV) (K : AX → St → Prop) : Prop := ∀ (j : Nat) st, G (.stop j) → Ok0 R0 st → st.outer = OUT → K (.panic (.ifc 63 (.agg [i64 (j : Nat)]))) st
def Is19 (s : List UInt8) (j : Nat) (R0 : List AV) (r : Ru) (OUT : List AV) (st' : St) : Prop :=
  st' = S19 s (j : Nat) R0 r.cells zRule (nth .dead st'.tmps 1) (nth .dead st'.tmps 2) OUT (fun j => nth .dead st'.tmps j)
def cellsAt (st : St) (id : Nat) : List AV := match lookup st.objs id with
  | some ⟨_, _, .cells l⟩ => l
  | _ => []
def Is19b (s : List UInt8) (j : Nat) (R0 : List AV) (r : Ru) (OUT : List AV) (st' : St) : Prop :=
  st' = S19b s (j : Nat) R0 r.cells zRule (nth .dead st'.tmps 1) (nth .dead st'.tmps 2) OUT (cellsAt st' 6) (cellsAt st' 7) (fun j => nth .dead st'.tmps j)
def Is19c (s : List UInt8) (j : Nat) (R0 : List AV) (r : Ru) (OUT : List AV) (st' : St) : Prop :=
  st' = S19c s (j : Nat) R0 r.cells zRule (nth .dead st'.tmps 1) (nth .dead st'.tmps 2) OUT (cellsAt st' 6) (cellsAt st' 7) (cellsAt st' 8) (cellsAt st' 9) (fun j => nth .dead st'.tmps j)
variable {s : List UInt8} {i : Nat} {G : Out → Prop} {R0 OUT : List AV} {K : AX → St → Prop} {r : Ru}
theorem w1 {F : List UInt8 → Nat → Out} (hs : Stops G R0 OUT K) (hi : i ≤ s.length) (hl : s.length ≤ 1000000000000000000) (ho : -89999 ≤ r.o ∧ r.o ≤ 89999) (hG : G (nameQ s i F)) (st : St) (hst : Is19 s i R0 r OUT st)
    (hk : ∀ b j st', G (F b j) → i ≤ j → j ≤ s.length → b.length ≤ s.length → Is19 s j R0 { r with h := true, b := b, p := r.o + 3600 } OUT st' → K .normal st') : evCode C4i (c19 [.r, .l]) st K := by
  rw [hst]
  generalize nth .dead st.tmps 1 = x
  generalize nth .dead st.tmps 2 = y
  generalize (fun j => nth .dead st.tmps j) = T
  unfold Ru.cells
  rw [d_1]
  simp only [Int.toNat_natCast, take_rest]
  obtain ⟨n, hn, hnl, hbl⟩ := parse7_n (s.drop i)
  rw [List.length_drop] at hnl hbl
  have e1 : IntKind.wrap .i64 ((i : Int) + (n : Int)) = ((i + n : Nat) : Int) := by rw [wrap64 (by omega) (by omega)]; omega
  have e2 : IntKind.wrap .i64 (r.o + 3600) = r.o + 3600 := wrap64 (by omega) (by omega)
  simp only [hn, e1, e2]
  unfold nameQ at hG
  rw [hn, Int.toNat_natCast] at hG
  have stop : (P7.parse (s.drop i)).2.2 = false → G (.stop i) := fun h => by rw [h] at hG; exact hG
  have go : (P7.parse (s.drop i)).2.2 = true → G (F (P7.parse (s.drop i)).1 (i + n)) := fun h => by rw [if_pos h] at hG; exact hG
  have hdl : (s.drop i).length ≤ 9223372036854775800 := by rw [List.length_drop]; omega
  refine ⟨⟨by omega, by omega, hdl, brn_intro (fun h => hs i _ (stop (by simpa using h)) ⟨_, rfl⟩ rfl) (fun h => ?_)⟩, by omega, by omega, hdl, brn_intro (fun h => hs i _ (stop (by simpa using h)) ⟨_, rfl⟩ rfl) (fun h => ?_)⟩
  · exact hk _ (i + n) _ (go (by simpa using h)) (by omega) (by omega) (by omega) (by show _ = _; kernel_rfl)
  · exact hk _ (i + n) _ (go (by simpa using h)) (by omega) (by omega) (by omega) (by show _ = _; kernel_rfl)
theorem w2 {F : Int → Nat → Out} (hs : Stops G R0 OUT K) (hi : i ≤ s.length) (hl : s.length ≤ 1000000000000000000) (hp : r.p = r.o + 3600) (hG : G (dstOffQ s i r.o F)) (st : St) (hst : Is19 s i R0 r OUT st)
    (hk : ∀ p j st', G (F p j) → i ≤ j → j ≤ s.length → Is19 s j R0 { r with p := p } OUT st' → K .normal st') : evCode C4i (c19 [.r, .r, .l]) st K := by
  rw [hst]
  generalize nth .dead st.tmps 1 = x
  generalize nth .dead st.tmps 2 = y
  generalize (fun j => nth .dead st.tmps j) = T
  unfold Ru.cells
  rw [d_2 (hZ := rfl)]
  simp only [Int.toNat_natCast, take_rest]
  obtain ⟨n, hn, hnl⟩ := parse_n (s.drop i)
  rw [List.length_drop] at hnl
  have e1 : IntKind.wrap .i64 ((i : Int) + (n : Int)) = ((i + n : Nat) : Int) := by rw [wrap64 (by omega) (by omega)]; omega
  simp only [hn, e1]
  unfold dstOffQ offQ at hG
  rw [hn, Int.toNat_natCast] at hG
  have hdl : ((s.drop i).length : Int) ≤ P8.big := by rw [List.length_drop]; simp only [P8.big]; omega
  refine ⟨by omega, by omega, hdl, brn_intro (fun h1 => ⟨by omega, by omega, hdl, brn_intro (fun h2 => ?_) (fun h2 => ?_)⟩) (fun h1 => ?_)⟩
  · rw [if_pos h1] at hG
    refine hs i _ ?_ ⟨_, rfl⟩ rfl
    rw [if_neg (by rw [Bool.not_eq_true'] at h2; rw [h2]; decide)] at hG
    exact hG
  · rw [if_pos h1] at hG
    have h2' : ((P8.parse (s.drop i)).2.2 && side (P8.parse (s.drop i)).1) = true := by simpa using h2
    rw [if_pos h2'] at hG
    have hsd := side_b (by rw [Bool.and_eq_true] at h2'; exact h2'.2)
    have e3 : IntKind.wrap .i64 (0 - (P8.parse (s.drop i)).1) = 0 - (P8.parse (s.drop i)).1 := wrap64 (by omega) (by omega)
    simp only [e3]
    exact hk _ (i + n) _ hG (by omega) (by omega) (by show _ = _; kernel_rfl)
  · rw [if_neg (by simpa using h1)] at hG
    have hh : { r with p := r.o + 3600 } = r := by rw [← hp]
    refine hk _ i _ hG (by omega) (by omega) ?_
    rw [hh]
    show _ = _
    kernel_rfl
theorem comma_int (s : List UInt8) (i : Nat) : (decide ((i : Int) < (s.length : Int)) && ((s.getD i 0).toNat : Int) == 44) = comma s i := by
  rw [comma_eq, Bool.eq_iff_iff]
  simp only [Bool.and_eq_true, decide_eq_true_eq, beq_iff_eq]
  have : ∀ b : UInt8, ((b.toNat : Int) = 44 ↔ b = 44) := fun b => by
    constructor
    · intro h; apply UInt8.toNat_inj.1; have : b.toNat = 44 := by omega
      simpa using this
    · rintro rfl; rfl
  rw [this]
  constructor <;> rintro ⟨a, b⟩ <;> exact ⟨by omega, b⟩
theorem w3 {F : Nat → Out} (hs : Stops G R0 OUT K) (hi : i ≤ s.length) (hl : s.length ≤ 1000000000000000000) (hG : G (commaQ s i F)) (st : St) (hst : Is19 s i R0 r OUT st)
    (hk : ∀ st', G (F (i + 1)) → i + 1 ≤ s.length → Is19 s (i + 1) R0 r OUT st' → K .normal st') : evCode C4i (c19 [.r, .r, .r, .l]) st K := by
  rw [hst]
  generalize nth .dead st.tmps 1 = x
  generalize nth .dead st.tmps 2 = y
  generalize (fun j => nth .dead st.tmps j) = T
  unfold Ru.cells
  rw [d_3]
  simp only [Int.toNat_natCast]
  have e1 : IntKind.wrap .i64 ((i : Int) + 1) = ((i + 1 : Nat) : Int) := by rw [wrap64 (by omega) (by omega)]; omega
  simp only [e1]
  rw [comma_int]
  unfold commaQ at hG
  refine ⟨fun _ => by omega, fun h => by simpa using h, brn_intro (fun h => hs i _ ?_ ⟨_, rfl⟩ rfl) (fun h => ?_)⟩
  · rw [if_neg (by simpa using h)] at hG; exact hG
  · have h' : comma s i = true := by simpa using h
    rw [if_pos h'] at hG
    have hlt : i < s.length := by rw [comma_eq] at h'; simp at h'; exact h'.1
    exact hk _ hG (by omega) (by show _ = _; kernel_rfl)
theorem w4 {F : Dv → Nat → Out} (hs : Stops G R0 OUT K) (hi : i ≤ s.length) (hl : s.length ≤ 1000000000000000000) (hG : G (dayQ s i F)) (st : St) (hst : Is19 s i R0 r OUT st)
    (hk : ∀ S j st', G (F S j) → i ≤ j → j ≤ s.length → Is19b s j R0 { r with S := S } OUT st' → K .normal st') : evCode C4i (c19 [.r, .r, .r, .r, .l]) st K := by
  rw [hst]
  generalize nth .dead st.tmps 1 = x
  generalize nth .dead st.tmps 2 = y
  generalize (fun j => nth .dead st.tmps j) = T
  unfold Ru.cells
  rw [d_4 (hD := rfl) (hN := rfl) (hQ := rfl)]
  simp only [Int.toNat_natCast, take_rest]
  obtain ⟨n, hn, hnl⟩ := day_n (s.drop i)
  rw [List.length_drop] at hnl
  have e1 : IntKind.wrap .i64 ((i : Int) + (n : Int)) = ((i + n : Nat) : Int) := by rw [wrap64 (by omega) (by omega)]; omega
  simp only [hn, e1]
  unfold dayQ at hG
  rw [hn, Int.toNat_natCast] at hG
  have hdl : ((s.drop i).length : Int) ≤ big - 20 := by rw [List.length_drop]; simp only [big]; omega
  have stop : (day (s.drop i)).ok = false → G (.stop i) := fun h => by rw [h] at hG; exact hG
  have go : (day (s.drop i)).ok = true → G (F (day (s.drop i)).dv (i + n)) := fun h => by rw [if_pos h] at hG; exact hG
  have fin : ∀ (st' : St), (!(day (s.drop i)).ok) = false → Is19b s (i + n) R0 { r with S := (day (s.drop i)).dv } OUT st' → K .normal st' := fun st' h hI => hk _ (i + n) st' (go (by simpa using h)) (by omega) (by omega) hI
  have bad : ∀ st', (!(day (s.drop i)).ok) = true → Ok0 R0 st' → st'.outer = OUT → K (.panic (.ifc 63 (.agg [i64 (i : Nat)]))) st' := fun st' h h1 h2 => hs i st' (stop (by simpa using h)) h1 h2
  repeat' first | (exact brn_intro (fun h => bad _ h ⟨_, rfl⟩ rfl) (fun h => fin _ h (by show _ = _; kernel_rfl))) | refine And.intro ?_ ?_
  all_goals first | exact hdl | omega
theorem w5 {F : Nat → Out} (hs : Stops G R0 OUT K) (hi : i ≤ s.length) (hl : s.length ≤ 1000000000000000000) (hG : G (commaQ s i F)) (st : St) (hst : Is19b s i R0 r OUT st)
    (hk : ∀ st', G (F (i + 1)) → i + 1 ≤ s.length → Is19b s (i + 1) R0 r OUT st' → K .normal st') : evCode C4i (c19 [.r, .r, .r, .r, .r, .l]) st K := by
  rw [hst]
  generalize nth .dead st.tmps 1 = x
  generalize nth .dead st.tmps 2 = y
  generalize cellsAt st 6 = X
  generalize cellsAt st 7 = Y
  generalize (fun j => nth .dead st.tmps j) = T
  unfold Ru.cells
  rw [d_5]
  simp only [Int.toNat_natCast]
  have e1 : IntKind.wrap .i64 ((i : Int) + 1) = ((i + 1 : Nat) : Int) := by rw [wrap64 (by omega) (by omega)]; omega
  simp only [e1]
  rw [comma_int]
  unfold commaQ at hG
  refine ⟨fun _ => by omega, fun h => by simpa using h, brn_intro (fun h => hs i _ ?_ ⟨_, rfl⟩ rfl) (fun h => ?_)⟩
  · rw [if_neg (by simpa using h)] at hG; exact hG
  · have h' : comma s i = true := by simpa using h
    rw [if_pos h'] at hG
    have hlt : i < s.length := by rw [comma_eq] at h'; simp at h'; exact h'.1
    exact hk _ hG (by omega) (by show _ = _; kernel_rfl)
theorem w6 {F : Dv → Nat → Out} (hs : Stops G R0 OUT K) (hi : i ≤ s.length) (hl : s.length ≤ 1000000000000000000) (hG : G (dayQ s i F)) (st : St) (hst : Is19b s i R0 r OUT st)
    (hk : ∀ S j st', G (F S j) → i ≤ j → j ≤ s.length → Is19c s j R0 { r with E := S } OUT st' → K .normal st') : evCode C4i (c19 [.r, .r, .r, .r, .r, .r, .l]) st K := by
  rw [hst]
  generalize nth .dead st.tmps 1 = x
  generalize nth .dead st.tmps 2 = y
  generalize cellsAt st 6 = X
  generalize cellsAt st 7 = Y
  generalize (fun j => nth .dead st.tmps j) = T
  unfold Ru.cells
  rw [d_6 (hD := rfl) (hN := rfl) (hQ := rfl)]
  simp only [Int.toNat_natCast, take_rest]
  obtain ⟨n, hn, hnl⟩ := day_n (s.drop i)
  rw [List.length_drop] at hnl
  have e1 : IntKind.wrap .i64 ((i : Int) + (n : Int)) = ((i + n : Nat) : Int) := by rw [wrap64 (by omega) (by omega)]; omega
  simp only [hn, e1]
  unfold dayQ at hG
  rw [hn, Int.toNat_natCast] at hG
  have hdl : ((s.drop i).length : Int) ≤ big - 20 := by rw [List.length_drop]; simp only [big]; omega
  have stop : (day (s.drop i)).ok = false → G (.stop i) := fun h => by rw [h] at hG; exact hG
  have go : (day (s.drop i)).ok = true → G (F (day (s.drop i)).dv (i + n)) := fun h => by rw [if_pos h] at hG; exact hG
  have fin : ∀ (st' : St), (!(day (s.drop i)).ok) = false → Is19c s (i + n) R0 { r with E := (day (s.drop i)).dv } OUT st' → K .normal st' := fun st' h hI => hk _ (i + n) st' (go (by simpa using h)) (by omega) (by omega) hI
  have bad : ∀ st', (!(day (s.drop i)).ok) = true → Ok0 R0 st' → st'.outer = OUT → K (.panic (.ifc 63 (.agg [i64 (i : Nat)]))) st' := fun st' h h1 h2 => hs i st' (stop (by simpa using h)) h1 h2
  repeat' first | (exact brn_intro (fun h => bad _ h ⟨_, rfl⟩ rfl) (fun h => fin _ h (by show _ = _; kernel_rfl))) | refine And.intro ?_ ?_
  all_goals first | exact hdl | omega
end P9
set_option maxRecDepth 100000
namespace P9
open Go Go.AE Go.Proofs
attribute [local irreducible] loopK evCode evSpec loopB norm
variable {s : List UInt8} {i : Nat} {G : Out → Prop} {R0 OUT : List AV} {K : AX → St → Prop} {r : Ru}
theorem cut19_0 (st : St) (K : AX → St → Prop) : evCode C4i (c19 []) st K = evCode C4i (c19 [.l]) st (fun x st => match x with | .normal => evCode C4i (c19 [.r]) st K | x => K x st) := by kernel_rfl
theorem cut19_1 (st : St) (K : AX → St → Prop) : evCode C4i (c19 [.r]) st K = evCode C4i (c19 [.r, .l]) st (fun x st => match x with | .normal => evCode C4i (c19 [.r, .r]) st K | x => K x st) := by kernel_rfl
theorem cut19_2 (st : St) (K : AX → St → Prop) : evCode C4i (c19 [.r, .r]) st K = evCode C4i (c19 [.r, .r, .l]) st (fun x st => match x with | .normal => evCode C4i (c19 [.r, .r, .r]) st K | x => K x st) := by kernel_rfl
theorem cut19_3 (st : St) (K : AX → St → Prop) : evCode C4i (c19 [.r, .r, .r]) st K = evCode C4i (c19 [.r, .r, .r, .l]) st (fun x st => match x with | .normal => evCode C4i (c19 [.r, .r, .r, .r]) st K | x => K x st) := by kernel_rfl
theorem cut19_4 (st : St) (K : AX → St → Prop) : evCode C4i (c19 [.r, .r, .r, .r]) st K = evCode C4i (c19 [.r, .r, .r, .r, .l]) st (fun x st => match x with | .normal => evCode C4i (c19 [.r, .r, .r, .r, .r]) st K | x => K x st) := by kernel_rfl
theorem cut19_5 (st : St) (K : AX → St → Prop) : evCode C4i (c19 [.r, .r, .r, .r, .r]) st K = evCode C4i (c19 [.r, .r, .r, .r, .r, .l]) st (fun x st => match x with | .normal => evCode C4i (c19 [.r, .r, .r, .r, .r, .r]) st K | x => K x st) := by kernel_rfl
theorem cut19_6 (st : St) (K : AX → St → Prop) : evCode C4i (c19 [.r, .r, .r, .r, .r, .r]) st K = evCode C4i (c19 [.r, .r, .r, .r, .r, .r, .l]) st (fun x st => match x with | .normal => evCode C4i (c19 [.r, .r, .r, .r, .r, .r, .r]) st K | x => K x st) := by kernel_rfl
def E19 (s : List UInt8) (i : Nat) (R0 : List AV) (r : Ru) (OUT : List AV) : St := ⟨lapp [.ptr 3 0, .agg r.cells] (lrepl 43 .dead), o8 s i R0, 4, OUT⟩
theorem dst19 {F : Ru → Nat → Out} (hs : Stops G R0 OUT K) (hi : i ≤ s.length) (hl : s.length ≤ 1000000000000000000) (ho : -89999 ≤ r.o ∧ r.o ≤ 89999) (hG : G (dstQ s i r.a r.o F)) (hr : r.S = zD ∧ r.E = zD)
    (hk : ∀ (b : List UInt8) p S E j st', G (F ⟨r.a, r.o, true, b, p, S, E⟩ j) → j ≤ s.length → b.length ≤ s.length → Is19c s j R0 ⟨r.a, r.o, true, b, p, S, E⟩ OUT st' → evCode C4i (c19 [.r, .r, .r, .r, .r, .r, .r]) st' K) :
    evCode C4i (bodyOf Tryd.f26) (E19 s i R0 r OUT) K := by
  show evCode C4i (c19 []) _ K
  rw [cut19_0]
  unfold E19 Ru.cells
  show evCode C4i (c19 [.l]) (⟨lapp [.ptr 3 0, ruleAV r.a r.o r.h r.b r.p r.S.k r.S.d r.S.m r.S.w r.S.e r.S.t r.E.k r.E.d r.E.m r.E.w r.E.e r.E.t] (lrepl 43 .dead), o8 s i R0, 4, OUT⟩ : St) _
  rw [d_0]
  have step1 : ∀ st', Is19 s i R0 r OUT st' → evCode C4i (c19 [.r]) st' K := by
    intro st' h
    rw [cut19_1]
    refine w1 ?_ hi hl ho hG st' h (fun b j st2 hG2 hij hj hb h2 => ?_)
    · exact fun j st a b c => hs j st a b c
    rw [cut19_2]
    refine w2 (r := { r with h := true, b := b, p := r.o + 3600 }) ?_ hj hl rfl hG2 st2 h2 (fun p j3 st3 hG3 _ hj3 h3 => ?_)
    · exact fun j st a b c => hs j st a b c
    rw [cut19_3]
    refine w3 ?_ hj3 hl hG3 st3 h3 (fun st4 hG4 hj4 h4 => ?_)
    · exact fun j st a b c => hs j st a b c
    rw [cut19_4]
    refine w4 ?_ hj4 hl hG4 st4 h4 (fun S j5 st5 hG5 _ hj5 h5 => ?_)
    · exact fun j st a b c => hs j st a b c
    rw [cut19_5]
    refine w5 ?_ hj5 hl hG5 st5 h5 (fun st6 hG6 hj6 h6 => ?_)
    · exact fun j st a b c => hs j st a b c
    rw [cut19_6]
    refine w6 ?_ hj6 hl hG6 st6 h6 (fun E j7 st7 hG7 _ hj7 h7 => ?_)
    · exact fun j st a b c => hs j st a b c
    exact hk b p S E j7 st7 hG7 hj7 hb h7
  exact step1 _ (by show _ = _; kernel_rfl)
end P9
set_option maxRecDepth 100000
namespace P9
open Go Go.AE Go.Proofs
attribute [local irreducible] loopK evCode evSpec loopB norm
variable {s : List UInt8} {i : Nat} {G : Out → Prop} {K : AX → St → Prop} {r : Ru}
def Stops8 (G : Out → Prop) (K : AX → St → Prop) : Prop := ∀ (j : Nat) st, G (.stop j) → (∃ R, R.length = 17 ∧ Ok0 R st) → st.outer = P3 → K (.panic (.ifc 63 (.agg [i64 (j : Nat)]))) st
def Done8 (G : Out → Prop) (K : AX → St → Prop) : Prop := ∀ (r : Ru) st, G (.rule r) → Ok0 r.cells st → st.outer = P3 → nth .dead st.tmps 2 = .ptr 0 0 → nth .dead st.tmps 3 = .ptr 1 0 → nth .dead st.tmps 4 = .ptr 2 0 → K .ret st
def Is8 (s : List UInt8) (j : Nat) (r : Ru) (st' : St) : Prop :=
  st' = S8 s (j : Nat) r.cells (nth .dead st'.tmps 6) (nth .dead st'.tmps 7) (nth .dead st'.tmps 8) (fun j => nth .dead st'.tmps j)
def Is8c (s : List UInt8) (j : Nat) (r : Ru) (st' : St) : Prop :=
  st' = S8c s (j : Nat) r.cells (nth .dead st'.tmps 6) (nth .dead st'.tmps 7) (nth .dead st'.tmps 8) (cellsAt st' 4) (cellsAt st' 5) (cellsAt st' 6) (cellsAt st' 7) (cellsAt st' 8) (cellsAt st' 9) (fun j => nth .dead st'.tmps j)
theorem v1 {F : List UInt8 → Nat → Out} (hs : Stops8 G K) (hi : i ≤ s.length) (hl : s.length ≤ 1000000000000000000) (a : List UInt8) (o : Int) (hG : G (nameQ s i F)) (st : St) (hst : Is8 s i (stdR a o) st)
    (hk : ∀ b j st', G (F b j) → i ≤ j → j ≤ s.length → b.length ≤ s.length → Is8 s j (stdR b o) st' → K .normal st') : evCode C5 (c8 [.r, .r, .r, .l]) st K := by
  rw [hst]
  generalize nth .dead st.tmps 6 = x
  generalize nth .dead st.tmps 7 = y
  generalize nth .dead st.tmps 8 = z
  generalize (fun j => nth .dead st.tmps j) = T
  show evCode C5 (c8 [.r, .r, .r, .l]) (S8 s i (R8 a o) x y z T) K
  rw [f8_n]
  simp only [Int.toNat_natCast, take_rest]
  obtain ⟨n, hn, hnl, hbl⟩ := parse7_n (s.drop i)
  rw [List.length_drop] at hnl hbl
  have e1 : IntKind.wrap .i64 ((i : Int) + (n : Int)) = ((i + n : Nat) : Int) := by rw [wrap64 (by omega) (by omega)]; omega
  simp only [hn, e1]
  unfold nameQ at hG
  rw [hn, Int.toNat_natCast] at hG
  have stop : (P7.parse (s.drop i)).2.2 = false → G (.stop i) := fun h => by rw [h] at hG; exact hG
  have go : (P7.parse (s.drop i)).2.2 = true → G (F (P7.parse (s.drop i)).1 (i + n)) := fun h => by rw [if_pos h] at hG; exact hG
  have hdl : (s.drop i).length ≤ 9223372036854775800 := by rw [List.length_drop]; omega
  refine ⟨by omega, by omega, hdl, brn_intro (fun h => hs i _ (stop (by simpa using h)) ⟨_, rfl, _, rfl⟩ rfl) (fun h => ?_)⟩
  exact hk _ (i + n) _ (go (by simpa using h)) (by omega) (by omega) (by omega) (by show _ = _; kernel_rfl)
theorem v2 {F : Int → Nat → Out} (hs : Stops8 G K) (hi : i ≤ s.length) (hl : s.length ≤ 1000000000000000000) (a : List UInt8) (o : Int) (hG : G (offQ s i F)) (st : St) (hst : Is8 s i (stdR a o) st)
    (hk : ∀ p j st', G (F p j) → -89999 ≤ p → p ≤ 89999 → i ≤ j → j ≤ s.length → Is8 s j (stdR a p) st' → K .normal st') : evCode C5 (c8 [.r, .r, .r, .r, .l]) st K := by
  rw [hst]
  generalize nth .dead st.tmps 6 = x
  generalize nth .dead st.tmps 7 = y
  generalize nth .dead st.tmps 8 = z
  generalize (fun j => nth .dead st.tmps j) = T
  show evCode C5 (c8 [.r, .r, .r, .r, .l]) (S8 s i (R8 a o) x y z T) K
  rw [f8_o]
  simp only [Int.toNat_natCast, take_rest]
  obtain ⟨n, hn, hnl⟩ := parse_n (s.drop i)
  rw [List.length_drop] at hnl
  have e1 : IntKind.wrap .i64 ((i : Int) + (n : Int)) = ((i + n : Nat) : Int) := by rw [wrap64 (by omega) (by omega)]; omega
  simp only [hn, e1]
  unfold offQ at hG
  rw [hn, Int.toNat_natCast] at hG
  have hdl : ((s.drop i).length : Int) ≤ P8.big := by rw [List.length_drop]; simp only [P8.big]; omega
  refine ⟨by omega, by omega, hdl, brn_intro (fun h2 => ?_) (fun h2 => ?_)⟩
  · refine hs i _ ?_ ⟨_, rfl, _, rfl⟩ rfl
    rw [if_neg (by rw [Bool.not_eq_true'] at h2; rw [h2]; decide)] at hG
    exact hG
  · have h2' : ((P8.parse (s.drop i)).2.2 && side (P8.parse (s.drop i)).1) = true := by simpa using h2
    rw [if_pos h2'] at hG
    have hsd := side_b (by rw [Bool.and_eq_true] at h2'; exact h2'.2)
    have e3 : IntKind.wrap .i64 (0 - (P8.parse (s.drop i)).1) = 0 - (P8.parse (s.drop i)).1 := wrap64 (by omega) (by omega)
    simp only [e3]
    exact hk _ (i + n) _ hG (by omega) (by omega) (by omega) (by omega) (by show _ = _; kernel_rfl)
theorem cut8_3 (st : St) (K : AX → St → Prop) : evCode C5 (c8 [.r, .r, .r]) st K = evCode C5 (c8 [.r, .r, .r, .l]) st (fun x st => match x with | .normal => evCode C5 (c8 [.r, .r, .r, .r]) st K | x => K x st) := by kernel_rfl
theorem cut8_4 (st : St) (K : AX → St → Prop) : evCode C5 (c8 [.r, .r, .r, .r]) st K = evCode C5 (c8 [.r, .r, .r, .r, .l]) st (fun x st => match x with | .normal => evCode C5 (c8 [.r, .r, .r, .r, .r]) st K | x => K x st) := by kernel_rfl
theorem cut8_5 (st : St) (K : AX → St → Prop) : evCode C5 (c8 [.r, .r, .r, .r, .r]) st K = evCode C5 (c8 [.r, .r, .r, .r, .r, .l]) st (fun x st => match x with | .normal => evCode C5 (c8 [.r, .r, .r, .r, .r, .r]) st K | x => K x st) := by kernel_rfl
theorem cut8_6 (st : St) (K : AX → St → Prop) : evCode C5 (c8 [.r, .r, .r, .r, .r, .r]) st K = evCode C5 (c8 [.r, .r, .r, .r, .r, .r, .l]) st (fun x st => match x with | .normal => evCode C5 (c8 [.r, .r, .r, .r, .r, .r, .r]) st K | x => K x st) := by kernel_rfl
def opsOf : Code → Array Oper
  | .region _ ops _ => ops
  | _ => #[]
noncomputable def ops6 : Array Oper := opsOf (c8 [.r, .r, .r, .r, .r, .l, .r, .l])
noncomputable def k6 (k : AX → St → Prop) : List AV → St → Prop := fun vs st' => evOps C5 false ops6 (fun v st => k (.panic v) st) (ldrop 3 ops6.toList) [] (st'.put (some 25) (resAV vs)) (fun st => k .normal st)
def T6 (r : Ru) (T : Nat → AV) : Nat → AV := fun j => bif Nat.beq j 23 then .ptr 3 0 else bif Nat.beq j 24 then .agg r.cells else T j
theorem f8_dg (call : FuncId → List AV → St → (AV → St → Prop) → (AV → St → Prop) → Prop) (s : List UInt8) (i : Int) (r : Ru) (x y z : AV) (T : Nat → AV) (k : AX → St → Prop) : evCode ⟨Tryd.prog, F5, call, G0, 0⟩ (c8 [.r, .r, .r, .r, .r, .l, .r, .l]) (S8 s i r.cells x y z T) k =
    call 26 [.ptr 3 0, .agg r.cells] (S8 s i r.cells x y z (T6 r T)) (fun v st' => evOps ⟨Tryd.prog, F5, call, G0, 0⟩ false ops6 (fun v st => k (.panic v) st) (ldrop 3 ops6.toList) [] (st'.put (some 25) v) (fun st => k .normal st)) (fun v st' => k (.panic v) st') := by kernel_rfl
theorem inl36 (args : List AV) (st : St) (k : AV → St → Prop) (kp : AV → St → Prop) : inl inlF Tryd.prog F5 G0 0 4 26 args st k kp = evFunc C4i Tryd.f26 args st (fun vs st' => k (resAV vs) st') kp := by
  show (match inlF 26 with | some fn => evFunc C4i fn args st (fun vs st' => k (resAV vs) st') kp | none => False) = _
  have : inlF 26 = some Tryd.f26 := rfl
  rw [this]
theorem f8_d (s : List UInt8) (i : Int) (r : Ru) (x y z : AV) (T : Nat → AV) (k : AX → St → Prop) : evCode C5 (c8 [.r, .r, .r, .r, .r, .l, .r, .l]) (S8 s i r.cells x y z T) k =
    evFunc C4i Tryd.f26 [.ptr 3 0, .agg r.cells] (S8 s i r.cells x y z (T6 r T)) (k6 k) (fun v st' => k (.panic v) st') := (f8_dg _ s i r x y z T k).trans (inl36 ..)
theorem k6_ev (s : List UInt8) (i : Int) (r r' : Ru) (x y z : AV) (R4 R5 X Y Z W : List AV) (T : Nat → AV) (k : AX → St → Prop) : k6 k [.agg r'.cells] (S8c s i r.cells x y z R4 R5 X Y Z W T) =
    k .normal (S8c s i r'.cells x y z R4 R5 X Y Z W (fun j => bif Nat.beq j 25 then .agg r'.cells else T j)) := by kernel_rfl
theorem cond8 (s : List UInt8) (i : Int) (r : Ru) (x y z : AV) (T : Nat → AV) (K : AX → St → Prop) : evCode C5 (c8 [.r, .r, .r, .r, .r, .l]) (S8 s i r.cells x y z T) K = brn (decide (i < (s.length : Int))) (evCode C5 (c8 [.r, .r, .r, .r, .r, .l, .r, .l]) (S8 s i r.cells x y z (fun j => bif Nat.ble 16 j then (bif Nat.ble j 22 then nth .dead [.ptr 3 0, .ptr 3 0, .ptr 3 1, i64 i, st s, i64 s.length, bo (decide (i < (s.length : Int)))] (j - 16) else T j) else T j)) K) (K .normal (S8 s i r.cells x y z (fun j => bif Nat.ble 16 j then (bif Nat.ble j 22 then nth .dead [.ptr 3 0, .ptr 3 0, .ptr 3 1, i64 i, st s, i64 s.length, bo (decide (i < (s.length : Int)))] (j - 16) else T j) else T j))) := by kernel_rfl
end P9
set_option maxRecDepth 100000
namespace P9
open Go Go.AE Go.Proofs
attribute [local irreducible] loopK evCode evSpec loopB norm k6 evFunc
variable {s : List UInt8} {i : Nat} {G : Out → Prop} {K : AX → St → Prop} {r : Ru}
theorem endW (hs : Stops8 G K) (hd : Done8 G K) (hi : i ≤ s.length) (hl : s.length ≤ 1000000000000000000) (ha : r.a.length ≤ s.length) (hb : r.b.length ≤ s.length) (hG : G (endP s r i)) (st : St) (hst : Is8 s i r st) :
    evCode C5 (c8 [.r, .r, .r, .r, .r, .r]) st K := by
  rw [hst, cut8_6]
  generalize nth .dead st.tmps 6 = x
  generalize nth .dead st.tmps 7 = y
  generalize nth .dead st.tmps 8 = z
  generalize (fun j => nth .dead st.tmps j) = T
  have fin : ∀ st', G (.rule r) → Is8 s i r st' → evCode C5 (c8 [.r, .r, .r, .r, .r, .r, .r]) st' K := by
    intro st' h hst'
    rw [hst']
    generalize nth .dead st'.tmps 6 = x
    generalize nth .dead st'.tmps 7 = y
    generalize nth .dead st'.tmps 8 = z
    generalize (fun j => nth .dead st'.tmps j) = T
    unfold Ru.cells
    rw [f8_z]
    exact hd r _ h ⟨_, rfl⟩ rfl rfl rfl rfl
  unfold Ru.cells
  rw [f8_v]
  have e1 : IntKind.wrap .i64 ((i : Int) + 0) = (i : Int) := by rw [wrap64 (by omega) (by omega)]; omega
  simp only [e1]
  unfold endP at hG
  refine ⟨fun _ => by omega, fun _ => by omega, brn_intro (fun h => hs i _ ?_ ⟨_, rfl, _, rfl⟩ rfl) (fun h => ?_)⟩
  · have h' : ¬ (i = s.length ∧ validRu r = true) := by
      rintro ⟨h1, h2⟩
      unfold validRu at h2
      rw [h2, Bool.and_true] at h
      simp [h1] at h
    by_cases h1 : i = s.length
    · rw [if_pos h1, if_neg (fun h2 => h' ⟨h1, h2⟩)] at hG; exact hG
    · rw [if_neg h1] at hG; exact hG
  · have h2 : (((i : Int) == (s.length : Int)) && validRu r) = true := by
      unfold validRu
      rw [Bool.not_eq_false'] at h
      exact h
    rw [Bool.and_eq_true, beq_iff_eq] at h2
    rw [if_pos (by omega), if_pos h2.2] at hG
    exact fin _ hG (by show _ = _; kernel_rfl)
theorem endWc (hs : Stops8 G K) (hd : Done8 G K) (hi : i ≤ s.length) (hl : s.length ≤ 1000000000000000000) (ha : r.a.length ≤ s.length) (hb : r.b.length ≤ s.length) (hG : G (endP s r i)) (st : St) (hst : Is8c s i r st) :
    evCode C5 (c8 [.r, .r, .r, .r, .r, .r]) st K := by
  rw [hst, cut8_6]
  generalize nth .dead st.tmps 6 = x
  generalize nth .dead st.tmps 7 = y
  generalize nth .dead st.tmps 8 = z
  generalize cellsAt st 4 = R4
  generalize cellsAt st 5 = R5
  generalize cellsAt st 6 = X
  generalize cellsAt st 7 = Y
  generalize cellsAt st 8 = Z
  generalize cellsAt st 9 = W
  generalize (fun j => nth .dead st.tmps j) = T
  have fin : ∀ st', G (.rule r) → Is8c s i r st' → evCode C5 (c8 [.r, .r, .r, .r, .r, .r, .r]) st' K := by
    intro st' h hst'
    rw [hst']
    generalize nth .dead st'.tmps 6 = x
    generalize nth .dead st'.tmps 7 = y
    generalize nth .dead st'.tmps 8 = z
    generalize cellsAt st' 4 = R4
    generalize cellsAt st' 5 = R5
    generalize cellsAt st' 6 = X
    generalize cellsAt st' 7 = Y
    generalize cellsAt st' 8 = Z
    generalize cellsAt st' 9 = W
    generalize (fun j => nth .dead st'.tmps j) = T
    unfold Ru.cells
    rw [f8_zc]
    exact hd r _ h ⟨_, rfl⟩ rfl rfl rfl rfl
  unfold Ru.cells
  rw [f8_vc]
  have e1 : IntKind.wrap .i64 ((i : Int) + 0) = (i : Int) := by rw [wrap64 (by omega) (by omega)]; omega
  simp only [e1]
  unfold endP at hG
  refine ⟨fun _ => by omega, fun _ => by omega, brn_intro (fun h => hs i _ ?_ ⟨_, rfl, _, rfl⟩ rfl) (fun h => ?_)⟩
  · have h' : ¬ (i = s.length ∧ validRu r = true) := by
      rintro ⟨h1, h2⟩
      unfold validRu at h2
      rw [h2, Bool.and_true] at h
      simp [h1] at h
    by_cases h1 : i = s.length
    · rw [if_pos h1, if_neg (fun h2 => h' ⟨h1, h2⟩)] at hG; exact hG
    · rw [if_neg h1] at hG; exact hG
  · have h2 : (((i : Int) == (s.length : Int)) && validRu r) = true := by
      unfold validRu
      rw [Bool.not_eq_false'] at h
      exact h
    rw [Bool.and_eq_true, beq_iff_eq] at h2
    rw [if_pos (by omega), if_pos h2.2] at hG
    exact fin _ hG (by show _ = _; kernel_rfl)
def kf19 (n : Nat) (k : List AV → St → Prop) (kp : AV → St → Prop) : AX → St → Prop := fun x st1 => match x with
  | .normal => match resOf Tryd.prog st1 Tryd.f26.results.toList with
    | some vs => k vs (leave n st1)
    | none => False
  | .ret => match resOf Tryd.prog st1 Tryd.f26.results.toList with
    | some vs => k vs (leave n st1)
    | none => False
  | .panic v => kp v (leave n st1)
  | .exit _ => False
def O8 (s : List UInt8) (i : Nat) (r : Ru) (x y z : AV) (T : Nat → AV) : List AV := lapp (S8 s i r.cells x y z T).tmps P3
theorem in19 (s : List UInt8) (i : Nat) (r : Ru) (x y z : AV) (T : Nat → AV) (k : List AV → St → Prop) (kp : AV → St → Prop) : evFunc C4i Tryd.f26 [.ptr 3 0, .agg r.cells] (S8 s i r.cells x y z T) k kp =
    evCode C4i (bodyOf Tryd.f26) (E19 s i r.cells r (O8 s i r x y z T)) (kf19 40 k kp) := by kernel_rfl
theorem out19 (s : List UInt8) (i j : Nat) (r r' : Ru) (x y z u v : AV) (X Y Z W : List AV) (T t : Nat → AV) (k : List AV → St → Prop) (kp : AV → St → Prop) : kf19 40 k kp .ret ⟨lapp [.ptr 3 0, u, v, .ptr 4 0, .ptr 5 0] (lmap t (ldrop 5 (upto 45 []))), lapp (o8 s j r.cells) [(4, ⟨true, 0, .cells r'.cells⟩), (5, ⟨true, 0, .cells r'.cells⟩), (6, ⟨true, 0, .cells X⟩), (7, ⟨true, 0, .cells Y⟩), (8, ⟨true, 0, .cells Z⟩), (9, ⟨true, 0, .cells W⟩)], 10, O8 s i r x y z T⟩ = k [.agg r'.cells] (S8c s j r.cells x y z r'.cells r'.cells X Y Z W T) := by kernel_rfl
end P9
set_option maxRecDepth 100000
namespace P9
open Go Go.AE Go.Proofs
attribute [local irreducible] loopK evCode evSpec loopB norm k6 evFunc
variable {s : List UInt8} {i : Nat} {G : Out → Prop} {K : AX → St → Prop} {r : Ru}
theorem out19' (s : List UInt8) (i j : Nat) (r r' : Ru) (x y z : AV) (T : Nat → AV) (k : List AV → St → Prop) (kp : AV → St → Prop) (st2 : St)
    (hst : st2 = ⟨lapp [.ptr 3 0, nth .dead st2.tmps 1, nth .dead st2.tmps 2, .ptr 4 0, .ptr 5 0] (lmap (fun j => nth .dead st2.tmps j) (ldrop 5 (upto 45 []))), lapp (o8 s j r.cells) [(4, ⟨true, 0, .cells r'.cells⟩), (5, ⟨true, 0, .cells r'.cells⟩), (6, ⟨true, 0, .cells (cellsAt st2 6)⟩), (7, ⟨true, 0, .cells (cellsAt st2 7)⟩), (8, ⟨true, 0, .cells (cellsAt st2 8)⟩), (9, ⟨true, 0, .cells (cellsAt st2 9)⟩)], 10, O8 s i r x y z T⟩)
    (hk : ∀ X Y Z W, k [.agg r'.cells] (S8c s j r.cells x y z r'.cells r'.cells X Y Z W T)) : kf19 40 k kp .ret st2 := by
  rw [hst, out19]
  exact hk _ _ _ _
theorem dst8 (hs : Stops8 G K) (hi : i ≤ s.length) (hl : s.length ≤ 1000000000000000000) (ho : -89999 ≤ r.o ∧ r.o ≤ 89999) (hr : r.S = zD ∧ r.E = zD) {F : Ru → Nat → Out} (hG : G (dstQ s i r.a r.o F)) (x y z : AV) (T : Nat → AV)
    (hk : ∀ (b : List UInt8) p S E j st', G (F ⟨r.a, r.o, true, b, p, S, E⟩ j) → j ≤ s.length → b.length ≤ s.length → Is8c s j ⟨r.a, r.o, true, b, p, S, E⟩ st' → K .normal st') :
    evCode C5 (c8 [.r, .r, .r, .r, .r, .l, .r, .l]) (S8 s i r.cells x y z T) K := by
  rw [f8_d, in19]
  generalize T6 r T = T
  refine dst19 (R0 := r.cells) ?_ hi hl ho hG hr (fun b p S E j st' hG' hj hb h => ?_)
  · intro j st g ok out
    obtain ⟨w, hw⟩ := ok
    exact hs j (leave 40 st) g ⟨r.cells, rfl, w, hw⟩ (by show ldrop 40 st.outer = P3; rw [out]; rfl)
  · rw [h]
    generalize nth .dead st'.tmps 1 = u
    generalize nth .dead st'.tmps 2 = v
    generalize cellsAt st' 6 = X
    generalize cellsAt st' 7 = Y
    generalize cellsAt st' 8 = Z
    generalize cellsAt st' 9 = W
    generalize (fun j => nth .dead st'.tmps j) = t
    show evCode C4i _ (S19c s j r.cells (R17 r.a r.o true b p S.k S.d S.m S.w S.e S.t E.k E.d E.m E.w E.e E.t) zRule u v (O8 s i r x y z T) X Y Z W t) _
    rw [d_7]
    refine out19' s i j r ⟨r.a, r.o, true, b, p, S, E⟩ x y z T (k6 K) _ _ (by show _ = _; kernel_rfl) (fun X Y Z W => ?_)
    rw [k6_ev]
    exact hk b p S E j _ hG' hj hb (by show _ = _; kernel_rfl)
theorem walk8 (hs : Stops8 G K) (hd : Done8 G K) (hl : s.length ≤ 1000000000000000000) (hG : G (parse9 s)) (st : St) (hst : Is8 s 0 (stdR [] 0) st) : evCode C5 (c8 [.r, .r, .r]) st K := by
  rw [cut8_3]
  refine v1 ?_ (Nat.zero_le _) hl [] 0 hG st hst (fun a j1 st1 hG1 _ hj1 hla h1 => ?_)
  · exact fun j st a b c => hs j st a b c
  show evCode C5 (c8 [.r, .r, .r, .r]) st1 K
  rw [cut8_4]
  refine v2 ?_ hj1 hl a 0 hG1 st1 h1 (fun o j2 st2 hG2 ho1 ho2 _ hj2 h2 => ?_)
  · exact fun j st a b c => hs j st a b c
  show evCode C5 (c8 [.r, .r, .r, .r, .r]) st2 K
  rw [cut8_5, h2]
  generalize nth .dead st2.tmps 6 = x
  generalize nth .dead st2.tmps 7 = y
  generalize nth .dead st2.tmps 8 = z
  generalize (fun j => nth .dead st2.tmps j) = T
  rw [cond8]
  generalize (fun j => bif Nat.ble 16 j then (bif Nat.ble j 22 then nth .dead [.ptr 3 0, .ptr 3 0, .ptr 3 1, i64 j2, P9.st s, i64 s.length, bo (decide ((j2 : Int) < (s.length : Int)))] (j - 16) else T j) else T j) = T'
  refine brn_intro (fun h => ?_) (fun h => ?_)
  · have h' : j2 < s.length := by simpa using h
    rw [if_pos h'] at hG2
    refine dst8 (r := stdR a o) ?_ hj2 hl ⟨ho1, ho2⟩ ⟨rfl, rfl⟩ hG2 x y z T' (fun b p S E j3 st3 hG3 hj3 hlb h3 => ?_)
    · exact fun j st a b c => hs j st a b c
    exact endWc hs hd hj3 hl hla hlb hG3 st3 h3
  · have h' : ¬ j2 < s.length := by simpa using h
    rw [if_neg h'] at hG2
    show evCode C5 (c8 [.r, .r, .r, .r, .r, .r]) _ K
    exact endW hs hd hj2 hl hla (Nat.zero_le _) hG2 _ (by show _ = _; kernel_rfl)
end P9
set_option maxRecDepth 100000
namespace P9
open Go Go.AE Go.Proofs
attribute [local irreducible] loopK evCode evSpec loopB norm k6 evFunc
def three (R : List AV) (why n : Int) : List (Nat × Ob) := [(0, ⟨true, 0, .cells R⟩), (1, ⟨true, 0, .cells [i64 why]⟩), (2, ⟨true, 0, .cells [i64 n]⟩)]
def Less (R R' : List AV) : Prop := R'.length = R.length ∧ ∀ (j : Nat) v, R'[j]? = some v → v = .dead ∨ (R[j]? = some v ∧ ∃ x, v = .imm x)
theorem Less.imms {R : List AV} (h : ∀ v, v ∈ R → ∃ x, v = .imm x) : Less R R := ⟨rfl, fun j v hv => .inr ⟨hv, h v (List.mem_of_getElem? hv)⟩⟩
theorem gok_less {G : Nat → Option (List AV)} {w : World} {own own' : Nat → Prop} (ho : ∀ b, own' b → own b) (hk : GOK G w own) : GOK G w own' := by
  intro n l hG
  obtain ⟨h1, c, T, fr, h2, h3, h4, h5⟩ := hk n l hG
  refine ⟨fun h => h1 (ho n h), c, T, fr, h2, h3, fun j u hu => ?_, h5⟩
  have := h4 j u hu
  unfold GRep at this ⊢
  split at this
  · exact Rep.mono (Nat.le_refl _) (fun b _ h => ho b h) (fun _ _ _ => rfl) this
  · exact this
  · exact this
theorem forget {b0 : Nat} {w0 : World} {R R' : List AV} {why n : Int} {rest : List (Nat × Ob)} {next : Nat} {g : Gh} (hM : Mem G0 b0 w0 (three R why n ++ rest) next g) (hR : Less R R') :
    Mem G0 b0 w0 (three R' why n) 3 { g with objs := three R' why n } ∧ (∀ x V, ARep g (.imm x) V → ARep { g with objs := three R' why n } (.imm x) V) ∧
    ∀ id V, id < 3 → ARep g (.ptr id 0) V → ARep { g with objs := three R' why n } (.ptr id 0) V := by
  have hsame : ∀ {id}, id < 3 → (lookup g.objs id).isSome = true := fun {id} h => by
    rw [hM.same]
    match id, h with
    | 0, _ => rfl
    | 1, _ => rfl
    | 2, _ => rfl
  have hid : ∀ {id}, (lookup (three R' why n) id).isSome = true → id < 3 := fun {id} h => by
    match id with
    | 0 => decide
    | 1 => decide
    | 2 => decide
    | m + 3 =>
      have : lookup (three R' why n) (m + 3) = none := rfl
      rw [this] at h; cases h
  have hls : ∀ {id}, (lookup (three R' why n) id).isSome = true → (lookup g.objs id).isSome = true := fun {id} h => hsame (hid h)
  have hown : ∀ b, ({ g with objs := three R' why n } : Gh).own b → g.own b := fun b h => by
    rcases h with h | ⟨id, h1, h2, h3⟩
    · exact .inl h
    · exact .inr ⟨id, hls h1, h2, h3⟩
  have himm : ∀ x V, ARep g (.imm x) V → ARep { g with objs := three R' why n } (.imm x) V := fun x V h => .imm (h.imm_inv.mono (Nat.le_refl _) (fun b _ h => hown b h) (fun _ _ _ => rfl))
  refine ⟨⟨rfl, fun id ob h => ?_, fun id id' b h1 h2 => hM.uniq id id' b (hls h1) (hls h2), fun id h => ?_, hM.below, hM.size, fun b h => ⟨(hM.basel b h).1, fun id h1 => (hM.basel b h).2 id (hls h1)⟩, fun id b h1 => hM.above id b (hls h1), gok_less hown hM.glob⟩, himm, fun id V hi h => ?_⟩
  · have hlt := hid (by rw [h]; rfl : (lookup (three R' why n) id).isSome = true)
    have one : ∀ (id : Nat) (l l' : List AV), lookup g.objs id = some ⟨true, 0, .cells l⟩ → Less l l' → ObRep { g with objs := three R' why n } (g.ex id) (g.ρ id) ⟨true, 0, .cells l'⟩ := by
      intro id l l' hl hless
      have := hM.each id _ hl
      generalize g.ρ id = P at this ⊢
      generalize g.ex id = e at this ⊢
      cases this with
      | @cells _ _ b _ c T fr h1 h2 h3 h4 h5 h6 =>
        refine .cells h1 h2 h3 (by rw [h4, hless.1]) (fun j v hv => ?_) h6 (.inl rfl)
        rcases hless.2 j v hv with rfl | ⟨hv', x, rfl⟩
        · exact .dead
        · exact himm x _ (h5 j _ hv')
    match id, hlt with
    | 0, _ => cases h; exact one 0 R R' (by rw [hM.same]; rfl) hR
    | 1, _ => cases h; exact one 1 [i64 why] [i64 why] (by rw [hM.same]; rfl) (.imms (fun v hv => by rw [List.mem_singleton.1 hv]; exact ⟨_, rfl⟩))
    | 2, _ => cases h; exact one 2 [i64 n] [i64 n] (by rw [hM.same]; rfl) (.imms (fun v hv => by rw [List.mem_singleton.1 hv]; exact ⟨_, rfl⟩))
  · match id, h with
    | id + 3, _ => rfl
  · cases h with
    | @ptr _ _ b ob h1 h2 =>
      have : ∃ ob, lookup (three R' why n) id = some ob := by
        match id, hi with
        | 0, _ => exact ⟨_, rfl⟩
        | 1, _ => exact ⟨_, rfl⟩
        | 2, _ => exact ⟨_, rfl⟩
      obtain ⟨ob', ho⟩ := this
      exact .ptr ho h2
theorem at16 : Tryd.prog.funcs[23]? = some Tryd.f23 := by kernel_rfl
def K16 (Rf : List AV) (why n : Int) : AX → St → Prop := fun x st => (x = .normal ∨ x = .ret) ∧ st.outer = P3 ∧ ∃ rest, st.objs = three Rf why n ++ rest
theorem n16 (R : List AV) : evCode C16 (c16 [.r]) (E16 R nilV) (K16 R 0 0) := by
  rw [f16_n]
  exact ⟨.inl rfl, rfl, [], rfl⟩
theorem s16 (j : Int) : evCode C16 (c16 [.r]) (E16 (lrepl 17 .dead) (.ifc 63 (.agg [i64 j]))) (K16 zRule 14 j) := by
  show evCode C16 (c16 [.r]) (E16 [.dead, .dead, .dead, .dead, .dead, .dead, .dead, .dead, .dead, .dead, .dead, .dead, .dead, .dead, .dead, .dead, .dead] (.ifc 63 (.agg [i64 j]))) _
  rw [f16_s (hZ := rfl)]
  repeat' first | exact ⟨.inr rfl, rfl, _, rfl⟩ | refine And.intro ?_ ?_
theorem body16 : Tryd.f23.body = some (.seq (c16 [.l]) (c16 [.r])) := by kernel_rfl
theorem op16 : ∃ oa ob id, c16 [.l] = .region id #[oa, ob] false ∧ oa.op = .call ⟨.builtin .recover, #[], #[]⟩ ∧ oa.guard = none ∧ oa.dst = some 6 ∧ ob.op = .assign (.tmp 6) ∧ ob.guard = none ∧ ob.dst = some 3 :=
  ⟨_, _, _, rfl, rfl, rfl, rfl, rfl, rfl, rfl⟩
theorem run_recover {o : Oper} (ho : o.op = .call ⟨.builtin .recover, #[], #[]⟩) (ρ : Operand → Value) (w : World) : (execOp ρ o).run Tryd.prog w = .ok .recover w := by
  simp [execOp, ho, resolve, invoke, builtin, Sem.run_bind, Sem.run_pure]
theorem run_assign {o : Oper} {x : Operand} (ho : o.op = .assign x) (ρ : Operand → Value) (w : World) : (execOp ρ o).run Tryd.prog w = .ok (.value (ρ x)) w := by
  simp [execOp, ho, Sem.run_pure]
noncomputable def act16 (V0 V1 V2 XV : Value) : Act := (({ tmps := #[V0, V1, V2] ++ Array.replicate (Tryd.f23.ntmps - 3) undef, defers := [] } : Act).put (some 6) XV).put (some 3) XV
theorem act16_eq (V0 V1 V2 XV : Value) : (act16 V0 V1 V2 XV).tmps = #[V0, V1, V2, XV, undef, undef, XV, undef, undef, undef, undef, undef, undef, undef, undef, undef, undef, undef, undef] := by kernel_rfl
theorem tr16 {g : Gh} {R0 : List AV} {X : AV} {V0 V1 V2 XV : Value} (h0 : ARep g (.ptr 0 0) V0) (h1 : ARep g (.ptr 1 0) V1) (h2 : ARep g (.ptr 2 0) V2) (hX : ARep g X XV) : TmpsRep g (E16 R0 X).tmps (act16 V0 V1 V2 XV) := by
  unfold TmpsRep
  rw [act16_eq]
  refine ⟨rfl, fun t => ?_⟩
  match t with
  | 0 => exact h0
  | 1 => exact h1
  | 2 => exact h2
  | 3 => exact hX
  | 4 => exact .dead
  | 5 => exact .dead
  | 6 => exact hX
  | 7 => exact .dead
  | 8 => exact .dead
  | 9 => exact .dead
  | 10 => exact .dead
  | 11 => exact .dead
  | 12 => exact .dead
  | 13 => exact .dead
  | 14 => exact .dead
  | 15 => exact .dead
  | 16 => exact .dead
  | 17 => exact .dead
  | 18 => exact .dead
  | t + 19 => exact .dead
def Closed16 (b0 : Nat) (w0 : World) (g : Gh) (Rf : List AV) (why n : Int) (V0 V1 V2 : Value) (w' : World) : Prop :=
  ∃ (g' : Gh) (st' : St), g'.w = w' ∧ g'.base = g.base ∧ Mem G0 b0 w0 st'.objs st'.next g' ∧ (∃ rest, st'.objs = three Rf why n ++ rest) ∧ ARep g' (.ptr 0 0) V0 ∧ ARep g' (.ptr 1 0) V1 ∧ ARep g' (.ptr 2 0) V2
theorem ev6 (V0 V1 V2 X : Value) : (({ tmps := #[V0, V1, V2] ++ Array.replicate (Tryd.f23.ntmps - 3) undef, defers := [] } : Act).put (some 6) X).eval (.tmp 6) = X := by kernel_rfl
theorem close16 {b0 : Nat} {w0 : World} {g : Gh} {R0 Rf : List AV} {X : AV} {why n : Int} {V0 V1 V2 XV : Value} {u u' : FrameMode} (hev : evCode C16 (c16 [.r]) (E16 R0 X) (K16 Rf why n))
    (hM : Mem G0 b0 w0 (three R0 0 0) 3 g) (h0 : ARep g (.ptr 0 0) V0) (h1 : ARep g (.ptr 1 0) V1) (h2 : ARep g (.ptr 2 0) V2) (hX : ARep g X XV)
    (hrec : ∀ (c0 : Frame) cs, c0.mode = u → (recoverD (c0 :: cs) = some (XV, { c0 with mode := u' } :: cs) ∨ (recoverD (c0 :: cs) = none ∧ XV = .nilIface ∧ u' = u))) :
    CallsD Tryd.prog 23 #[V0, V1, V2] u g.w (fun e v w' => v = u' ∧ e = .returned (.tuple #[]) ∧ Closed16 b0 w0 g Rf why n V0 V1 V2 w') := by
  refine callsD_of_wpS at16 body16 (fun c0 cs hu => ?_)
  refine wpS_seq ?_
  obtain ⟨oa, ob, id, e, a1, a2, a3, b1, b2, b3⟩ := op16
  rw [e]
  refine wpS_region ?_
  have key : ∀ cs', cs' = { c0 with mode := u' } :: cs → (c16 [.r]).wpS Tryd.prog (bodyPostS Tryd.prog Tryd.f23 c0 cs (fun e v w' => v = u' ∧ e = .returned (.tuple #[]) ∧ Closed16 b0 w0 g Rf why n V0 V1 V2 w'))
      (act16 V0 V1 V2 XV) cs' g.w := by
    intro cs' hcs
    refine wpS_of_wp ?_
    have hT := tr16 (V0 := V0) (V1 := V1) (V2 := V2) (XV := XV) (R0 := R0) h0 h1 h2 hX
    refine evCode_sound (T := []) (C := C16) noE_ok noCall_ok (c16 [.r]) (noWC_nil _) (E16 R0 X) g _ _ _ hev hM hT (fun x st1 g1 a1 hk hM1 hO1 hK1 => ?_)
    obtain ⟨hx, hout, hobjs⟩ := hk
    have hd : a1.defers = [] := hK1.1.1
    have img := hO1.outer.2
    rw [hout] at img
    have fin : ∃ v, v = u' ∧ cs' = { c0 with mode := v } :: cs ∧ ∃ r, (results Tryd.f23 a1.tmps).run Tryd.prog g1.w = .ok r g1.w ∧ (v = u' ∧ Ending.returned r = .returned (.tuple #[]) ∧ Closed16 b0 w0 g Rf why n V0 V1 V2 g1.w) := by
      refine ⟨u', rfl, hcs, .tuple #[], ?_, rfl, rfl, g1, st1, rfl, hO1.base, hM1, hobjs, (img 0).1 _ h0, (img 1).1 _ h1, (img 2).1 _ h2⟩
      exact results_eq Tryd.f23 _ _ _ [] rfl
    obtain ⟨v, rfl, f1, r, f2, f3⟩ := fin
    rcases hx with rfl | rfl
    · exact fun _ => ⟨hd, v, f1, r, f2, f3⟩
    · exact fun _ => ⟨hd, v, f1, r, f2, f3⟩
  have hw : ∀ (o : Oper) f, o.guard = none → Region.wanted o f = true := fun o f h => wanted_none h f
  have e3 : (#[V0, V1, V2] : Array Value).size = 3 := rfl
  rw [e3]
  unfold act16 at key
  have h6 := ev6 V0 V1 V2
  generalize ({ tmps := #[V0, V1, V2] ++ Array.replicate (Tryd.f23.ntmps - 3) undef, defers := [] } : Act) = A at key h6 ⊢
  generalize bodyPostS Tryd.prog Tryd.f23 c0 cs _ = Q at key ⊢
  rw [show List.range (#[oa, ob] : Array Oper).size = [0, 1] from rfl]
  simp only [wpOpsS, List.getElem?_toArray, List.getElem?_cons_zero, List.getElem?_cons_succ, hw oa _ a2, hw ob _ b2, if_true, run_recover a1, run_assign b1, a3, b3]
  rcases hrec c0 cs hu with hr | ⟨hr, rfl, rfl⟩
  · rw [hr]
    simp only [Oper.upon, b3]
    rw [h6]
    exact key _ rfl
  · rw [hr]
    simp only [Oper.upon, b3]
    rw [h6]
    exact key _ (by rw [← hu])
def res9 : Out → List AV
  | .stop j => [.agg zR.cells, i64 14, i64 j]
  | .rule r => [.agg r.cells, i64 0, i64 0]
def sParse9 : List AV → Option (List Prop × List AV)
  | [.imm (.str s)] => some ([(s.length : Int) ≤ 1000000000000000000], res9 (parse9 s))
  | _ => none
theorem run_enter {P : Program} {f : FuncId} {fn : Func} {c : Code} (hf : P.funcs[f]? = some fn) (hname : (fn.name == "runtime.NumGoroutine") = false) (hb : fn.body = some c) (bs : Array Value) (w : World) :
    (invoke (.fn (.func f) bs) #[]).run P w = .ok (.enter f bs) w := by
  have h1 : fn.name ≠ "runtime.NumGoroutine" := by simpa using hname
  simp [invoke, callFunc, hf, h1, hb, Sem.run_bind, Sem.run_pure]
def rs8 (R : List AV) (why n : Int) (rest : List (Nat × Ob)) (nx : Nat) (out : List AV) : St := ⟨lapp [.dead, .dead, .ptr 0 0, .ptr 1 0, .ptr 2 0] (lrepl 35 .dead), three R why n ++ rest, nx, out⟩
theorem res8 (r : Ru) (why n : Int) (rest : List (Nat × Ob)) (nx : Nat) (out : List AV) : resOf Tryd.prog (rs8 r.cells why n rest nx out) Tryd.f15.results.toList = some [.agg r.cells, i64 why, i64 n] := by kernel_rfl
theorem out8 (r : Ru) (why n : Int) (objs : List (Nat × Ob)) : outRes objs [.agg r.cells, i64 why, i64 n] [] = some [.agg r.cells, i64 why, i64 n] := by kernel_rfl
theorem leaves8 {b0 : Nat} {w0 : World} {g g1 : Gh} {R0 : List AV} {X : AV} {why n : Int} {r : Ru} {tmps : Array Value} {V0 V1 V2 XV : Value} {u u' : FrameMode} (hev : evCode C16 (c16 [.r]) (E16 R0 X) (K16 r.cells why n))
    (hM : Mem G0 b0 w0 (three R0 0 0) 3 g1) (h0 : ARep g1 (.ptr 0 0) V0) (h1 : ARep g1 (.ptr 1 0) V1) (h2 : ARep g1 (.ptr 2 0) V2) (hX : ARep g1 X XV)
    (hrec : ∀ (c0 : Frame) cs, c0.mode = u → (recoverD (c0 :: cs) = some (XV, { c0 with mode := u' } :: cs) ∨ (recoverD (c0 :: cs) = none ∧ XV = .nilIface ∧ u' = u)))
    (hu : u ≠ .run) (hset : settle u' = .returning) (hsz : tmps.size = 40) (t0 : tmps.getD 2 undef = V0) (t1 : tmps.getD 3 undef = V1) (t2 : tmps.getD 4 undef = V2) (hbase : g1.base = g.base) :
    Leaves Tryd.prog Tryd.f15 tmps (FuncDone C5 b0 w0 st0 g (endsAs [.agg r.cells, i64 why, i64 n]) (fun _ _ => False)) [{ target := .fn (.func 23) #[V0, V1, V2], args := #[] }] u g1.w := by
  refine leaves_cons hu (run_enter at16 (by decide) body16 _ _) ((close16 hev hM h0 h1 h2 hX hrec).mono ?_)
  rintro e v w' ⟨rfl, rfl, g4, st4, rfl, hb, hM4, ⟨rest, ho⟩, k0, k1, k2⟩
  show Leaves _ _ _ _ [] (settle v) _
  rw [hset]
  have hT : TmpsRep g4 (rs8 r.cells why n rest st4.next []).tmps { tmps := tmps, defers := [] } := by
    refine ⟨hsz, fun t => ?_⟩
    by_cases e2 : t = 2
    · subst e2; rw [t0]; exact k0
    · by_cases e3 : t = 3
      · subst e3; rw [t1]; exact k1
      · by_cases e4 : t = 4
        · subst e4; rw [t2]; exact k2
        · have : nth .dead (rs8 r.cells why n rest st4.next []).tmps t = .dead := by
            match t with
            | 0 => rfl
            | 1 => rfl
            | 2 => exact absurd rfl e2
            | 3 => exact absurd rfl e3
            | 4 => exact absurd rfl e4
            | t + 5 =>
              show nth .dead (lrepl 35 .dead) t = .dead
              rw [lrepl_eq, nth_eq, List.getD_eq_getElem?_getD, List.getElem?_replicate]
              split <;> rfl
          rw [this]
          exact .dead
  have hM4' : Mem C5.G b0 w0 (rs8 r.cells why n rest st4.next []).objs (rs8 r.cells why n rest st4.next []).next g4 := by
    show Mem G0 b0 w0 (three r.cells why n ++ rest) st4.next g4
    rw [← ho]; exact hM4
  obtain ⟨Vs, q1, q2, q3⟩ := resOf_sound (C := C5) hM4' hT (res8 r why n rest st4.next [])
  refine ⟨resV Vs, results_eq Tryd.f15 tmps Tryd.prog g4.w Vs q1, .inl ⟨_, ⟨[], st4.objs, st4.next, []⟩, g4, Vs, rfl, ?_, hM4, rfl, ?_, q2, q3⟩⟩
  · unfold endsAs
    rw [out8]
  · exact ⟨⟨rfl, fun t => .dead g g4⟩, ⟨rfl, fun t => .dead g g4⟩, hb.trans hbase⟩
theorem at8 : Tryd.prog.funcs[15]? = some Tryd.f15 := by kernel_rfl
theorem body8 : Tryd.f15.body = some (.seq (c8 [.l]) (.seq (c8 [.r, .l]) (.seq (c8 [.r, .r, .l]) (c8 [.r, .r, .r])))) := by kernel_rfl
theorem nt8 : Tryd.f15.ntmps = 40 := by kernel_rfl
theorem cut_a (st : St) (k : AX → St → Prop) : evCode C5 a8 st k = evCode C5 (c8 [.l]) st (fun x st => match x with | .normal => evCode C5 (c8 [.r, .l]) st k | x => k x st) := by kernel_rfl
theorem op8 : ∃ om od id, c8 [.r, .r, .l] = .region id #[om, od] false ∧ om.op = .makeFunc (.func 23) #[] #[.tmp 2, .tmp 3, .tmp 4] ∧ om.guard = none ∧ om.dst = some 9 ∧ od.op = .defer ⟨.value (.tmp 9), #[], #[]⟩ ∧ od.guard = none ∧ od.dst = none :=
  ⟨_, _, _, rfl, rfl, rfl, rfl, rfl, rfl, rfl⟩
theorem run_makeFunc {o : Oper} {f : FuncId} {cs : Array Operand} (ho : o.op = .makeFunc (.func f) #[] cs) (ρ : Operand → Value) (w : World) : (execOp ρ o).run Tryd.prog w = .ok (.value (.func (.func f) #[] (cs.map ρ))) w := by
  simp [execOp, ho, Instr.makeFunc]
theorem run_defer {o : Oper} {x : Operand} (ho : o.op = .defer ⟨.value x, #[], #[]⟩) (ρ : Operand → Value) (w : World) {fn : Fn} {cs : Array Value} (hx : ρ x = .func fn #[] cs) :
    (execOp ρ o).run Tryd.prog w = .ok (.defer { target := .fn fn cs, args := #[] }) w := by
  simp [execOp, ho, resolve, Deferred.ofValue, hx, Sem.run_bind, Sem.run_pure]
def tm8 (s : List UInt8) (F : AV) : List AV := lapp [st s, .dead, .ptr 0 0, .ptr 1 0, .ptr 2 0, .ptr 3 0, st s, .agg [st s, i64 0], .ptr 3 0, F] (lrepl 30 .dead)
def F16 : AV := .fn 23 [] [.ptr 0 0, .ptr 1 0, .ptr 2 0]
def ob8 (s : List UInt8) : List (Nat × Ob) := o8 s 0 zRule
def start8 (s : List UInt8) : AX → St → Prop := fun x st => x = .normal ∧ st.tmps = tm8 s .dead ∧ st.objs = ob8 s ∧ st.next = 4
theorem start8_ev (s : List UInt8) : evCode C5 (c8 [.l]) (e8 s) (fun x st => match x with
    | .normal => evCode C5 (c8 [.r, .l]) st (start8 s)
    | x => start8 s x st) := by
  rw [← cut_a, f8_a]
  exact ⟨rfl, rfl, rfl, rfl⟩
def M8 (s : List UInt8) : St := ⟨tm8 s F16, ob8 s, 4, P3⟩
theorem M8_is (s : List UInt8) : Is8 s 0 (stdR [] 0) (M8 s) := by
  show _ = _
  kernel_rfl
def K8 (s : List UInt8) : AX → St → Prop := fun x st => st.outer = P3 ∧ match x with
  | .ret => ∃ r : Ru, parse9 s = .rule r ∧ Ok0 r.cells st
  | .panic v => ∃ (j : Nat) (R : List AV), v = .ifc 63 (.agg [i64 j]) ∧ parse9 s = .stop j ∧ R.length = 17 ∧ Ok0 R st
  | _ => False
theorem K8_ev (s : List UInt8) (hs : s.length ≤ 1000000000000000000) : evCode C5 (c8 [.r, .r, .r]) (M8 s) (K8 s) := by
  refine walk8 (G := fun o => parse9 s = o) (fun j st h ok out => ?_) (fun r st h ok out _ _ _ => ?_) hs rfl (M8 s) (M8_is s)
  · obtain ⟨R, hR, ok⟩ := ok
    exact ⟨out, j, R, rfl, h, hR, ok⟩
  · exact ⟨out, r, h, ok⟩
theorem noW8 : noWC [2, 3, 4] (c8 [.r, .r, .r]) = true := by kernel_rfl
theorem inlF_ok : ∀ f fn, inlF f = some fn → Tryd.prog.funcs[f]? = some fn ∧ (fn.name == "runtime.NumGoroutine") = false := by
  intro f fn h
  unfold inlF at h
  have one : ∀ (m : Nat) (fm : Func), Nat.beq f m = true → some fm = some fn → Tryd.prog.funcs[m]? = some fm → (fm.name == "runtime.NumGoroutine") = false → Tryd.prog.funcs[f]? = some fn ∧ (fn.name == "runtime.NumGoroutine") = false := by
    intro m fm hb e h1 h2
    have := nbeq hb
    subst this
    cases e
    exact ⟨h1, h2⟩
  cases h1 : Nat.beq f 24 with
  | true => rw [h1, cond_true] at h; exact one 24 _ h1 h (by kernel_rfl) (by decide)
  | false =>
  rw [h1, cond_false] at h
  cases h1 : Nat.beq f 25 with
  | true => rw [h1, cond_true] at h; exact one 25 _ h1 h (by kernel_rfl) (by decide)
  | false =>
  rw [h1, cond_false] at h
  cases h1 : Nat.beq f 26 with
  | true => rw [h1, cond_true] at h; exact one 26 _ h1 h (by kernel_rfl) (by decide)
  | false =>
  rw [h1, cond_false] at h
  cases h1 : Nat.beq f 27 with
  | true => rw [h1, cond_true] at h; exact one 27 _ h1 h (by kernel_rfl) (by decide)
  | false =>
  rw [h1, cond_false] at h
  cases h1 : Nat.beq f 50 with
  | true => rw [h1, cond_true] at h; exact one 50 _ h1 h (by kernel_rfl) (by decide)
  | false =>
  rw [h1, cond_false] at h
  cases h1 : Nat.beq f 51 with
  | true => rw [h1, cond_true] at h; exact one 51 _ h1 h (by kernel_rfl) (by decide)
  | false => rw [h1, cond_false] at h; cases h
theorem okC5 : CallOK C5 := inl_ok okF5 inlF_ok 4
theorem body_end {b0 : Nat} {w0 : World} {g0 g : Gh} {s : List UInt8} {a2 : Act} {V0 V1 V2 : Value} (hs : s.length ≤ 1000000000000000000) (hM : Mem G0 b0 w0 (ob8 s) 4 g) (hT : TmpsRep g (tm8 s F16) a2)
    (v0 : a2.tmps.getD 2 undef = V0) (v1 : a2.tmps.getD 3 undef = V1) (v2 : a2.tmps.getD 4 undef = V2) (hd : a2.defers = [{ target := .fn (.func 23) #[V0, V1, V2], args := #[] }]) (hb : g.base = g0.base) :
    (c8 [.r, .r, .r]).wp Tryd.prog (bodyPostD Tryd.prog Tryd.f15 (FuncDone C5 b0 w0 st0 g0 (endsAs (res9 (parse9 s))) (fun _ _ => False))) a2 g.w := by
  refine evCode_sound (T := [2, 3, 4]) (C := C5) okF5 okC5 (c8 [.r, .r, .r]) noW8 (M8 s) g a2 _ _ (K8_ev s hs) hM hT (fun x st1 g1 a1 hk hM1 hO1 hK1 => ?_)
  obtain ⟨hout, hk⟩ := hk
  have hd1 : a1.defers = [{ target := .fn (.func 23) #[V0, V1, V2], args := #[] }] := by rw [hK1.1.1]; exact hd
  have hsz : a1.tmps.size = 40 := by rw [hK1.1.2]; exact hT.1
  have t0 : a1.tmps.getD 2 undef = V0 := by rw [hK1.2 2 (by decide)]; exact v0
  have t1 : a1.tmps.getD 3 undef = V1 := by rw [hK1.2 3 (by decide)]; exact v1
  have t2 : a1.tmps.getD 4 undef = V2 := by rw [hK1.2 4 (by decide)]; exact v2
  have img := hO1.outer.2
  rw [hout] at img
  have r0 : ARep g1 (.ptr 0 0) V0 := (img 0).1 _ (by rw [← v0]; exact hT.2 2)
  have r1 : ARep g1 (.ptr 1 0) V1 := (img 1).1 _ (by rw [← v1]; exact hT.2 3)
  have r2 : ARep g1 (.ptr 2 0) V2 := (img 2).1 _ (by rw [← v2]; exact hT.2 4)
  have hb1 : g1.base = g0.base := by rw [hO1.base]; exact hb
  cases x with
  | normal => exact hk.elim
  | exit id => exact hk.elim
  | ret =>
    intro _
    obtain ⟨r, hp, rest, ho⟩ := hk
    have hM1' : Mem G0 b0 w0 (three r.cells 0 0 ++ rest) st1.next g1 := by
      rw [show three r.cells 0 0 ++ rest = st1.objs from ho.symm]; exact hM1
    have hL : Less r.cells r.cells := .imms (fun v hv => by
      unfold Ru.cells R17 at hv
      simp only [List.mem_cons, List.not_mem_nil, or_false] at hv
      rcases hv with rfl | rfl | rfl | rfl | rfl | rfl | rfl | rfl | rfl | rfl | rfl | rfl | rfl | rfl | rfl | rfl | rfl <;> exact ⟨_, rfl⟩)
    obtain ⟨hM3, _, hptr⟩ := forget hM1' hL
    show Leaves _ _ _ _ _ .returning _
    rw [hd1, hp]
    exact leaves8 (g1 := { g1 with objs := three r.cells 0 0 }) (X := nilV) (XV := .nilIface) (u' := .returning) (n16 r.cells) hM3 (hptr 0 _ (by decide) r0) (hptr 1 _ (by decide) r1) (hptr 2 _ (by decide) r2) (.imm (.val rfl))
      (fun c0 cs hu => .inr ⟨by simp [recoverD, hu], rfl, rfl⟩) (by simp) rfl hsz t0 t1 t2 hb1
  | panic v =>
    intro V hV
    obtain ⟨j, R, rfl, hp, hR, rest, ho⟩ := hk
    have hM1' : Mem G0 b0 w0 (three R 0 0 ++ rest) st1.next g1 := by
      rw [show three R 0 0 ++ rest = st1.objs from ho.symm]; exact hM1
    have hL : Less R (lrepl 17 .dead) := ⟨by rw [hR]; rfl, fun k v hv => .inl (by
      rw [lrepl_eq, List.getElem?_replicate] at hv
      split at hv
      · cases hv; rfl
      · cases hv)⟩
    obtain ⟨hM3, himm, hptr⟩ := forget hM1' hL
    have hX : ARep { g1 with objs := three (lrepl 17 .dead) 0 0 } (.ifc 63 (.agg [i64 j])) V := by
      cases hV with
      | ifc h =>
        cases h with
        | agg q1 q2 q3 =>
          refine .ifc (.agg q1 (fun k c hc => ?_) q3)
          match k with
          | 0 => simp only [List.getElem?_cons_zero, Option.some.injEq] at hc; subst hc; exact himm _ _ (q2 0 _ rfl)
          | k + 1 => simp at hc
    show Leaves _ _ _ _ _ (.panicking [{ v := V, recovered := false }]) _
    rw [hd1, hp]
    exact leaves8 (r := zR) (g1 := { g1 with objs := three (lrepl 17 .dead) 0 0 }) (u' := .panicking [{ v := V, recovered := true }]) (s16 j) hM3 (hptr 0 _ (by decide) r0) (hptr 1 _ (by decide) r1) (hptr 2 _ (by decide) r2) hX
      (fun c0 cs hu => .inl (by simp [recoverD, hu])) (by simp) rfl hsz t0 t1 t2 hb1
theorem put_getD {a : Act} {t : Nat} (V : Value) (h : t < a.tmps.size) : (a.put (some t) V).eval (.tmp t) = V := by
  show (a.tmps.setIfInBounds t V).getD t undef = V
  simp [Array.getD_eq_getD_getElem?, Array.getElem?_setIfInBounds, h]
theorem put_other {a : Act} {t u : Nat} (V : Value) (h : t ≠ u) : (a.put (some t) V).tmps.getD u undef = a.tmps.getD u undef := by
  show (a.tmps.setIfInBounds t V).getD u undef = _
  simp only [Array.getD_eq_getD_getElem?, Array.getElem?_setIfInBounds_ne h]
theorem calls8 {b0 : Nat} {w0 : World} {g : Gh} {s : List UInt8} {vals : Array Value} (hs : s.length ≤ 1000000000000000000) (hM : Mem G0 b0 w0 [] 0 g) (hsz : vals.size = 1) (hr : ARep g (st s) (vals.getD 0 undef)) :
    Calls Tryd.prog 15 vals g.w (FuncDone C5 b0 w0 st0 g (endsAs (res9 (parse9 s))) (fun _ _ => False)) := by
  refine calls_of_wp_defers at8 body8 ?_
  have hT0 : TmpsRep g (e8 s).tmps { tmps := vals ++ Array.replicate (Tryd.f15.ntmps - vals.size) undef, defers := [] } := by
    rw [nt8, hsz]
    refine ⟨by simp [hsz, e8, lapp_eq, lrepl_eq], fun t => ?_⟩
    match t with
    | 0 =>
      show ARep g (st s) _
      rw [Array.getD_eq_getD_getElem?, Array.getElem?_append, if_pos (by omega), ← Array.getD_eq_getD_getElem?]
      exact hr
    | t + 1 =>
      have : nth .dead (e8 s).tmps (t + 1) = .dead := by
        show nth .dead (lrepl 39 .dead) t = .dead
        rw [lrepl_eq, nth_eq, List.getD_eq_getElem?_getD, List.getElem?_replicate]
        split <;> rfl
      rw [this]
      exact .dead
  refine wp_seq ?_
  refine evCode_sound (T := []) (C := C5) okF5 okC5 (c8 [.l]) (noWC_nil _) (e8 s) g _ _ _ (start8_ev s) hM hT0 (fun x st1 g1 a1 hk hM1 hO1 hK1 => ?_)
  cases x with
  | exit id => exact absurd hk.1 (by simp)
  | ret => exact absurd hk.1 (by simp)
  | panic v => exact absurd hk.1 (by simp)
  | normal =>
  intro hT1
  show Code.wp _ _ _ _ _
  refine wp_seq ?_
  refine evCode_sound (T := []) (C := C5) okF5 okC5 (c8 [.r, .l]) (noWC_nil _) st1 g1 _ _ _ hk hM1 hT1 (fun x st2 g2 a2 hk hM2 hO2 hK2 => ?_)
  cases x with
  | exit id => exact absurd hk.1 (by simp)
  | ret => exact absurd hk.1 (by simp)
  | panic v => exact absurd hk.1 (by simp)
  | normal =>
  intro hT2
  obtain ⟨_, ht, ho, hn⟩ := hk
  rw [ht] at hT2
  rw [ho, hn] at hM2
  have hd2 : a2.defers = [] := by rw [hK2.1.1, hK1.1.1]
  have hsz2 : a2.tmps.size = 40 := hT2.1
  show Code.wp _ _ _ _ _
  refine wp_seq ?_
  obtain ⟨om, od, id, e, m1, m2, m3, d1, d2, d3⟩ := op8
  rw [e]
  refine wp_region_list ?_
  show wpList _ _ _ [om, od] _ _
  unfold wpList
  rw [if_pos (wanted_none m2 _)]
  left
  unfold Oper.wp
  have hmap : Array.map a2.eval #[.tmp 2, .tmp 3, .tmp 4] = #[a2.tmps.getD 2 undef, a2.tmps.getD 3 undef, a2.tmps.getD 4 undef] := by simp [Act.eval]
  rw [run_makeFunc m1, Oper.upon_value, m3, hmap]
  unfold wpList
  rw [if_pos (wanted_none d2 _)]
  left
  unfold Oper.wp
  rw [run_defer d1 _ _ (put_getD _ (by rw [hsz2]; decide)), Oper.upon_defer, d3]
  show Code.wp _ _ _ _ _
  refine body_end (V0 := a2.tmps.getD 2 undef) (V1 := a2.tmps.getD 3 undef) (V2 := a2.tmps.getD 4 undef) hs hM2 ?_ (put_other _ (by decide)) (put_other _ (by decide)) (put_other _ (by decide)) ?_ ((hO2.base.trans hO1.base))
  · refine ⟨by show (a2.tmps.setIfInBounds 9 _).size = _; rw [Array.size_setIfInBounds]; exact hT2.1, fun t => ?_⟩
    by_cases h9 : t = 9
    · subst h9
      have : ((a2.put (some 9) (.func (.func 23) #[] #[a2.tmps.getD 2 undef, a2.tmps.getD 3 undef, a2.tmps.getD 4 undef])).tmps.getD 9 undef) = .func (.func 23) #[] #[a2.tmps.getD 2 undef, a2.tmps.getD 3 undef, a2.tmps.getD 4 undef] := put_getD _ (by rw [hsz2]; decide)
      show ARep g2 F16 ((a2.put (some 9) (.func (.func 23) #[] #[a2.tmps.getD 2 undef, a2.tmps.getD 3 undef, a2.tmps.getD 4 undef])).tmps.getD 9 undef)
      rw [this]
      refine .fn rfl (fun j c hc => by simp at hc) rfl (fun j c hc => ?_)
      match j with
      | 0 => cases hc; exact hT2.2 2
      | 1 => cases hc; exact hT2.2 3
      | 2 => cases hc; exact hT2.2 4
      | j + 3 => simp at hc
    · show ARep g2 (nth .dead (tm8 s F16) t) ((a2.put (some 9) _).tmps.getD t undef)
      rw [put_other _ (fun h => h9 h.symm)]
      have : nth .dead (tm8 s F16) t = nth .dead (tm8 s .dead) t := by
        have : tm8 s F16 = setNth F16 (tm8 s .dead) 9 := rfl
        rw [this, setNth_eq, nth_eq, nth_eq, List.getD_eq_getElem?_getD, List.getElem?_set_ne (fun h => h9 h.symm), List.getD_eq_getElem?_getD]
      rw [this]
      exact hT2.2 t
  · show _ :: (a2.put _ _).defers = _
    rw [put_defers, hd2]
theorem ok8 : ∀ args pres res, sParse9 args = some (pres, res) → SpecOK Tryd.prog G0 15 args pres res := by
  intro args pres res h
  unfold sParse9 at h
  split at h
  case h_2 => cases h
  cases h
  rename_i s
  refine spec_done (C := C5) at8 (by decide) (by rw [body8]; rfl) (fun hp g b0 w0 vals hM hsz hr => ?_)
  have hl := hp _ (List.mem_cons_self ..)
  exact calls8 (by omega) hM hsz (hr 0 _ rfl)
end P9
set_option maxRecDepth 100000
namespace P9
open Go Go.AE Go.Proofs
attribute [local irreducible] loopK evCode evSpec loopB norm
def ruOf : Out → Ru
  | .stop _ => zR
  | .rule r => r
def whyOf : Out → Int
  | .stop _ => 14
  | .rule _ => 0
def atOf : Out → Int
  | .stop j => j
  | .rule _ => 0
def ruP (s : List UInt8) : Ru := ruOf (parse9 s)
def whyP (s : List UInt8) : Int := whyOf (parse9 s)
def atP (s : List UInt8) : Int := atOf (parse9 s)
theorem res9_eq (o : Out) : res9 o = [.agg (ruOf o).cells, i64 (whyOf o), i64 (atOf o)] := by cases o <;> rfl
def sParseP : List AV → Option (List Prop × List AV)
  | [.imm (.str s)] => some ([(s.length : Int) ≤ 1000000000000000000], [.agg (ruP s).cells, i64 (whyP s), i64 (atP s)])
  | _ => none
noncomputable def F6 := addE F5 15 sParseP
noncomputable def C6 : Cx := cx F6
def e4 (s t : List UInt8) (a b k d m w e u k' d' m' w' e' u' : Int) : St := ⟨lapp [st s, st t, i64 a, i64 b, dayAV k d m w e u, dayAV k' d' m' w' e' u'] (lrepl 114 .dead), [], 0, []⟩
def e5 (s : List UInt8) (a k d m w e u k' d' m' w' e' u' : Int) : St := ⟨lapp [st s, i64 a, dayAV k d m w e u, dayAV k' d' m' w' e' u'] (lrepl 110 .dead), [], 0, []⟩
theorem okP : ∀ args pres res, sParseP args = some (pres, res) → SpecOK Tryd.prog G0 15 args pres res := by
  intro args pres res h
  unfold sParseP at h
  split at h
  case h_2 => cases h
  cases h
  rename_i s
  refine ok8 _ _ _ ?_
  have : sParse9 [.imm (.str s)] = some ([(s.length : Int) ≤ 1000000000000000000], res9 (parse9 s)) := rfl
  rw [this, res9_eq]
  first | done | rfl
theorem okF6 : EOK Tryd.prog F6 G0 := addE_ok okF5 okP
theorem SpecOK.pre {P : Program} {G : Nat → Option (List AV)} {f : FuncId} {args res : List AV} {pres pres' : List Prop} (h : (∀ p, p ∈ pres' → p) → SpecOK P G f args pres res) (hp : (∀ p, p ∈ pres' → p) → ∀ p, p ∈ pres → p)
    (hb : ∃ fn, P.funcs[f]? = some fn ∧ (fn.name == "runtime.NumGoroutine") = false ∧ fn.body.isNone = false) : SpecOK P G f args pres' res :=
  ⟨hb, fun hps => (h hps).2 (hp hps)⟩
end P9
set_option maxRecDepth 100000
namespace P9
open Go Go.AE Go.Proofs
end P9
set_option maxRecDepth 100000
namespace P9
open Go Go.AE Go.Proofs
section
variable {s : List UInt8} {i : Nat} {P : Out → Prop}
theorem nameQ_P {F : List UInt8 → Nat → Out} (hi : i ≤ s.length) (h : P (.stop i)) (hF : ∀ a j, j ≤ s.length → P (F a j)) : P (nameQ s i F) := by
  unfold nameQ
  obtain ⟨n, hn, hl, _⟩ := parse7_n (s.drop i)
  rw [List.length_drop] at hl
  split
  · rw [hn, Int.toNat_natCast]; exact hF _ _ (by omega)
  · exact h
theorem offQ_P {F : Int → Nat → Out} (hi : i ≤ s.length) (h : P (.stop i)) (hF : ∀ a j, j ≤ s.length → P (F a j)) : P (offQ s i F) := by
  unfold offQ
  obtain ⟨n, hn, hl⟩ := parse_n (s.drop i)
  rw [List.length_drop] at hl
  split
  · rw [hn, Int.toNat_natCast]; exact hF _ _ (by omega)
  · exact h
theorem dayQ_P {F : Dv → Nat → Out} (hi : i ≤ s.length) (h : P (.stop i)) (hF : ∀ a j, j ≤ s.length → P (F a j)) : P (dayQ s i F) := by
  unfold dayQ
  obtain ⟨n, hn, hl⟩ := day_n (s.drop i)
  rw [List.length_drop] at hl
  split
  · rw [hn, Int.toNat_natCast]; exact hF _ _ (by omega)
  · exact h
theorem comma_lt (h : comma s i = true) : i < s.length := by
  rw [comma_eq] at h
  simp at h
  exact h.1
theorem commaQ_P {F : Nat → Out} (h : P (.stop i)) (hF : ∀ j, j ≤ s.length → P (F j)) : P (commaQ s i F) := by
  unfold commaQ
  split
  · rename_i hc
    exact hF _ (comma_lt hc)
  · exact h
theorem dstOffQ_P {o : Int} {F : Int → Nat → Out} (hi : i ≤ s.length) (h : P (.stop i)) (hF : ∀ a j, j ≤ s.length → P (F a j)) : P (dstOffQ s i o F) := by
  unfold dstOffQ
  split
  · exact offQ_P hi h hF
  · exact hF _ _ hi
theorem dstQ_P {a : List UInt8} {o : Int} {F : Ru → Nat → Out} (hi : i ≤ s.length) (h : ∀ j, j ≤ s.length → P (.stop j)) (hF : ∀ r j, j ≤ s.length → P (F r j)) : P (dstQ s i a o F) := by
  unfold dstQ
  exact nameQ_P hi (h _ hi) fun _ _ h1 => dstOffQ_P h1 (h _ h1) fun _ _ h2 => commaQ_P (h _ h2) fun _ h3 => dayQ_P h3 (h _ h3) fun _ _ h4 => commaQ_P (h _ h4) fun _ h5 => dayQ_P h5 (h _ h5) fun _ _ h6 => hF _ _ h6
theorem parse9_P (h : ∀ j, j ≤ s.length → P (.stop j)) (hr : ∀ r, validRu r = true → P (.rule r)) : P (parse9 s) := by
  have he : ∀ r j, j ≤ s.length → P (endP s r j) := by
    intro r j hj
    unfold endP
    split
    · split
      · rename_i hv; exact hr r hv
      · exact h j hj
    · exact h j hj
  unfold parse9
  refine nameQ_P (Nat.zero_le _) (h 0 (Nat.zero_le _)) fun _ _ h1 => offQ_P h1 (h _ h1) fun _ _ h2 => ?_
  split
  · exact dstQ_P h2 h he
  · exact he _ _ h2
end
theorem parse9_valid {s : List UInt8} {r : Ru} (h : parse9 s = .rule r) : validRu r = true :=
  parse9_P (P := fun o => ∀ r, o = .rule r → validRu r = true) (fun k hk r e => by cases e) (fun r hv r' e => by cases e; exact hv) r h
end P9
set_option maxRecDepth 100000
namespace P7
open Go Go.AE Go.Proofs
attribute [local irreducible] loopK evCode evSpec loopB norm
end P7
namespace PA
open Go Go.AE Go.Proofs P9
theorem date_cons (b : UInt8) (r : List UInt8) : date (b :: r) = if b = 74 then ⟨1, (number r).1, 0, 0, 0, (number r).2.1 + 1, (number r).2.2⟩ else if b = 77 then dateM (b :: r) else ⟨2, (number (b :: r)).1, 0, 0, 0, (number (b :: r)).2.1, (number (b :: r)).2.2⟩ := rfl
def late (t : Int) : Bool := decide (t < 0) || decide (t > 86400)
def okP (s : List UInt8) : Bool := whyP s == 0
def refnum (s : List UInt8) (i : Nat) : Int × Int := if (number (s.drop i)).2.2 then ((number (s.drop i)).1, (i : Int) + (number (s.drop i)).2.1) else (-1, (i : Int))
def sFail : List AV → Option (List Prop × List AV)
  | [.imm (.int .i64 n)] => some ([], [.agg zR.cells, i64 14, i64 n])
  | _ => none
def sLate : List AV → Option (List Prop × List AV)
  | [.agg [.imm (.int .i64 k), .imm (.int .i64 d), .imm (.int .i64 m), .imm (.int .i64 w), .imm (.int .i64 e), .imm (.int .i64 t)]] => some ([], [bo (late t)])
  | _ => none
def sNum : List AV → Option (List Prop × List AV)
  | [.imm (.str s), .imm (.int .i64 i)] => some ([0 ≤ i, i ≤ (s.length : Int), (s.length : Int) ≤ 4611686018427387904], [i64 (refnum s i.toNat).1, i64 (refnum s i.toNat).2])
  | _ => none
def sDayR : List AV → Option (List Prop × List AV)
  | [.imm (.str s)] => some ([(s.length : Int) ≤ 4000000000000000000], [dayAV (day s).k (day s).d (day s).m (day s).w (day s).e (day s).t, i64 (day s).n, bo (day s).ok])
  | _ => none
def sExt : List AV → Option (List Prop × List AV)
  | [.agg [.imm (.str a), .imm (.int .i64 o), .imm (.bool h), .imm (.str b), .imm (.int .i64 p), .imm (.int .i64 k), .imm (.int .i64 d), .imm (.int .i64 m), .imm (.int .i64 w), .imm (.int .i64 e), .imm (.int .i64 t), .imm (.int .i64 k'), .imm (.int .i64 d'), .imm (.int .i64 m'), .imm (.int .i64 w'), .imm (.int .i64 e'), .imm (.int .i64 t')]] =>
    some ([], [bo (h && (late t || late t'))])
  | _ => none
noncomputable def cx (E : FuncId → List AV → Option (List Prop × List AV)) : Cx := ⟨Tryd.prog, E, noCall, P8.G8, 0⟩
noncomputable def cxu (E : FuncId → List AV → Option (List Prop × List AV)) : Cx := ⟨Tryd.prog, E, noCall, P8.G8, 3⟩
def D1 := noE
def D2 := noE
noncomputable def R0 := addE (addE (addE (addE F6 59 sSide) 57 sFail) 62 sLate) 80 sNum
noncomputable def R1 := addE (addE R0 60 sDayR) 61 sValidRule
noncomputable def R2 := addE (addE R1 41 sParseP) 42 sExt
noncomputable def K0 : Cx := cx noE
noncomputable def K1 : Cx := cx D1
noncomputable def K2 : Cx := cx D2
noncomputable def Q0 : Cx := cx R0
noncomputable def Q1 : Cx := cx R1
noncomputable def U0 : Cx := cxu R0
def h66 (s : List UInt8) (i v n : Int) : St := ⟨lapp [st s, i64 i, .dead, .dead, i64 0, i64 0, i64 v, i64 n] (lrepl 43 .dead), [], 0, []⟩
def kN (N : St → Prop) (K : AX → St → Prop) : AX → St → Prop := fun x st => match x with
  | .normal => N st
  | x => K x st
noncomputable def QU : Cx := cxu R1
noncomputable def c21 : List Dir → Code := fun p => codeAt p (bodyOf Tryd.f41)
noncomputable def q21 (k : Nat) : Code := c21 (lapp (lrepl k .r) [.l])
noncomputable def a21 : Code := .seq (q21 0) (.seq (q21 1) (.seq (q21 2) (.seq (q21 3) (.seq (q21 4) (.seq (q21 5) (.seq (q21 6) (.seq (q21 7) (.seq (q21 8) (q21 9)))))))))
noncomputable def b21 : Code := .seq (q21 10) (.seq (q21 11) (.seq (q21 12) (.seq (q21 13) (.seq (q21 14) (.seq (q21 15) (.seq (q21 16) (q21 17)))))))
def e21 (s : List UInt8) : St := ⟨lapp [st s] (lrepl 171 .dead), [], 0, []⟩
def S21 (s : List UInt8) (i : Int) (R : List AV) (T : Nat → AV) : St :=
  ⟨lapp [st s, T 1, .ptr 0 0, i64 0, i64 0, .ptr 1 0, T 6, T 7, T 8, T 9, T 10, T 11, i64 i] (lmap T (ldrop 13 (upto 172 []))), [(0, ⟨true, 0, .cells zRule⟩), (1, ⟨true, 0, .cells R⟩)], 2, []⟩
def S21e (s : List UInt8) (i : Int) (R X Y : List AV) (T : Nat → AV) : St :=
  ⟨lapp [st s, T 1, .ptr 0 0, i64 0, i64 0, .ptr 1 0, T 6, T 7, T 8, T 9, T 10, T 11, i64 i] (lmap T (ldrop 13 (upto 172 []))), [(0, ⟨true, 0, .cells zRule⟩), (1, ⟨true, 0, .cells R⟩), (2, ⟨true, 0, .cells X⟩), (3, ⟨true, 0, .cells Y⟩)], 4, []⟩
end PA
set_option maxRecDepth 100000
namespace PA
open Go Go.AE Go.Proofs P9
attribute [local irreducible] loopK evCode evSpec loopB norm
theorem f27_in (n : Int) (K : List AV → Prop) : evSpec K0 Tryd.f59 [i64 n] K =
  (K [AV.imm (IV.bool (decide (n ≥ (-89999 : Int)) && decide (n ≤ (89999 : Int))))]) := by kernel_rfl
theorem f43_in (n : Int) (K : List AV → Prop) : evSpec K0 Tryd.f57 [i64 n] K = (K [AV.agg (R8 [] 0), i64 14, i64 n]) := by kernel_rfl
theorem f32_in (k : Int) (d : Int) (m : Int) (w : Int) (e : Int) (t : Int) (K : List AV → Prop) : evSpec K0 Tryd.f62 [dayAV k d m w e t] K = (K [.imm (.bool (decide (t < 0) || decide (t > 86400)))]) := by kernel_rfl
theorem f66_in (s : List UInt8) (i : Int) (K : List AV → Prop) : evSpec K0 Tryd.f80 [st s, i64 i] K = (LoopI K0 (bodyOf Tryd.f80) (0 : Nat) (St.mk (lapp [st s, i64 i, AV.dead, AV.dead, i64 0, i64 0, i64 0, i64 i, i64 i] (dN 42)) [] (0 : Nat) []) (finK K0 Tryd.f80 K)) := by kernel_rfl
theorem f66_lp (s : List UInt8) (i : Int) (v : Int) (n : Int) (k : AX → St → Prop) (c : Int) (hc : c = (↑(UInt8.toNat (List.getD s n.toNat (0 : UInt8))) : Int)) : evCode K0 (loopB (bodyOf Tryd.f80) (0 : Nat)) (h66 s i v n) k = ((decide (n < (s.length : Int)) = true → (0 : Int) ≤ n) ∧ (decide (n < (s.length : Int)) = true → n < (s.length : Int)) ∧ ((decide (n < (s.length : Int)) && decide (c ≥ 48)) = true → (0 : Int) ≤ n) ∧ ((decide (n < (s.length : Int)) && decide (c ≥ 48)) = true → n < (s.length : Int)) ∧ brn (decide (n < (s.length : Int)) && decide (c ≥ 48) && decide (c ≤ 57)) (brn (decide (IntKind.wrap .i64 (n - i) < 4)) ((0 : Int) ≤ n ∧ n < (s.length : Int) ∧ k AX.normal (St.mk (lapp [st s, i64 i, .dead, .dead, i64 0, i64 0, i64 (IntKind.wrap .i64 (IntKind.wrap .i64 (IntKind.wrap .i64 ((10 : Int) * v) + IntKind.wrap .i64 c) - 48)), i64 (IntKind.wrap .i64 (n + 1)), .dead, i64 n, st s, i64 (s.length : Int), bo (decide (n < (s.length : Int))), bo (decide (n < (s.length : Int))), .opt [((13 : Nat), true)] (st s), .opt [((13 : Nat), true)] (i64 n), .opt [((13 : Nat), true)] (.imm (.int .u8 c)), .opt [((13 : Nat), true)] (bo (decide (c ≥ 48))), bo (decide (n < (s.length : Int)) &&
 decide (c ≥ 48)), bo (decide (n < (s.length : Int)) && decide (c ≥ 48)), .opt [((19 : Nat), true)] (st s), .opt [((19 : Nat), true)] (i64 n), .opt [((19 : Nat), true)] (.imm (.int .u8 c)), .opt [((19 : Nat), true)] (bo (decide (c ≤ 57))), bo (decide (n < (s.length : Int)) && decide (c ≥ 48) && decide (c ≤ 57)), i64 n, i64 i, i64 (IntKind.wrap .i64 (n - i)), bo (decide (IntKind.wrap .i64 (n - i) < 4)), i64 v, i64 (IntKind.wrap .i64 ((10 : Int) * v)), st s, i64 n, .imm (.int .u8 c), i64 (IntKind.wrap .i64 c), i64 (IntKind.wrap .i64 (IntKind.wrap .i64 ((10 : Int) * v) + IntKind.wrap .i64 c)), i64 (IntKind.wrap .i64 (IntKind.wrap .i64 (IntKind.wrap .i64 ((10 : Int) * v) + IntKind.wrap .i64 c) - 48)), i64 n, i64 (IntKind.wrap .i64 (n + 1))] (dN 12)) [] (0 : Nat) [])) (k AX.normal (St.mk (lapp [st s, i64 i, .dead, .dead, i64 0, i64 0, i64 v, i64 (IntKind.wrap .i64 (n + 1)), .dead, i64 n, st s, i64 (s.length : Int), bo (decide (n < (s.length : Int))), bo (decide (n < (s.length : Int))), .opt [((13 : Nat), true)] (st s), .opt [((13 : Nat), true)] (i64 n), .opt [((13 : Nat), true)] (.imm (.int .u8 c)), .opt [((13 : Nat), true)] (bo (decide (c ≥ 48))), bo (decide (n < (s.length : Int)) &&
 decide (c ≥ 48)), bo (decide (n < (s.length : Int)) && decide (c ≥ 48)), .opt [((19 : Nat), true)] (st s), .opt [((19 : Nat), true)] (i64 n), .opt [((19 : Nat), true)] (.imm (.int .u8 c)), .opt [((19 : Nat), true)] (bo (decide (c ≤ 57))), bo (decide (n < (s.length : Int)) && decide (c ≥ 48) && decide (c ≤ 57)), i64 n, i64 i, i64 (IntKind.wrap .i64 (n - i)), bo (decide (IntKind.wrap .i64 (n - i) < 4))] (lapp (dN 8) (lapp [i64 n, i64 (IntKind.wrap .i64 (n + 1))] (dN 12)))) [] (0 : Nat) []))) (k (AX.exit (0 : Nat)) (St.mk (lapp [st s, i64 i, .dead, .dead, i64 0, i64 0, i64 v, i64 n, .dead, i64 n, st s, i64 (s.length : Int), bo (decide (n < (s.length : Int))), bo (decide (n < (s.length : Int))), .opt [((13 : Nat), true)] (st s), .opt [((13 : Nat), true)] (i64 n), .opt [((13 : Nat), true)] (.imm (.int .u8 c)), .opt [((13 : Nat), true)] (bo (decide (c ≥ 48))), bo (decide (n < (s.length : Int)) && decide (c ≥ 48)), bo (decide (n < (s.length : Int)) && decide (c ≥ 48)), .opt [((19 : Nat), true)] (st s), .opt [((19 : Nat), true)] (i64 n), .opt [((19 : Nat), true)] (.imm (.int .u8 c)), .opt [((19 : Nat), true)] (bo (decide (c ≤ 57))), bo (decide (n < (s.length : Int)) && decide (c ≥ 48) &&
 decide (c ≤ 57))] (dN 26)) [] (0 : Nat) []))) := by subst hc; kernel_rfl
theorem f18_in (a : List UInt8) (o : Int) (h : Bool) (b : List UInt8) (p : Int) (k : Int) (d : Int) (m : Int) (w : Int) (e : Int) (t : Int) (k' : Int) (d' : Int) (m' : Int) (w' : Int) (e' : Int) (t' : Int) (K : List AV → Prop) : evSpec Q0 Tryd.f42 [ruleAV a o h b p k d m w e t k' d' m' w' e' t'] K = (K [.imm (.bool (h && (late t || late t')))]) := by kernel_rfl
theorem f14_in (a : List UInt8) (o : Int) (h : Bool) (b : List UInt8) (p : Int) (k : Int) (d : Int) (m : Int) (w : Int) (e : Int) (t : Int) (k' : Int) (d' : Int) (m' : Int) (w' : Int) (e' : Int) (t' : Int) (K : List AV → Prop) : evSpec Q0 Tryd.f61 [ruleAV a o h b p k d m w e t k' d' m' w' e' t'] K = (a.length ≤ 9223372036854775807 ∧ brn (!P7.valid a || !side o) (K [bo false]) (brn (!h) (K [bo (decide (b = []) && p == 0 && (k == 0 && (d == 0 && (m == 0 && (w == 0 && (e == 0 && (t == 0 && true)))))) && (k' == 0 && (d' == 0 && (m' == 0 && (w' == 0 && (e' == 0 && (t' == 0 && true)))))))]) (b.length ≤ 9223372036854775807 ∧ K [bo (P7.valid b && side p && validDay k d m w e t && validDay k' d' m' w' e' t')]))) := by kernel_rfl
theorem f45_in (s : List UInt8) (K : List AV → Prop) (r1 : Int × Int) (hr1 : r1 = refnum s (1 : Int).toNat) (w1 : Int) (hw1 : w1 = IntKind.wrap .i64 (Prod.snd r1 + 1)) (r2 : Int × Int) (hr2 : r2 = refnum s (Int.toNat w1)) (w2 : Int) (hw2 : w2 = IntKind.wrap .i64 (Prod.snd r2 + 1)) (r3 : Int × Int) (hr3 : r3 = refnum s (Int.toNat w2)) : evSpec Q0 Tryd.f60 [st s] K = ((decide ((s.length : Int) > 0) = true → (0 : Int) ≤ 0) ∧ (decide ((s.length : Int) > 0) = true → (0 : Int) < (s.length : Int)) ∧ brn (decide ((s.length : Int) > 0) && (↑(UInt8.toNat (List.getD s (0 : Int).toNat (0 : UInt8))) : Int) == 74) ((0 : Int) ≤ 1 ∧ (1 : Int) ≤ (s.length : Int) ∧ (s.length : Int) ≤ 4611686018427387904 ∧ ((decide (Prod.fst r1 ≥ 0) && decide (Prod.snd r1 < (s.length : Int))) = true → (0 : Int) ≤ Prod.snd r1) ∧ ((decide (Prod.fst r1 ≥ 0) && decide (Prod.snd r1 < (s.length : Int))) = true → Prod.snd r1 < (s.length : Int)) ∧ brn (decide (Prod.fst r1 ≥ 0) && decide (Prod.snd r1 < (s.length : Int)) && (↑(UInt8.toNat (List.getD s (Prod.snd r1).toNat (0 : UInt8))) : Int) == 47) ((0 : Int) ≤ IntKind.wrap .i64 (Prod.snd r1 + 1) ∧ IntKind.wrap .i64 (Prod.snd r1 + 1) ≤ (s.length : Int) ∧ (↑(List.take (s.length
 - Int.toNat w1) (List.drop (Int.toNat w1) s)).length : Int) ≤ P8.big ∧ brn (!(P8.parse (List.take (s.length - Int.toNat w1) (List.drop (Int.toNat w1) s))).2.2 || !validDay (1 : Int) (Prod.fst r1) (0 : Int) (0 : Int) (0 : Int) (P8.parse (List.take (s.length - Int.toNat w1) (List.drop (Int.toNat w1) s))).1) (K [dayAV 0 0 0 0 0 0, i64 0, bo false]) (K [dayAV 1 (Prod.fst r1) 0 0 0 (P8.parse (List.take (s.length - Int.toNat w1) (List.drop (Int.toNat w1) s))).1, i64 (IntKind.wrap .i64 (IntKind.wrap .i64 (Prod.snd r1 + 1) + (P8.parse (List.take (s.length - Int.toNat w1) (List.drop (Int.toNat w1) s))).2.1)), bo true])) (brn (!decide (Prod.fst r1 ≥ 0) || !validDay (1 : Int) (Prod.fst r1) (0 : Int) (0 : Int) (0 : Int) (7200 : Int)) (K [dayAV 0 0 0 0 0 0, i64 0, bo false]) (K [dayAV 1 (Prod.fst r1) 0 0 0 7200, i64 (Prod.snd r1), bo true]))) ((decide ((s.length : Int) > 0) = true → (0 : Int) ≤ 0) ∧ (decide ((s.length : Int) > 0) = true → (0 : Int) < (s.length : Int)) ∧ brn (decide ((s.length : Int) > 0) && (↑(UInt8.toNat (List.getD s (0 : Int).toNat (0 : UInt8))) : Int) == 77) ((0 : Int) ≤ 1 ∧ (1 : Int) ≤ (s.length : Int) ∧ (s.length : Int) ≤ 4611686018427387904 ∧ ((decide (Prod.fst r1 < 0) ||
 decide (Prod.snd r1 ≥ (s.length : Int))) = false → (0 : Int) ≤ Prod.snd r1) ∧ ((decide (Prod.fst r1 < 0) || decide (Prod.snd r1 ≥ (s.length : Int))) = false → Prod.snd r1 < (s.length : Int)) ∧ brn (decide (Prod.fst r1 < 0) || decide (Prod.snd r1 ≥ (s.length : Int)) || (↑(UInt8.toNat (List.getD s (Prod.snd r1).toNat (0 : UInt8))) : Int) != 46) (K [dayAV 0 0 0 0 0 0, i64 0, bo false]) ((0 : Int) ≤ IntKind.wrap .i64 (Prod.snd r1 + 1) ∧ IntKind.wrap .i64 (Prod.snd r1 + 1) ≤ (s.length : Int) ∧ (s.length : Int) ≤ 4611686018427387904 ∧ ((decide (Prod.fst r2 < 0) || decide (Prod.snd r2 ≥ (s.length : Int))) = false → (0 : Int) ≤ Prod.snd r2) ∧ ((decide (Prod.fst r2 < 0) || decide (Prod.snd r2 ≥ (s.length : Int))) = false → Prod.snd r2 < (s.length : Int)) ∧ brn (decide (Prod.fst r2 < 0) || decide (Prod.snd r2 ≥ (s.length : Int)) || (↑(UInt8.toNat (List.getD s (Prod.snd r2).toNat (0 : UInt8))) : Int) != 46) (K [dayAV 0 0 0 0 0 0, i64 0, bo false]) ((0 : Int) ≤ IntKind.wrap .i64 (Prod.snd r2 + 1) ∧ IntKind.wrap .i64 (Prod.snd r2 + 1) ≤ (s.length : Int) ∧ (s.length : Int) ≤ 4611686018427387904 ∧ ((decide (Prod.fst r3 ≥ 0) && decide (Prod.snd r3 < (s.length : Int))) = true → (0 : Int) ≤ Prod.snd
 r3) ∧ ((decide (Prod.fst r3 ≥ 0) && decide (Prod.snd r3 < (s.length : Int))) = true → Prod.snd r3 < (s.length : Int)) ∧ brn (decide (Prod.fst r3 ≥ 0) && decide (Prod.snd r3 < (s.length : Int)) && (↑(UInt8.toNat (List.getD s (Prod.snd r3).toNat (0 : UInt8))) : Int) == 47) ((0 : Int) ≤ IntKind.wrap .i64 (Prod.snd r3 + 1) ∧ IntKind.wrap .i64 (Prod.snd r3 + 1) ≤ (s.length : Int) ∧ (↑(List.take (s.length - (IntKind.wrap .i64 (Prod.snd r3 + 1)).toNat) (List.drop (IntKind.wrap .i64 (Prod.snd r3 + 1)).toNat s)).length : Int) ≤ P8.big ∧ brn (!(P8.parse (List.take (s.length - (IntKind.wrap .i64 (Prod.snd r3 + 1)).toNat) (List.drop (IntKind.wrap .i64 (Prod.snd r3 + 1)).toNat s))).2.2 || !validDay (3 : Int) (0 : Int) (Prod.fst r1) (Prod.fst r2) (Prod.fst r3) (P8.parse (List.take (s.length - (IntKind.wrap .i64 (Prod.snd r3 + 1)).toNat) (List.drop (IntKind.wrap .i64 (Prod.snd r3 + 1)).toNat s))).1) (K [dayAV 0 0 0 0 0 0, i64 0, bo false]) (K [dayAV 3 0 (Prod.fst r1) (Prod.fst r2) (Prod.fst r3) (P8.parse (List.take (s.length - (IntKind.wrap .i64 (Prod.snd r3 + 1)).toNat) (List.drop (IntKind.wrap .i64 (Prod.snd r3 + 1)).toNat s))).1, i64 (IntKind.wrap .i64 (IntKind.wrap .i64 (Prod.snd r3 + 1) +
 (P8.parse (List.take (s.length - (IntKind.wrap .i64 (Prod.snd r3 + 1)).toNat) (List.drop (IntKind.wrap .i64 (Prod.snd r3 + 1)).toNat s))).2.1)), bo true])) (brn (!decide (Prod.fst r3 ≥ 0) || !validDay (3 : Int) (0 : Int) (Prod.fst r1) (Prod.fst r2) (Prod.fst r3) (7200 : Int)) (K [dayAV 0 0 0 0 0 0, i64 0, bo false]) (K [dayAV 3 0 (Prod.fst r1) (Prod.fst r2) (Prod.fst r3) 7200, i64 (Prod.snd r3), bo true]))))) ((0 : Int) ≤ 0 ∧ (0 : Int) ≤ (s.length : Int) ∧ (s.length : Int) ≤ 4611686018427387904 ∧ ((decide ((refnum s (0 : Int).toNat).1 ≥ 0) && decide ((refnum s (0 : Int).toNat).2 < (s.length : Int))) = true → (0 : Int) ≤ (refnum s (0 : Int).toNat).2) ∧ ((decide ((refnum s (0 : Int).toNat).1 ≥ 0) && decide ((refnum s (0 : Int).toNat).2 < (s.length : Int))) = true → (refnum s (0 : Int).toNat).2 < (s.length : Int)) ∧ brn (decide ((refnum s (0 : Int).toNat).1 ≥ 0) && decide ((refnum s (0 : Int).toNat).2 < (s.length : Int)) && (↑(UInt8.toNat (List.getD s (refnum s (0 : Int).toNat).2.toNat (0 : UInt8))) : Int) == 47) ((0 : Int) ≤ IntKind.wrap .i64 ((refnum s (0 : Int).toNat).2 + 1) ∧ IntKind.wrap .i64 ((refnum s (0 : Int).toNat).2 + 1) ≤ (s.length : Int) ∧ (↑(List.take (s.length -
 (IntKind.wrap .i64 ((refnum s (0 : Int).toNat).2 + 1)).toNat) (List.drop (IntKind.wrap .i64 ((refnum s (0 : Int).toNat).2 + 1)).toNat s)).length : Int) ≤ P8.big ∧ brn (!(P8.parse (List.take (s.length - (IntKind.wrap .i64 ((refnum s (0 : Int).toNat).2 + 1)).toNat) (List.drop (IntKind.wrap .i64 ((refnum s (0 : Int).toNat).2 + 1)).toNat s))).2.2 || !validDay (2 : Int) (refnum s (0 : Int).toNat).1 (0 : Int) (0 : Int) (0 : Int) (P8.parse (List.take (s.length - (IntKind.wrap .i64 ((refnum s (0 : Int).toNat).2 + 1)).toNat) (List.drop (IntKind.wrap .i64 ((refnum s (0 : Int).toNat).2 + 1)).toNat s))).1) (K [dayAV 0 0 0 0 0 0, i64 0, bo false]) (K [dayAV 2 (refnum s (0 : Int).toNat).1 0 0 0 (P8.parse (List.take (s.length - (IntKind.wrap .i64 ((refnum s (0 : Int).toNat).2 + 1)).toNat) (List.drop (IntKind.wrap .i64 ((refnum s (0 : Int).toNat).2 + 1)).toNat s))).1, i64 (IntKind.wrap .i64 (IntKind.wrap .i64 ((refnum s (0 : Int).toNat).2 + 1) + (P8.parse (List.take (s.length - (IntKind.wrap .i64 ((refnum s (0 : Int).toNat).2 + 1)).toNat) (List.drop (IntKind.wrap .i64 ((refnum s (0 : Int).toNat).2 + 1)).toNat s))).2.1)), bo true])) (brn (!decide ((refnum s (0 : Int).toNat).1 ≥ 0) || !validDay (2 :
 Int) (refnum s (0 : Int).toNat).1 (0 : Int) (0 : Int) (0 : Int) (7200 : Int)) (K [dayAV 0 0 0 0 0 0, i64 0, bo false]) (K [dayAV 2 (refnum s (0 : Int).toNat).1 0 0 0 7200, i64 (refnum s (0 : Int).toNat).2, bo true]))))) := by subst hr3; subst hw2; subst hr2; subst hw1; subst hr1; kernel_rfl
theorem f17_in (a : List UInt8) (o : Int) (h : Bool) (b : List UInt8) (p : Int) (k : Int) (d : Int) (m : Int) (w : Int) (e : Int) (t : Int) (k' : Int) (d' : Int) (m' : Int) (w' : Int) (e' : Int) (t' : Int) (K : List AV → Prop) : evSpec U0 Tryd.f16 [ruleAV a o h b p k d m w e t k' d' m' w' e' t'] K = ((0 : Int) ≤ 0 ∧ (0 : Int) < (↑(List.length [[IV.int .i64 k, IV.int .i64 d, IV.int .i64 m, IV.int .i64 w, IV.int .i64 e, IV.int .i64 t], [IV.int .i64 k', IV.int .i64 d', IV.int .i64 m', IV.int .i64 w', IV.int .i64 e', IV.int .i64 t']]) : Int) ∧ kcells (List.getD [[IV.int .i64 k, IV.int .i64 d, IV.int .i64 m, IV.int .i64 w, IV.int .i64 e, IV.int .i64 t], [IV.int .i64 k', IV.int .i64 d', IV.int .i64 m', IV.int .i64 w', IV.int .i64 e', IV.int .i64 t']] (0 : Int).toNat []) (0 : Nat) (lapp [CK.int IntKind.i64] (lapp [CK.int IntKind.i64] (lapp [CK.int IntKind.i64] (lapp [CK.int IntKind.i64] (lapp [CK.int IntKind.i64] (lapp [CK.int IntKind.i64] [])))))) = List.getD [[IV.int .i64 k, IV.int .i64 d, IV.int .i64 m, IV.int .i64 w, IV.int .i64 e, IV.int .i64 t], [IV.int .i64 k', IV.int .i64 d', IV.int .i64 m', IV.int .i64 w', IV.int .i64 e', IV.int .i64 t']] (0 : Int).toNat [] ∧ brn (decide (ivInt
 (ivNth (List.getD [[IV.int .i64 k, IV.int .i64 d, IV.int .i64 m, IV.int .i64 w, IV.int .i64 e, IV.int .i64 t], [IV.int .i64 k', IV.int .i64 d', IV.int .i64 m', IV.int .i64 w', IV.int .i64 e', IV.int .i64 t']] (0 : Int).toNat []) ((0 : Nat) + 1 + 1 + 1 + 1 + 1)) < 0) || decide (ivInt (ivNth (List.getD [[IV.int .i64 k, IV.int .i64 d, IV.int .i64 m, IV.int .i64 w, IV.int .i64 e, IV.int .i64 t], [IV.int .i64 k', IV.int .i64 d', IV.int .i64 m', IV.int .i64 w', IV.int .i64 e', IV.int .i64 t']] (0 : Int).toNat []) ((0 : Nat) + 1 + 1 + 1 + 1 + 1)) > 86400)) (K [bo h]) ((0 : Int) ≤ IntKind.wrap .i64 ((0 : Int) + 1) ∧ IntKind.wrap .i64 ((0 : Int) + 1) < (↑(List.length [[IV.int .i64 k, IV.int .i64 d, IV.int .i64 m, IV.int .i64 w, IV.int .i64 e, IV.int .i64 t], [IV.int .i64 k', IV.int .i64 d', IV.int .i64 m', IV.int .i64 w', IV.int .i64 e', IV.int .i64 t']]) : Int) ∧ kcells (List.getD [[IV.int .i64 k, IV.int .i64 d, IV.int .i64 m, IV.int .i64 w, IV.int .i64 e, IV.int .i64 t], [IV.int .i64 k', IV.int .i64 d', IV.int .i64 m', IV.int .i64 w', IV.int .i64 e', IV.int .i64 t']] (IntKind.wrap .i64 ((0 : Int) + 1)).toNat []) (0 : Nat) (lapp [CK.int IntKind.i64] (lapp [CK.int IntKind.i64] (lapp [CK.int
 IntKind.i64] (lapp [CK.int IntKind.i64] (lapp [CK.int IntKind.i64] (lapp [CK.int IntKind.i64] [])))))) = List.getD [[IV.int .i64 k, IV.int .i64 d, IV.int .i64 m, IV.int .i64 w, IV.int .i64 e, IV.int .i64 t], [IV.int .i64 k', IV.int .i64 d', IV.int .i64 m', IV.int .i64 w', IV.int .i64 e', IV.int .i64 t']] (IntKind.wrap .i64 ((0 : Int) + 1)).toNat [] ∧ brn (decide (ivInt (ivNth (List.getD [[IV.int .i64 k, IV.int .i64 d, IV.int .i64 m, IV.int .i64 w, IV.int .i64 e, IV.int .i64 t], [IV.int .i64 k', IV.int .i64 d', IV.int .i64 m', IV.int .i64 w', IV.int .i64 e', IV.int .i64 t']] (IntKind.wrap .i64 ((0 : Int) + 1)).toNat []) ((0 : Nat) + 1 + 1 + 1 + 1 + 1)) < 0) || decide (ivInt (ivNth (List.getD [[IV.int .i64 k, IV.int .i64 d, IV.int .i64 m, IV.int .i64 w, IV.int .i64 e, IV.int .i64 t], [IV.int .i64 k', IV.int .i64 d', IV.int .i64 m', IV.int .i64 w', IV.int .i64 e', IV.int .i64 t']] (IntKind.wrap .i64 ((0 : Int) + 1)).toNat []) ((0 : Nat) + 1 + 1 + 1 + 1 + 1)) > 86400)) (K [bo h]) (K [bo false]))) := by kernel_rfl
theorem f66_out (s : List UInt8) (i : Int) (v : Int) (n : Int) (K : List AV → Prop) : loopK K0 (bodyOf Tryd.f80) (0 : Nat) (finK K0 Tryd.f80 K) (AX.exit (0 : Nat)) (St.mk (let y := let y := let y := [.dead, .dead, .dead, .dead, .dead, .dead, .dead]; AV.dead :: AV.dead :: AV.dead :: AV.dead :: AV.dead :: AV.dead :: y; let y := AV.dead :: AV.dead :: AV.dead :: AV.dead :: AV.dead :: AV.dead :: AV.dead :: y; AV.dead :: AV.dead :: AV.dead :: AV.dead :: AV.dead :: AV.dead :: y; let y := let y := AV.imm (.bool (decide (n < (s.length : Int)) && decide ((↑(UInt8.toNat (List.getD s n.toNat (0 : UInt8))) : Int) ≥ 48))) :: AV.imm (.bool (decide (n < (s.length : Int)) && decide ((↑(UInt8.toNat (List.getD s n.toNat (0 : UInt8))) : Int) ≥ 48))) :: AV.opt [((19 : Nat), true)] (.imm (.str s)) :: AV.opt [((19 : Nat), true)] (.imm (.int .i64 n)) :: AV.opt [((19 : Nat), true)] (.imm (.int .u8 (↑(UInt8.toNat (List.getD s n.toNat (0 : UInt8))) : Int))) :: AV.opt [((19 : Nat), true)] (.imm (.bool (decide ((↑(UInt8.toNat (List.getD s n.toNat (0 : UInt8))) : Int) ≤ 57)))) :: AV.imm (.bool (decide (n < (s.length : Int)) && decide ((↑(UInt8.toNat (List.getD s n.toNat (0 : UInt8))) : Int) ≥ 48) && decide ((↑(UInt8.toNat (List.getD s n.toNat (0 : UInt8))) : Int) ≤ 57))) :: y; AV.imm (.bool (decide (n < (s.length : Int)))) :: AV.imm (.bool (decide (n < (s.length : Int)))) :: AV.opt [((13 : Nat), true)] (.imm (.str s)) :: AV.opt [((13 : Nat), true)] (.imm (.int .i64 n)) :: AV.opt [((13 : Nat), true)] (.imm (.int .u8 (↑(UInt8.toNat (List.getD s n.toNat (0 : UInt8))) : Int))) :: AV.opt [((13 : Nat), true)] (.imm (.bool (decide ((↑(UInt8.toNat (List.getD s n.toNat (0 : UInt8))) : Int) ≥ 48)))) :: y; let y := AV.imm (.int .i64 v) :: AV.imm (.int .i64 n) :: AV.dead :: AV.imm (.int .i64 n) :: AV.imm (.str s) :: AV.imm (.int .i64 (s.length : Int)) :: y; AV.imm (.str s) :: AV.imm (.int .i64 i) :: AV.dead :: AV.dead :: AV.imm (.int .i64 0) :: AV.imm (.int .i64 0) :: y) [] (0 : Nat) []) = (brn (n == i || decide (n > IntKind.wrap .i64 (i + 3))) (K [.imm (.int .i64 (-1 : Int)), .imm (.int .i64 i)]) (K [.imm (.int .i64 v), .imm (.int .i64 n)])) := by kernel_rfl
theorem mk {E : FuncId → List AV → Option (List Prop × List AV)} (hE : EOK Tryd.prog E P8.G8) {f : FuncId} {fn : Func} {args res : List AV} {pres : List Prop} (hf : Tryd.prog.funcs[f]? = some fn) (hn : (fn.name == "runtime.NumGoroutine") = false) (hb : fn.body.isNone = false)
    (h : (∀ p, p ∈ pres → p) → ∀ K : List AV → Prop, K res → evSpec (cx E) fn args K) : SpecOK Tryd.prog P8.G8 f args pres res :=
  spec_ok (C := cx E) hE noCall_ok hf hn hb (fun hp => h hp _ rfl)
theorem mku {E : FuncId → List AV → Option (List Prop × List AV)} (hE : EOK Tryd.prog E P8.G8) {f : FuncId} {fn : Func} {args res : List AV} {pres : List Prop} (hf : Tryd.prog.funcs[f]? = some fn) (hn : (fn.name == "runtime.NumGoroutine") = false) (hb : fn.body.isNone = false)
    (h : (∀ p, p ∈ pres → p) → ∀ K : List AV → Prop, K res → evSpec (cxu E) fn args K) : SpecOK Tryd.prog P8.G8 f args pres res :=
  spec_ok (C := cxu E) hE noCall_ok hf hn hb (fun hp => h hp _ rfl)
theorem ok0 : EOK Tryd.prog noE P8.G8 := noE_ok
theorem wrap64 {n : Int} (h1 : -9223372036854775808 ≤ n) (h2 : n ≤ 9223372036854775807) : IntKind.wrap .i64 n = n := P8.wrap64 h1 h2
theorem dd_len (n : Nat) : (P8.dd n).length ≤ 3 := (P8.dd_len n).2
theorem ok27 : ∀ args pres res, sSide args = some (pres, res) → SpecOK Tryd.prog P8.G8 59 args pres res := by
  intro args pres res h
  unfold sSide at h
  split at h
  case h_2 => cases h
  cases h
  rename_i n
  exact mk ok0 Tryd.func59 (by kernel_rfl) (by kernel_rfl) (fun _ K hK => Eq.mpr (f27_in n K) hK)
theorem ok43 : ∀ args pres res, sFail args = some (pres, res) → SpecOK Tryd.prog P8.G8 57 args pres res := by
  intro args pres res h
  unfold sFail at h
  split at h
  case h_2 => cases h
  cases h
  rename_i n
  exact mk ok0 Tryd.func57 (by kernel_rfl) (by kernel_rfl) (fun _ K hK => Eq.mpr (f43_in n K) hK)
theorem ok32 : ∀ args pres res, sLate args = some (pres, res) → SpecOK Tryd.prog P8.G8 62 args pres res := by
  intro args pres res h
  unfold sLate at h
  split at h
  case h_2 => cases h
  cases h
  exact mk ok0 Tryd.func62 (by kernel_rfl) (by kernel_rfl) (fun _ K hK => by refine Eq.mpr (f32_in ..) ?_; exact hK)
def p66 : Plan := ⟨[], [true, true, false, false, true, true, true, true], []⟩
theorem w10' {h b : Int} (h0 : 0 ≤ h) (h1 : h ≤ 9999) (h2 : 48 ≤ b) (h3 : b ≤ 57) : IntKind.wrap .i64 (IntKind.wrap .i64 (IntKind.wrap .i64 (10 * h) + IntKind.wrap .i64 b) - 48) = 10 * h + (b - 48) := by
  rw [wrap64 (n := b) (by omega) (by omega), wrap64 (n := 10 * h) (by omega) (by omega), wrap64 (n := 10 * h + b) (by omega) (by omega), wrap64 (by omega) (by omega)]; omega
theorem f66_ev (s : List UInt8) (i : Nat) (hi : i ≤ s.length) (hs : (s.length : Int) ≤ 4611686018427387904) (K : List AV → Prop) (hK : K [i64 (refnum s i).1, i64 (refnum s i).2]) : evSpec K0 Tryd.f80 [st s, i64 (i : Int)] K := by
  rw [f66_in]
  have hrl := P8.run_le (s.drop i)
  have hdl : (s.drop i).length = s.length - i := List.length_drop
  unfold LoopI
  refine loop_rule (fun j : Nat => h66 s i (P8.num ((P8.runD (s.drop i)).take (min j 4))) ((i + j : Nat) : Int)) (fun j => j ≤ (P8.runD (s.drop i)).length) (fun j => (P8.runD (s.drop i)).length - j)
    (fun j hP K' hnorm hexit => ?_) rfl 0 p66 _ (by omega) (by kernel_rfl)
  have ej : IntKind.wrap .i64 (((i + j : Nat) : Int) + 1) = ((i + (j + 1) : Nat) : Int) := by rw [wrap64 (by omega) (by omega)]; omega
  have en : IntKind.wrap .i64 (((i + j : Nat) : Int) - (i : Int)) = (j : Int) := by rw [wrap64 (by omega) (by omega)]; omega
  have hd := P8.run_digit (s.drop i) j hP
  rw [← P8.digit_drop] at hd
  rw [f66_lp (hc := rfl)]
  refine ⟨fun _ => by omega, fun h => by simpa using h, fun _ => by omega, fun h => ?_, ?_⟩
  · rw [Bool.and_eq_true] at h; simpa using h.1
  by_cases hlt : j < (P8.runD (s.drop i)).length
  · rw [if_pos hlt] at hd
    have hh : (P8.digit s (i + j)).2 = true := by rw [hd]
    refine brn_intro (fun _ => ?_) (fun h => by rw [Int.toNat_natCast] at h; rw [P9.digit_read, hh] at h; cases h)
    obtain ⟨v1, v2, v3, v4⟩ := P9.digit_val hh
    rw [en]
    refine brn_intro (fun h4 => ?_) (fun h4 => ?_)
    · have hj4 : j < 4 := by simp only [decide_eq_true_eq] at h4; omega
      have hm : min j 4 = j := by omega
      have hm1 : min (j + 1) 4 = j + 1 := by omega
      have hnl := P8.num_le (s.drop i) j hP
      have hn9 : P8.num ((P8.runD (s.drop i)).take j) < 1000 := by
        have : 10 ^ j ≤ 10 ^ 3 := Nat.pow_le_pow_right (by decide) (by omega)
        omega
      refine ⟨by omega, by omega, hnorm (j + 1) p66 _ (by omega) (by omega) ?_⟩
      have e2 : (P8.num ((P8.runD (s.drop i)).take (min (j + 1) 4)) : Int) = 10 * (P8.num ((P8.runD (s.drop i)).take (min j 4)) : Int) + (((s.getD (i + j) 0).toNat : Int) - 48) := by
        rw [hm, hm1, P8.num_succ _ _ hlt]
        have : P8.dv ((P8.runD (s.drop i)).getD j 0) = (s.getD (i + j) 0).toNat - 48 := by
          rw [← v4, hd]
        rw [this]
        omega
      have e3 := w10' (h := (P8.num ((P8.runD (s.drop i)).take (min j 4)) : Int)) (b := ((s.getD (i + j) 0).toNat : Int)) (by omega) (by rw [hm]; omega) (by omega) (by omega)
      rw [e2, ← e3, ← ej]
      show _ = _
      kernel_rfl
    · have hj4 : ¬ j < 4 := by simp only [decide_eq_false_iff_not] at h4; omega
      have hm : min (j + 1) 4 = min j 4 := by omega
      refine hnorm (j + 1) p66 _ (by omega) (by omega) ?_
      rw [hm, ← ej]
      show _ = _
      kernel_rfl
  · rw [if_neg hlt] at hd
    have hj : j = (P8.runD (s.drop i)).length := by omega
    have hh : (P8.digit s (i + j)).2 = false := by rw [hd]
    refine brn_intro (fun h => by rw [Int.toNat_natCast] at h; rw [P9.digit_read, hh] at h; cases h) (fun _ => ?_)
    refine hexit _ _ (by simp) ?_
    refine Eq.mpr (f66_out s (i : Int) (P8.num ((P8.runD (s.drop i)).take (min j 4))) ((i + j : Nat) : Int) K) ?_
    have e3 : IntKind.wrap .i64 ((i : Int) + 3) = (i : Int) + 3 := wrap64 (by omega) (by omega)
    rw [e3]
    unfold refnum number at hK
    refine brn_intro (fun h => ?_) (fun h => ?_)
    · simp only [Bool.or_eq_true, beq_iff_eq, decide_eq_true_eq] at h
      by_cases h3 : (P8.runD (s.drop i)).length ≤ 3
      · rw [if_pos h3] at hK
        have h0 : (P8.runD (s.drop i)).length = 0 := by omega
        rw [h0] at hK
        exact hK
      · rw [if_neg h3] at hK
        exact hK
    · simp only [Bool.or_eq_false_iff, beq_eq_false_iff_ne, ne_eq, decide_eq_false_iff_not] at h
      have h3 : (P8.runD (s.drop i)).length ≤ 3 := by omega
      rw [if_pos h3] at hK
      have hm : min j 4 = (P8.runD (s.drop i)).length := by omega
      rw [hm, List.take_length]
      have h0 : decide (0 < (P8.runD (s.drop i)).length) = true := by rw [decide_eq_true_eq]; omega
      rw [h0] at hK
      simp only at hK
      rw [if_pos trivial] at hK
      rw [hj]
      have e4 : (i : Int) + ((P8.runD (s.drop i)).length : Int) = ((i + (P8.runD (s.drop i)).length : Nat) : Int) := by omega
      rw [e4] at hK
      exact hK
theorem ok66 : ∀ args pres res, sNum args = some (pres, res) → SpecOK Tryd.prog P8.G8 80 args pres res := by
  intro args pres res h
  unfold sNum at h
  split at h
  case h_2 => cases h
  cases h
  rename_i s n
  refine mk ok0 Tryd.func80 (by kernel_rfl) (by kernel_rfl) (fun hp K hK => ?_)
  have h1 := hp _ (List.mem_cons_self ..)
  have h2 := hp _ (List.mem_cons_of_mem _ (List.mem_cons_self ..))
  have h3 := hp _ (List.mem_cons_of_mem _ (List.mem_cons_of_mem _ (List.mem_cons_self ..)))
  obtain ⟨i, rfl⟩ := P9.nat_of h1
  rw [Int.toNat_natCast] at hK
  exact f66_ev s i (by omega) h3 K hK
theorem okR0 : EOK Tryd.prog R0 P8.G8 := addE_ok (addE_ok (addE_ok (addE_ok okF6 ok27) ok43) ok32) ok66
theorem ok14 : ∀ args pres res, sValidRule args = some (pres, res) → SpecOK Tryd.prog P8.G8 61 args pres res := by
  intro args pres res h
  unfold sValidRule at h
  split at h
  case h_2 => cases h
  cases h
  rename_i a o h b p k d m w e t k' d' m' w' e' t'
  refine mk okR0 Tryd.func61 (by kernel_rfl) (by kernel_rfl) (fun hp K hK => ?_)
  have ha := hp _ (List.mem_cons_self ..)
  have hb := hp _ (List.mem_cons_of_mem _ (List.mem_cons_self ..))
  rw [show cx R0 = Q0 from rfl]
  refine Eq.mpr (f14_in a o h b p k d m w e t k' d' m' w' e' t' K) ?_
  have fin : ∀ x, x = validRule a o h b p k d m w e t k' d' m' w' e' t' → K [.imm (.bool x)] := fun x hx => by rw [hx]; exact hK
  unfold validRule at fin
  refine ⟨ha, brn_intro (fun h1 => fin _ ?_) (fun h1 => brn_intro (fun h2 => fin _ ?_) (fun h2 => ⟨hb, fin _ ?_⟩))⟩
  · simp only [Bool.or_eq_true, Bool.not_eq_true'] at h1
    rcases h1 with h1 | h1 <;> simp [h1]
  · simp only [Bool.or_eq_false_iff, Bool.not_eq_false'] at h1
    simp only [Bool.not_eq_true'] at h2
    rw [h1.1, h1.2, h2]
    simp [Bool.and_assoc]
  · simp only [Bool.or_eq_false_iff, Bool.not_eq_false'] at h1
    simp only [Bool.not_eq_false'] at h2
    rw [h1.1, h1.2, h2]
    simp
theorem ok18 : ∀ args pres res, sExt args = some (pres, res) → SpecOK Tryd.prog P8.G8 42 args pres res := by
  intro args pres res h
  unfold sExt at h
  split at h
  case h_2 => cases h
  cases h
  exact mk okR0 Tryd.func42 (by kernel_rfl) (by kernel_rfl) (fun _ K hK => by rw [show cx R0 = Q0 from rfl]; refine Eq.mpr (f18_in ..) ?_; exact hK)
theorem u8s {s : List UInt8} {i : Nat} {c : UInt8} : ((((s.getD i 0).toNat : Int) == (c.toNat : Int)) = true) ↔ s.getD i 0 = c := by
  rw [beq_iff_eq]
  constructor
  · intro h; exact UInt8.toNat_inj.1 (by omega)
  · intro h; rw [h]
theorem refnum_n (s : List UInt8) (i : Nat) (hi : i ≤ s.length) : ∃ n : Nat, (refnum s i).2 = (n : Int) ∧ i ≤ n ∧ n ≤ s.length := by
  obtain ⟨v, n, e1, e2, h3, _, _⟩ := number_n (s.drop i)
  rw [List.length_drop] at h3
  unfold refnum
  split
  · exact ⟨i + n, by show (i : Int) + (number (s.drop i)).2.1 = _; rw [e2]; omega, by omega, by omega⟩
  · exact ⟨i, rfl, Nat.le_refl _, hi⟩
theorem refnum_ok {s : List UInt8} {i : Nat} : decide ((refnum s i).1 ≥ 0) = (number (s.drop i)).2.2 := by
  obtain ⟨v, n, e1, e2, h3, _, _⟩ := number_n (s.drop i)
  unfold refnum
  cases h : (number (s.drop i)).2.2 with
  | true => rw [if_pos rfl]; simp only [decide_eq_true_eq]; omega
  | false => rw [if_neg (by simp)]; first | done | rfl
theorem tail45 (s : List UInt8) (k d m w e v : Int) (nn : Nat) (ok : Bool) (hok : decide (v ≥ 0) = ok) (hn : nn ≤ s.length) (hs : (s.length : Int) ≤ 4000000000000000000)
    (hx : ok = true → date s = ⟨k, d, m, w, e, nn, true⟩) (hx' : ok = false → (date s).ok = false) (K : List AV → Prop)
    (hK : K [dayAV (day s).k (day s).d (day s).m (day s).w (day s).e (day s).t, i64 (day s).n, bo (day s).ok]) :
    ((decide (v ≥ 0) && decide ((nn : Int) < (s.length : Int))) = true → (0 : Int) ≤ (nn : Int)) ∧
    ((decide (v ≥ 0) && decide ((nn : Int) < (s.length : Int))) = true → (nn : Int) < (s.length : Int)) ∧
    brn (decide (v ≥ 0) && decide ((nn : Int) < (s.length : Int)) && ((s.getD (Int.toNat (nn : Int)) 0).toNat : Int) == (47 : Int))
      ((0 : Int) ≤ IntKind.wrap .i64 ((nn : Int) + 1) ∧ IntKind.wrap .i64 ((nn : Int) + 1) ≤ (s.length : Int) ∧
        (((s.drop (IntKind.wrap .i64 ((nn : Int) + 1)).toNat).take (s.length - (IntKind.wrap .i64 ((nn : Int) + 1)).toNat)).length : Int) ≤ P8.big ∧
        brn (!(P8.parse ((s.drop (IntKind.wrap .i64 ((nn : Int) + 1)).toNat).take (s.length - (IntKind.wrap .i64 ((nn : Int) + 1)).toNat))).2.2 ||
            !validDay k d m w e (P8.parse ((s.drop (IntKind.wrap .i64 ((nn : Int) + 1)).toNat).take (s.length - (IntKind.wrap .i64 ((nn : Int) + 1)).toNat))).1)
          (K [dayAV 0 0 0 0 0 0, i64 0, bo false])
          (K [dayAV k d m w e (P8.parse ((s.drop (IntKind.wrap .i64 ((nn : Int) + 1)).toNat).take (s.length - (IntKind.wrap .i64 ((nn : Int) + 1)).toNat))).1,
            i64 (IntKind.wrap .i64 (IntKind.wrap .i64 ((nn : Int) + 1) + (P8.parse ((s.drop (IntKind.wrap .i64 ((nn : Int) + 1)).toNat).take (s.length - (IntKind.wrap .i64 ((nn : Int) + 1)).toNat))).2.1)), bo true]))
      (brn (!decide (v ≥ 0) || !validDay k d m w e 7200) (K [dayAV 0 0 0 0 0 0, i64 0, bo false]) (K [dayAV k d m w e 7200, i64 (nn : Int), bo true])) := by
  have hb8 : P8.big = 9223372036854775000 := rfl
  rw [hok]
  have w1 : IntKind.wrap .i64 ((nn : Int) + 1) = ((nn + 1 : Nat) : Int) := by rw [wrap64 (by omega) (by omega)]; first | done | rfl
  rw [w1]
  simp only [Int.toNat_natCast, P9.take_rest]
  refine ⟨fun _ => by omega, fun h => ?_, ?_⟩
  · rw [Bool.and_eq_true] at h; simpa using h.2
  cases ok with
  | false =>
    have hz : day s = noDy := by
      unfold day
      have hsl : slash s (date s) = false := by unfold slash; rw [hx' rfl]; first | done | rfl
      rw [if_neg (by rw [hsl]; simp)]
      unfold dayT
      rw [hx' rfl]
      first | done | rfl
    rw [hz] at hK
    refine brn_intro (fun h => ?_) (fun _ => brn_intro (fun _ => hK) (fun h => ?_))
    · simp at h
    · simp at h
  | true =>
    have hd := hx rfl
    refine brn_intro (fun h => ?_) (fun h => ?_)
    · simp only [Bool.true_and, Bool.and_eq_true, decide_eq_true_eq] at h
      have h47 : s.getD nn 0 = 47 := u8s.1 h.2
      have hsl : slash s (date s) = true := by
        unfold slash
        rw [hd]
        simp only [Bool.true_and, Bool.and_eq_true, decide_eq_true_eq, beq_iff_eq, Int.toNat_natCast]
        exact ⟨h.1, h47⟩
      unfold day at hK
      rw [if_pos hsl, hd] at hK
      simp only [Int.toNat_natCast] at hK
      obtain ⟨q, eq, hq⟩ := parse_n (s.drop (nn + 1))
      rw [List.length_drop] at hq
      have w2 : IntKind.wrap .i64 (((nn + 1 : Nat) : Int) + (P8.parse (s.drop (nn + 1))).2.1) = (nn : Int) + 1 + (P8.parse (s.drop (nn + 1))).2.1 := by rw [eq, wrap64 (by omega) (by omega)]; omega
      rw [w2]
      unfold dayT at hK
      refine ⟨by omega, by omega, by rw [List.length_drop]; omega, brn_intro (fun h1 => ?_) (fun h1 => ?_)⟩
      · rw [if_neg] at hK
        · exact hK
        · simp only [Bool.or_eq_true, Bool.not_eq_true'] at h1
          simp only [Bool.and_eq_true, not_and, Bool.not_eq_true]
          rcases h1 with h1 | h1
          · intro h2; rw [h1] at h2; cases h2
          · intro _; exact h1
      · rw [if_pos] at hK
        · exact hK
        · simp only [Bool.or_eq_false_iff, Bool.not_eq_false'] at h1
          rw [h1.1, h1.2]; first | done | rfl
    · have hsl : slash s (date s) = false := by
        cases hc : slash s (date s) with
        | false => rfl
        | true =>
          unfold slash at hc
          rw [hd] at hc
          simp only [Bool.true_and, Bool.and_eq_true, decide_eq_true_eq, beq_iff_eq, Int.toNat_natCast] at hc
          have : (true && decide ((nn : Int) < (s.length : Int)) && (((s.getD nn 0).toNat : Int) == (47 : Int))) = true := by
            simp only [Bool.true_and, Bool.and_eq_true, decide_eq_true_eq]
            exact ⟨hc.1, by rw [hc.2]; rfl⟩
          rw [this] at h; cases h
      unfold day at hK
      rw [if_neg (by rw [hsl]; simp), hd] at hK
      unfold dayT at hK
      refine brn_intro (fun h1 => ?_) (fun h1 => ?_)
      · rw [if_neg] at hK
        · exact hK
        · simp only [Bool.not_true, Bool.false_or, Bool.not_eq_true'] at h1
          rw [h1]; simp
      · rw [if_pos] at hK
        · exact hK
        · simp only [Bool.not_true, Bool.false_or, Bool.not_eq_false'] at h1
          rw [h1]; first | done | rfl
theorem day_noD {s : List UInt8} (h : (date s).ok = false) : day s = noDy := by
  unfold day
  have hsl : slash s (date s) = false := by unfold slash; rw [h]; first | done | rfl
  rw [if_neg (by rw [hsl]; simp)]
  unfold dayT
  rw [h]
  first | done | rfl
theorem after_not {s : List UInt8} {i : Nat} (h : ¬ (i < s.length ∧ s.getD i 0 = 46)) : after s i 46 = (0, 0, false) := by
  unfold after
  by_cases hl : i < s.length
  · rw [P8.getD_drop hl]
    simp only
    rw [if_neg (fun e => h ⟨hl, e⟩)]
  · rw [List.drop_eq_nil_of_le (by omega)]
theorem after_yes {s : List UInt8} {i : Nat} (h : i < s.length) (h2 : s.getD i 0 = 46) :
    after s i 46 = ((number (s.drop (i + 1))).1, ((i + 1 : Nat) : Int) + (number (s.drop (i + 1))).2.1, (number (s.drop (i + 1))).2.2) := by
  unfold after
  rw [P8.getD_drop h]
  simp only
  rw [if_pos h2]
theorem refnum_t {s : List UInt8} {i : Nat} (h : (number (s.drop i)).2.2 = true) : refnum s i = ((number (s.drop i)).1, (i : Int) + (number (s.drop i)).2.1) := if_pos h
theorem refnum_neg {s : List UInt8} {i : Nat} : decide ((refnum s i).1 < 0) = !(number (s.drop i)).2.2 := by
  have := refnum_ok (s := s) (i := i)
  cases h : (number (s.drop i)).2.2 with
  | true => rw [h] at this; simp only [decide_eq_true_eq] at this; simp; omega
  | false => rw [h] at this; simp only [decide_eq_false_iff_not] at this; simp; omega
theorem bad46 {s : List UInt8} {v : Int} {n : Nat} {ok : Bool} (hv : decide (v < 0) = !ok) : (decide (v < 0) || decide ((n : Int) ≥ (s.length : Int)) || (((s.getD (Int.toNat (n : Int)) 0).toNat : Int) != (46 : Int))) = !(ok && (decide (n < s.length) && decide (s.getD n 0 = 46))) := by
  rw [hv, Int.toNat_natCast]
  have e1 : decide ((n : Int) ≥ (s.length : Int)) = !decide (n < s.length) := by rw [Bool.eq_iff_iff]; simp
  have e2 : (((s.getD n 0).toNat : Int) != (46 : Int)) = !decide (s.getD n 0 = 46) := by
    rw [Bool.eq_iff_iff]
    simp only [bne_iff_ne, ne_eq, Bool.not_eq_true', decide_eq_false_iff_not]
    constructor
    · intro h e; exact h (by rw [e]; rfl)
    · intro h e; exact h (UInt8.toNat_inj.1 (by show _ = 46; omega))
  rw [e1, e2]
  cases ok <;> cases decide (n < s.length) <;> cases decide (s.getD n 0 = 46) <;> rfl
theorem f45_ev (s : List UInt8) (hs : (s.length : Int) ≤ 4000000000000000000) (K : List AV → Prop)
    (hK : K [dayAV (day s).k (day s).d (day s).m (day s).w (day s).e (day s).t, i64 (day s).n, bo (day s).ok]) : evSpec Q0 Tryd.f60 [st s] K := by
  refine Eq.mpr (f45_in s K _ rfl _ rfl _ rfl _ rfl _ rfl) ?_
  have T0 : Int.toNat (0 : Int) = 0 := rfl
  have T1 : Int.toNat (1 : Int) = 1 := rfl
  simp only [T0, T1]
  have dflt : (s = [] ∨ (s.getD 0 0 ≠ 74 ∧ s.getD 0 0 ≠ 77)) → ∀ n : Nat, (refnum s 0).2 = (n : Int) → ((number (s.drop 0)).2.2 = true → date s = ⟨2, (refnum s 0).1, 0, 0, 0, n, true⟩) ∧ ((number (s.drop 0)).2.2 = false → (date s).ok = false) := fun h n en => by
    refine ⟨fun hok => ?_, fun hok => ?_⟩
    · rw [refnum_t hok] at en ⊢
      rw [List.drop_zero] at hok en ⊢
      rcases h with rfl | ⟨h74, h77⟩
      · cases hok
      · cases s with
        | nil => cases hok
        | cons b r =>
          rw [date_cons, if_neg (by simpa using h74), if_neg (by simpa using h77)]
          simp only at en ⊢
          rw [hok]
          congr 1
          omega
    · rw [List.drop_zero] at hok
      rcases h with rfl | ⟨h74, h77⟩
      · rfl
      · cases s with
        | nil => rfl
        | cons b r =>
          rw [date_cons, if_neg (by simpa using h74), if_neg (by simpa using h77)]
          exact hok
  by_cases hne : s = []
  · refine ⟨fun _ => by omega, fun h => by simpa using h, brn_intro (fun h => ?_) (fun _ => ⟨fun _ => by omega, fun h => by simpa using h, brn_intro (fun h => ?_) (fun _ => ?_)⟩)⟩
    · subst hne; simp at h
    · subst hne; simp at h
    · obtain ⟨n, en, h1, h2⟩ := refnum_n s 0 (Nat.zero_le _)
      have dx := dflt (.inl hne) n en
      rw [en]
      exact ⟨by decide, by omega, by omega, tail45 s 2 _ 0 0 0 _ n _ refnum_ok h2 hs dx.1 dx.2 K hK⟩
  · obtain ⟨b, r, rfl⟩ : ∃ b r, s = b :: r := by
      cases s with
      | nil => exact absurd rfl hne
      | cons b r => exact ⟨b, r, rfl⟩
    have hl : ((b :: r).length : Int) = (r.length : Int) + 1 := by simp
    refine ⟨fun _ => by omega, fun h => by simpa using h, brn_intro (fun h => ?_) (fun h => ?_)⟩
    · rw [Bool.and_eq_true] at h
      have hb : b = 74 := u8s (s := b :: r) (i := 0) (c := 74) |>.1 h.2
      subst hb
      obtain ⟨n, en, h1, h2⟩ := refnum_n (74 :: r) 1 (by simp)
      rw [en]
      refine ⟨by decide, by omega, by omega, tail45 (74 :: r) 1 _ 0 0 0 _ n _ refnum_ok h2 hs (fun hok => ?_) (fun hok => ?_) K hK⟩
      · have e1 : (74 :: r : List UInt8).drop 1 = r := rfl
        rw [refnum_t hok] at en ⊢
        rw [e1] at en hok ⊢
        simp only at en ⊢
        rw [date_cons, if_pos rfl, hok]
        congr 1
        omega
      · exact hok
    · have hb74 : b ≠ 74 := fun e => by
        subst e
        simp at h
      refine ⟨fun _ => by omega, fun h => by simpa using h, brn_intro (fun h => ?_) (fun h => ?_)⟩
      · rw [Bool.and_eq_true] at h
        have hb : b = 77 := u8s (s := b :: r) (i := 0) (c := 77) |>.1 h.2
        subst hb
        have hdate : date (77 :: r) = dateM (77 :: r) := rfl
        obtain ⟨n, en, h1, h2⟩ := refnum_n (77 :: r) 1 (by simp)
        have w1 : IntKind.wrap .i64 ((n : Int) + 1) = ((n + 1 : Nat) : Int) := by rw [wrap64 (by omega) (by omega)]; first | done | rfl
        simp only [en, w1, Int.toNat_natCast (n + 1)]
        refine ⟨by decide, by omega, by omega, fun _ => by omega, fun h => ?_, ?_⟩
        · simp only [Bool.or_eq_false_iff, decide_eq_false_iff_not] at h; omega
        rw [bad46 refnum_neg]
        refine brn_intro (fun h3 => ?_) (fun h3 => ?_)
        · have : (date (77 :: r)).ok = false := by
            rw [hdate]
            unfold dateM
            cases hok : (number ((77 :: r : List UInt8).drop 1)).2.2 with
            | false => rfl
            | true =>
              rw [hok] at h3
              rw [refnum_t hok] at en
              simp only at en
              rw [if_pos rfl]
              have en' : (number ((77 :: r : List UInt8).drop 1)).2.1.toNat + 1 = n := by omega
              rw [en', after_not (fun hh => by
                have e1 : decide (n < (77 :: r : List UInt8).length) = true := by simpa using hh.1
                have e2 : decide ((77 :: r : List UInt8).getD n 0 = 46) = true := by rw [decide_eq_true_eq]; exact hh.2
                rw [e1, e2] at h3
                cases h3)]
              rfl
          rw [day_noD this] at hK
          exact hK
        · simp only [Bool.not_eq_false', Bool.and_eq_true, decide_eq_true_eq] at h3
          obtain ⟨hok, hlt, h46⟩ := h3
          obtain ⟨n2, en2, g1, g2⟩ := refnum_n (77 :: r) (n + 1) (by omega)
          have w2 : IntKind.wrap .i64 ((n2 : Int) + 1) = ((n2 + 1 : Nat) : Int) := by rw [wrap64 (by omega) (by omega)]; first | done | rfl
          simp only [en2, w2, Int.toNat_natCast (n2 + 1)]
          have en' : (number ((77 :: r : List UInt8).drop 1)).2.1.toNat + 1 = n := by
            rw [refnum_t hok] at en
            simp only at en
            omega
          have hd1 : dateM (77 :: r) = if (number ((77 :: r : List UInt8).drop (n + 1))).2.2 then (⟨3, 0, (number ((77 :: r : List UInt8).drop 1)).1, (number ((77 :: r : List UInt8).drop (n + 1))).1, (after (77 :: r) (((n + 1 : Nat) : Int) + (number ((77 :: r : List UInt8).drop (n + 1))).2.1).toNat 46).1,
              (after (77 :: r) (((n + 1 : Nat) : Int) + (number ((77 :: r : List UInt8).drop (n + 1))).2.1).toNat 46).2.1, (after (77 :: r) (((n + 1 : Nat) : Int) + (number ((77 :: r : List UInt8).drop (n + 1))).2.1).toNat 46).2.2⟩ : D) else noD := by
            unfold dateM
            rw [if_pos hok, en', after_yes hlt h46]
          refine ⟨by omega, by omega, by omega, fun _ => by omega, fun h => ?_, ?_⟩
          · simp only [Bool.or_eq_false_iff, decide_eq_false_iff_not] at h; omega
          rw [bad46 refnum_neg]
          refine brn_intro (fun h4 => ?_) (fun h4 => ?_)
          · have : (date (77 :: r)).ok = false := by
              rw [hdate, hd1]
              cases hok2 : (number ((77 :: r : List UInt8).drop (n + 1))).2.2 with
              | false => rfl
              | true =>
                rw [hok2] at h4
                rw [refnum_t hok2] at en2
                simp only at en2
                rw [if_pos rfl]
                have en2' : (((n + 1 : Nat) : Int) + (number ((77 :: r : List UInt8).drop (n + 1))).2.1).toNat = n2 := by omega
                rw [en2', after_not (fun hh => by
                  have e1 : decide (n2 < (77 :: r : List UInt8).length) = true := by simpa using hh.1
                  have e2 : decide ((77 :: r : List UInt8).getD n2 0 = 46) = true := by rw [decide_eq_true_eq]; exact hh.2
                  rw [e1, e2] at h4
                  cases h4)]
            rw [day_noD this] at hK
            exact hK
          · simp only [Bool.not_eq_false', Bool.and_eq_true, decide_eq_true_eq] at h4
            obtain ⟨hok2, hlt2, h462⟩ := h4
            obtain ⟨n3, en3, q1, q2⟩ := refnum_n (77 :: r) (n2 + 1) (by omega)
            have en2' : (((n + 1 : Nat) : Int) + (number ((77 :: r : List UInt8).drop (n + 1))).2.1).toNat = n2 := by
              rw [refnum_t hok2] at en2
              simp only at en2
              omega
            rw [if_pos hok2, en2', after_yes hlt2 h462] at hd1
            rw [en3]
            refine ⟨by omega, by omega, by omega, tail45 (77 :: r) 3 0 _ _ _ _ n3 _ refnum_ok q2 hs (fun hok3 => ?_) (fun hok3 => ?_) K hK⟩
            · rw [hdate, hd1]
              rw [refnum_t hok, refnum_t hok2]
              rw [refnum_t hok3] at en3 ⊢
              simp only at en3 ⊢
              rw [hok3]
              congr 1
            · rw [hdate, hd1]
              exact hok3
      · have hb77 : b ≠ 77 := fun e => by
          subst e
          simp at h
        obtain ⟨n, en, h1, h2⟩ := refnum_n (b :: r) 0 (Nat.zero_le _)
        have dx := dflt (.inr ⟨hb74, hb77⟩) n en
        rw [en]
        exact ⟨by decide, by omega, by omega, tail45 (b :: r) 2 _ 0 0 0 _ n _ refnum_ok h2 hs dx.1 dx.2 K hK⟩
theorem ok45 : ∀ args pres res, sDayR args = some (pres, res) → SpecOK Tryd.prog P8.G8 60 args pres res := by
  intro args pres res h
  unfold sDayR at h
  split at h
  case h_2 => cases h
  cases h
  rename_i s
  exact mk okR0 Tryd.func60 (by kernel_rfl) (by kernel_rfl) (fun hp K hK => f45_ev s (hp _ (List.mem_cons_self ..)) K hK)
theorem okR1 : EOK Tryd.prog R1 P8.G8 := addE_ok (addE_ok okR0 ok45) ok14
theorem f21_a (s : List UInt8) (N : St → Prop) (K : List AV → Prop) (P1 : List UInt8 × Int × Bool) (hP1 : P1 = P7.parse s) (P2 : Int × Int × Bool) (hP2 : P2 = P8.parse (List.take (s.length - (Prod.snd P1).1.toNat) (List.drop (Prod.snd P1).1.toNat s))) : evCode QU a21 (e21 s) (kN N (finK QU Tryd.f41 K)) = (s.length ≤ 9223372036854775800 ∧ brn (!(Prod.snd P1).2) (K [.agg (R17 (Ru.a zR) 0 false (Ru.b zR) 0 0 0 0 0 0 0 0 0 0 0 0 0), i64 14, i64 0]) ((0 : Int) ≤ (Prod.snd P1).1 ∧ (Prod.snd P1).1 ≤ (s.length : Int) ∧ (↑(List.take (s.length - (Prod.snd P1).1.toNat) (List.drop (Prod.snd P1).1.toNat s)).length : Int) ≤ P8.big ∧ brn (!(Prod.snd P2).2 || !side (Prod.fst P2)) (K [.agg (R17 (Ru.a zR) 0 false (Ru.b zR) 0 0 0 0 0 0 0 0 0 0 0 0 0), i64 14, i64 (Prod.snd P1).1]) (brn (IntKind.wrap .i64 ((Prod.snd P1).1 + (Prod.snd P2).1) == (s.length : Int)) (K [.agg (R8 (Prod.fst P1) (IntKind.wrap .i64 ((0 : Int) - Prod.fst P2))), i64 0, i64 0]) (N (St.mk (lapp [st s, .dead, .ptr 0 0, i64 0, i64 0, .ptr 1 0, st (Prod.fst P1), i64 (Prod.snd P1).1, bo (Prod.snd P1).2, i64 (Prod.fst P2), i64 (Prod.snd P2).1, bo (Prod.snd P2).2, i64 (IntKind.wrap .i64 ((Prod.snd P1).1 + (Prod.snd P2).1))] (lapp (dN 5)
 (lapp [.tup [st (Prod.fst P1), i64 (Prod.snd P1).1, bo (Prod.snd P1).2], st s, .tup [st (Prod.fst P1), i64 (Prod.snd P1).1, bo (Prod.snd P1).2], st (Prod.fst P1), i64 (Prod.snd P1).1, bo (Prod.snd P1).2, bo (Prod.snd P1).2, bo (!(Prod.snd P1).2)] (lapp (dN 4) (lapp [.tup [i64 (Prod.fst P2), i64 (Prod.snd P2).1, bo (Prod.snd P2).2], st s, i64 (Prod.snd P1).1, st (List.take (s.length - (Prod.snd P1).1.toNat) (List.drop (Prod.snd P1).1.toNat s)), .tup [i64 (Prod.fst P2), i64 (Prod.snd P2).1, bo (Prod.snd P2).2], i64 (Prod.fst P2), i64 (Prod.snd P2).1, bo (Prod.snd P2).2, bo (Prod.snd P2).2, bo (!(Prod.snd P2).2), bo (!(Prod.snd P2).2), .opt [((40 : Nat), false)] (i64 (Prod.fst P2)), .opt [((40 : Nat), false)] (bo (side (Prod.fst P2))), .opt [((40 : Nat), false)] (bo (!side (Prod.fst P2))), bo (!(Prod.snd P2).2 || !side (Prod.fst P2))] (lapp (dN 5) (lapp [st (Prod.fst P1), .ptr 1 0, i64 (Prod.fst P2), i64 (IntKind.wrap .i64 ((0 : Int) - Prod.fst P2)), .ptr 1 1, i64 (Prod.snd P1).1, i64 (Prod.snd P2).1, i64 (IntKind.wrap .i64 ((Prod.snd P1).1 + (Prod.snd P2).1)), i64 (IntKind.wrap .i64 ((Prod.snd P1).1 + (Prod.snd P2).1)), st s, i64 (s.length : Int), bo (IntKind.wrap .i64 ((Prod.snd
 P1).1 + (Prod.snd P2).1) == (s.length : Int))] (dN 110)))))))) [(0, Ob.mk true 0 (AObj.cells (R8 [] 0))), (1, Ob.mk true 0 (AObj.cells (R8 (Prod.fst P1) (IntKind.wrap .i64 ((0 : Int) - Prod.fst P2)))))] (2 : Nat) []))))) := by subst hP2; subst hP1; kernel_rfl
theorem f21_b (s : List UInt8) (i : Int) (a : List UInt8) (o : Int) (T : Nat → AV) (N : St → Prop) (K : List AV → Prop) (P1 : List UInt8 × Int × Bool) (hP1 : P1 = P7.parse (List.take (s.length - i.toNat) (List.drop i.toNat s))) (w1 : Int) (hw1 : w1 = IntKind.wrap .i64 (i + (Prod.snd P1).1)) (P2 : Int × Int × Bool) (hP2 : P2 = P8.parse (List.take (s.length - Int.toNat w1) (List.drop (Int.toNat w1) s))) : evCode QU b21 (S21 s i (R8 a o) T) (kN N (finK QU Tryd.f41 K)) = ((0 : Int) ≤ i ∧ i ≤ (s.length : Int) ∧ (List.take (s.length - i.toNat) (List.drop i.toNat s)).length ≤ 9223372036854775800 ∧ brn (!(Prod.snd P1).2) (K [.agg (R17 (Ru.a zR) 0 false (Ru.b zR) 0 0 0 0 0 0 0 0 0 0 0 0 0), i64 14, i64 i]) ((0 : Int) ≤ IntKind.wrap .i64 (i + (Prod.snd P1).1) ∧ IntKind.wrap .i64 (i + (Prod.snd P1).1) ≤ (s.length : Int) ∧ (↑(List.take (s.length - Int.toNat w1) (List.drop (Int.toNat w1) s)).length : Int) ≤ P8.big ∧ brn (Prod.snd P2).2 (brn (!side (Prod.fst P2)) (K [.agg (R17 (Ru.a zR) 0 false (Ru.b zR) 0 0 0 0 0 0 0 0 0 0 0 0 0), i64 14, i64 w1]) (N (St.mk (lapp [st s, T 1, .ptr 0 0, i64 0, i64 0, .ptr 1 0, T 6, i64 (Prod.snd P1).1, bo (Prod.snd P1).2, i64 (Prod.fst P2), i64 (Prod.snd P2).1, bo
 (Prod.snd P2).2, i64 (IntKind.wrap .i64 (IntKind.wrap .i64 (i + (Prod.snd P1).1) + (Prod.snd P2).1)), st (Prod.fst P1)] (lapp (tlR T 14 63) (lapp [.tup [st (Prod.fst P1), i64 (Prod.snd P1).1, bo (Prod.snd P1).2], st s, i64 i, st (List.take (s.length - i.toNat) (List.drop i.toNat s)), .tup [st (Prod.fst P1), i64 (Prod.snd P1).1, bo (Prod.snd P1).2], st (Prod.fst P1), i64 (Prod.snd P1).1, bo (Prod.snd P1).2, bo (Prod.snd P1).2, bo (!(Prod.snd P1).2)] (lapp (tlR T 73 78) (lapp [i64 i, i64 (Prod.snd P1).1, i64 w1, .ptr 1 2, st (Prod.fst P1), .ptr 1 3, .ptr 1 1, i64 o, i64 (IntKind.wrap .i64 (o + 3600)), .ptr 1 4, .tup [i64 (Prod.fst P2), i64 (Prod.snd P2).1, bo (Prod.snd P2).2], st s, i64 w1, st (List.take (s.length - Int.toNat w1) (List.drop (Int.toNat w1) s)), .tup [i64 (Prod.fst P2), i64 (Prod.snd P2).1, bo (Prod.snd P2).2], i64 (Prod.fst P2), i64 (Prod.snd P2).1, bo (Prod.snd P2).2, bo (Prod.snd P2).2, i64 (Prod.fst P2), bo (side (Prod.fst P2)), bo (!side (Prod.fst P2))] (lapp (tlR T 100 105) (lapp [i64 (Prod.fst P2), i64 (IntKind.wrap .i64 ((0 : Int) - Prod.fst P2)), .ptr 1 4, i64 w1, i64 (Prod.snd P2).1, i64 (IntKind.wrap .i64 (IntKind.wrap .i64 (i + (Prod.snd P1).1) + (Prod.snd
 P2).1))] (tlR T 111 172)))))))) [(0, Ob.mk true 0 (AObj.cells (R8 [] 0))), (1, Ob.mk true 0 (AObj.cells (R17 a o true (Prod.fst P1) (IntKind.wrap .i64 ((0 : Int) - Prod.fst P2)) 0 0 0 0 0 0 0 0 0 0 0 0)))] (2 : Nat) []))) (N (St.mk (lapp [st s, T 1, .ptr 0 0, i64 0, i64 0, .ptr 1 0, T 6, i64 (Prod.snd P1).1, bo (Prod.snd P1).2, i64 (Prod.fst P2), i64 (Prod.snd P2).1, bo (Prod.snd P2).2, i64 w1, st (Prod.fst P1)] (lapp (tlR T 14 63) (lapp [.tup [st (Prod.fst P1), i64 (Prod.snd P1).1, bo (Prod.snd P1).2], st s, i64 i, st (List.take (s.length - i.toNat) (List.drop i.toNat s)), .tup [st (Prod.fst P1), i64 (Prod.snd P1).1, bo (Prod.snd P1).2], st (Prod.fst P1), i64 (Prod.snd P1).1, bo (Prod.snd P1).2, bo (Prod.snd P1).2, bo (!(Prod.snd P1).2)] (lapp (tlR T 73 78) (lapp [i64 i, i64 (Prod.snd P1).1, i64 w1, .ptr 1 2, st (Prod.fst P1), .ptr 1 3, .ptr 1 1, i64 o, i64 (IntKind.wrap .i64 (o + 3600)), .ptr 1 4, .tup [i64 (Prod.fst P2), i64 (Prod.snd P2).1, bo (Prod.snd P2).2], st s, i64 w1, st (List.take (s.length - Int.toNat w1) (List.drop (Int.toNat w1) s)), .tup [i64 (Prod.fst P2), i64 (Prod.snd P2).1, bo (Prod.snd P2).2], i64 (Prod.fst P2), i64 (Prod.snd P2).1, bo (Prod.snd P2).2, bo
 (Prod.snd P2).2] (tlR T 97 172)))))) [(0, Ob.mk true 0 (AObj.cells (R8 [] 0))), (1, Ob.mk true 0 (AObj.cells (R17 a o true (Prod.fst P1) (IntKind.wrap .i64 (o + 3600)) 0 0 0 0 0 0 0 0 0 0 0 0)))] (2 : Nat) [])))) := by subst hP2; subst hw1; subst hP1; kernel_rfl
theorem f21_c (s : List UInt8) (i : Int) (a : List UInt8) (o : Int) (b : List UInt8) (p : Int) (T : Nat → AV) (N : St → Prop) (K : List AV → Prop) (w1 : Int) (hw1 : w1 = IntKind.wrap .i64 (i + 1)) (D1 : Dy) (hD1 : D1 = day (List.take (s.length - Int.toNat w1) (List.drop (Int.toNat w1) s))) (a1 : Int) (ha1 : a1 = IntKind.wrap .i64 (i + 1) + Dy.n D1) (w3 : Int) (hw3 : w3 = IntKind.wrap .i64 (IntKind.wrap .i64 a1 + 1)) (D2 : Dy) (hD2 : D2 = day (List.take (s.length - Int.toNat w3) (List.drop (Int.toNat w3) s))) : evCode QU (q21 (18 : Nat)) (S21 s i (R17 a o true b p (0 : Int) (0 : Int) (0 : Int) (0 : Int) (0 : Int) (0 : Int) (0 : Int) (0 : Int) (0 : Int) (0 : Int) (0 : Int) (0 : Int)) T) (kN N (finK QU Tryd.f41 K)) = ((decide (i ≥ (s.length : Int)) = false → (0 : Int) ≤ i) ∧ (decide (i ≥ (s.length : Int)) = false → i < (s.length : Int)) ∧ brn (decide (i ≥ (s.length : Int)) || (↑(UInt8.toNat (List.getD s i.toNat (0 : UInt8))) : Int) != 44) (K [.agg (R17 (Ru.a zR) 0 false (Ru.b zR) 0 0 0 0 0 0 0 0 0 0 0 0 0), i64 14, i64 i]) ((0 : Int) ≤ IntKind.wrap .i64 (i + 1) ∧ IntKind.wrap .i64 (i + 1) ≤ (s.length : Int) ∧ (↑(List.take (s.length - Int.toNat w1) (List.drop (Int.toNat w1) s)).length :
 Int) ≤ 4000000000000000000 ∧ brn (!Dy.ok D1) (K [.agg (R17 (Ru.a zR) 0 false (Ru.b zR) 0 0 0 0 0 0 0 0 0 0 0 0 0), i64 14, i64 w1]) ((decide (IntKind.wrap .i64 a1 ≥ (s.length : Int)) = false → (0 : Int) ≤ IntKind.wrap .i64 a1) ∧ (decide (IntKind.wrap .i64 a1 ≥ (s.length : Int)) = false → IntKind.wrap .i64 a1 < (s.length : Int)) ∧ brn (decide (IntKind.wrap .i64 a1 ≥ (s.length : Int)) || (↑(UInt8.toNat (List.getD s (IntKind.wrap .i64 a1).toNat (0 : UInt8))) : Int) != 44) (K [.agg (R17 (Ru.a zR) 0 false (Ru.b zR) 0 0 0 0 0 0 0 0 0 0 0 0 0), i64 14, i64 (IntKind.wrap .i64 a1)]) ((0 : Int) ≤ IntKind.wrap .i64 (IntKind.wrap .i64 a1 + 1) ∧ IntKind.wrap .i64 (IntKind.wrap .i64 a1 + 1) ≤ (s.length : Int) ∧ (↑(List.take (s.length - Int.toNat w3) (List.drop (Int.toNat w3) s)).length : Int) ≤ 4000000000000000000 ∧ brn (!Dy.ok D2) (K [.agg (R17 (Ru.a zR) 0 false (Ru.b zR) 0 0 0 0 0 0 0 0 0 0 0 0 0), i64 14, i64 w3]) (N (St.mk (lapp [st s, clean1 (clean1 (T 1)), .ptr 0 0, i64 0, i64 0, .ptr 1 0] (lapp (tlC T 6 12) (lapp [i64 (IntKind.wrap .i64 (IntKind.wrap .i64 (IntKind.wrap .i64 a1 + 1) + Dy.n D2)), clean1 (clean1 (T (nat_lit 13))), i64 2, .ptr 3 0, i64 (Dy.n D2), bo (Dy.ok D2)] (lapp (tlC T 18
 111) (lapp [i64 2, bo false, i64 1, i64 2, i64 (IntKind.wrap .i64 a1), st s, i64 (s.length : Int), bo (decide (IntKind.wrap .i64 a1 ≥ (s.length : Int))), bo (decide (IntKind.wrap .i64 a1 ≥ (s.length : Int))), .opt [((119 : Nat), false)] (st s), .opt [((119 : Nat), false)] (i64 (IntKind.wrap .i64 a1)), .opt [((119 : Nat), false)] (.imm (.int .u8 (↑(UInt8.toNat (List.getD s (IntKind.wrap .i64 a1).toNat (0 : UInt8))) : Int))), .opt [((119 : Nat), false)] (bo ((↑(UInt8.toNat (List.getD s (IntKind.wrap .i64 a1).toNat (0 : UInt8))) : Int) != 44)), bo (decide (IntKind.wrap .i64 a1 ≥ (s.length : Int)) || (↑(UInt8.toNat (List.getD s (IntKind.wrap .i64 a1).toNat (0 : UInt8))) : Int) != 44)] (lapp (tlC T 125 130) (lapp [.tup [dayAV (Dy.k D2) (Dy.d D2) (Dy.m D2) (Dy.w D2) (Dy.e D2) (Dy.t D2), i64 (Dy.n D2), bo (Dy.ok D2)], st s, i64 (IntKind.wrap .i64 a1), i64 w3, st (List.take (s.length - Int.toNat w3) (List.drop (Int.toNat w3) s)), .tup [dayAV (Dy.k D2) (Dy.d D2) (Dy.m D2) (Dy.w D2) (Dy.e D2) (Dy.t D2), i64 (Dy.n D2), bo (Dy.ok D2)], dayAV (Dy.k D2) (Dy.d D2) (Dy.m D2) (Dy.w D2) (Dy.e D2) (Dy.t D2), i64 (Dy.n D2), bo (Dy.ok D2), bo (Dy.ok D2), bo (!Dy.ok D2)] (lapp (tlC T 141 147) (lapp [i64
 (IntKind.wrap .i64 a1), i64 w3, i64 (Dy.n D2), i64 (IntKind.wrap .i64 (IntKind.wrap .i64 (IntKind.wrap .i64 a1 + 1) + Dy.n D2)), i64 1, bo false, dayAV (Dy.k D1) (Dy.d D1) (Dy.m D1) (Dy.w D1) (Dy.e D1) (Dy.t D1), .ptr 1 5, dayAV (Dy.k D2) (Dy.d D2) (Dy.m D2) (Dy.w D2) (Dy.e D2) (Dy.t D2), .ptr 1 11] (tlC T 157 172)))))))))) [(0, Ob.mk true 0 (AObj.cells (R8 [] 0))), (1, Ob.mk true 0 (AObj.cells (R17 a o true b p (Dy.k D1) (Dy.d D1) (Dy.m D1) (Dy.w D1) (Dy.e D1) (Dy.t D1) (Dy.k D2) (Dy.d D2) (Dy.m D2) (Dy.w D2) (Dy.e D2) (Dy.t D2)))), (2, Ob.mk true 0 (AObj.cells [i64 (Dy.k D1), i64 (Dy.d D1), i64 (Dy.m D1), i64 (Dy.w D1), i64 (Dy.e D1), i64 (Dy.t D1)])), (3, Ob.mk true 0 (AObj.cells [i64 (Dy.k D2), i64 (Dy.d D2), i64 (Dy.m D2), i64 (Dy.w D2), i64 (Dy.e D2), i64 (Dy.t D2)]))] (4 : Nat) [])))))) := by subst hD2; subst hw3; subst ha1; subst hD1; subst hw1; kernel_rfl
theorem f21_d (s : List UInt8) (i : Int) (a : List UInt8) (o : Int) (h : Bool) (b : List UInt8) (p : Int) (k : Int) (d : Int) (m : Int) (w : Int) (e : Int) (t : Int) (k' : Int) (d' : Int) (m' : Int) (w' : Int) (e' : Int) (t' : Int) (X : List AV) (Y : List AV) (T : Nat → AV) (K : List AV → Prop) : evCode QU (c21 (lrepl (19 : Nat) Dir.r)) (S21e s i (R17 a o h b p k d m w e t k' d' m' w' e' t') X Y T) (finK QU Tryd.f41 K) = (((i != (s.length : Int)) = false → a.length ≤ 9223372036854775807) ∧ ((i != (s.length : Int)) = false → b.length ≤ 9223372036854775807) ∧ brn (i != (s.length : Int) || !validRule a o h b p k d m w e t k' d' m' w' e' t') (K [.agg (R17 (Ru.a zR) 0 false (Ru.b zR) 0 0 0 0 0 0 0 0 0 0 0 0 0), i64 14, i64 i]) (K [.agg (R17 a o h b p k d m w e t k' d' m' w' e' t'), i64 0, i64 0])) := by kernel_rfl
end PA
set_option maxRecDepth 100000
namespace PA
open Go Go.AE Go.Proofs P9
attribute [local irreducible] loopK evCode evSpec loopB norm finK c21 q21
def seqR : List Code → Code → Code
  | [], c => c
  | a :: l, c => .seq a (seqR l c)
theorem evCode_seq (C : Cx) (a b : Code) (st : St) (k : AX → St → Prop) : evCode C (.seq a b) st k = evCode C a st (kN (fun st => evCode C b st k) k) := by
  conv => lhs; unfold evCode
  congr 1
theorem evCode_cut (C : Cx) (q r : Code) : ∀ (l : List Code) (st : St) (k : AX → St → Prop), evCode C (seqR l (.seq q r)) st k = evCode C (seqR l q) st (kN (fun st => evCode C r st k) k)
  | [], st, k => evCode_seq C q r st k
  | a :: l, st, k => by
    show evCode C (.seq a (seqR l (.seq q r))) st k = evCode C (.seq a (seqR l q)) st _
    rw [evCode_seq, evCode_seq]
    congr 1
    funext x st
    cases x with
    | normal => exact evCode_cut C q r l st k
    | _ => rfl
theorem spec_code (C : Cx) (fn : Func) (args : List AV) (K : List AV → Prop) (c : Code) (h : fn.body = some c) : evSpec C fn args K = evCode C c (entry fn.ntmps args st0) (finK C fn K) := by
  unfold evSpec evFunc
  rw [h]
  show evCode C c _ _ = _
  congr 1
  funext x st
  unfold finK
  cases x <;> rfl
theorem cut21 (s : List UInt8) (K : List AV → Prop) : evSpec QU Tryd.f41 [st s] K = evCode QU a21 (e21 s) (kN (fun st => evCode QU (c21 (lrepl 10 .r)) st (finK QU Tryd.f41 K)) (finK QU Tryd.f41 K)) :=
  (spec_code QU Tryd.f41 [st s] K (seqR [q21 0, q21 1, q21 2, q21 3, q21 4, q21 5, q21 6, q21 7, q21 8] (.seq (q21 9) (c21 (lrepl 10 .r)))) (by kernel_rfl)).trans
    ((congrArg (fun S => evCode QU _ S _) (by kernel_rfl : entry Tryd.f41.ntmps [st s] st0 = e21 s)).trans ((evCode_cut QU (q21 9) (c21 (lrepl 10 .r)) [q21 0, q21 1, q21 2, q21 3, q21 4, q21 5, q21 6, q21 7, q21 8] (e21 s) _).trans (congrArg (fun c => evCode QU c (e21 s) _) (by kernel_rfl : seqR [q21 0, q21 1, q21 2, q21 3, q21 4, q21 5, q21 6, q21 7, q21 8] (q21 9) = a21))))
theorem cut21b (st : St) (K : AX → St → Prop) : evCode QU (c21 (lrepl 10 .r)) st K = evCode QU b21 st (kN (fun st => evCode QU (c21 (lrepl 18 .r)) st K) K) :=
  (congrArg (fun c => evCode QU c st K) (by kernel_rfl : c21 (lrepl 10 .r) = seqR [q21 10, q21 11, q21 12, q21 13, q21 14, q21 15, q21 16] (.seq (q21 17) (c21 (lrepl 18 .r))))).trans
    ((evCode_cut QU (q21 17) (c21 (lrepl 18 .r)) [q21 10, q21 11, q21 12, q21 13, q21 14, q21 15, q21 16] st K).trans (congrArg (fun c => evCode QU c st _) (by kernel_rfl : seqR [q21 10, q21 11, q21 12, q21 13, q21 14, q21 15, q21 16] (q21 17) = b21)))
theorem cut21c (st : St) (K : AX → St → Prop) : evCode QU (c21 (lrepl 18 .r)) st K = evCode QU (q21 18) st (kN (fun st => evCode QU (c21 (lrepl 19 .r)) st K) K) :=
  (congrArg (fun c => evCode QU c st K) (by kernel_rfl : c21 (lrepl 18 .r) = .seq (q21 18) (c21 (lrepl 19 .r)))).trans (evCode_seq QU (q21 18) (c21 (lrepl 19 .r)) st K)
theorem go21 {s : List UInt8} {i : Int} {R : List AV} {c : Code} {K : AX → St → Prop} {st' : St} (h : st' = S21 s i R (fun j => nth .dead st'.tmps j)) (H : ∀ T, evCode QU c (S21 s i R T) K) : evCode QU c st' K :=
  (congrArg (fun x => evCode QU c x K) h).mpr (H _)
theorem go21e {s : List UInt8} {i : Int} {R X Y : List AV} {c : Code} {K : AX → St → Prop} {st' : St} (h : st' = S21e s i R X Y (fun j => nth .dead st'.tmps j)) (H : ∀ T, evCode QU c (S21e s i R X Y T) K) : evCode QU c st' K :=
  (congrArg (fun x => evCode QU c x K) h).mpr (H _)
variable {s : List UInt8} {K : List AV → Prop}
theorem d21 (hs : (s.length : Int) ≤ 1000000000000000000) (i : Nat) (r : Ru) (ha : r.a.length ≤ s.length) (hb : r.b.length ≤ s.length) (hK : K (res9 (endP s r i))) (X Y : List AV) (T : Nat → AV) :
    evCode QU (c21 (lrepl 19 .r)) (S21e s i r.cells X Y T) (finK QU Tryd.f41 K) := by
  refine Eq.mpr (f21_d s i r.a r.o r.h r.b r.p r.S.k r.S.d r.S.m r.S.w r.S.e r.S.t r.E.k r.E.d r.E.m r.E.w r.E.e r.E.t X Y T K) ?_
  unfold endP validRu at hK
  refine ⟨fun _ => by omega, fun _ => by omega, brn_intro (fun h => ?_) (fun h => ?_)⟩
  · simp only [Bool.or_eq_true, bne_iff_ne, ne_eq, Bool.not_eq_true'] at h
    have hK' : K (res9 (.stop i)) := by
      by_cases h1 : i = s.length
      · rw [if_pos h1, if_neg] at hK
        · exact hK
        · rcases h with h | h
          · omega
          · rw [h]; simp
      · rw [if_neg h1] at hK; exact hK
    exact Eq.mp (by kernel_rfl) hK'
  · simp only [Bool.or_eq_false_iff, bne_eq_false_iff_eq, Bool.not_eq_false'] at h
    rw [if_pos (by omega), if_pos h.2] at hK
    exact Eq.mp (by kernel_rfl) hK
theorem bad44 {i : Nat} : (decide ((i : Int) ≥ (s.length : Int)) || (((s.getD (Int.toNat (i : Int)) 0).toNat : Int) != (44 : Int))) = !comma s i := by
  rw [comma_eq, Int.toNat_natCast]
  have e1 : decide ((i : Int) ≥ (s.length : Int)) = !decide (i < s.length) := by rw [Bool.eq_iff_iff]; simp
  have e2 : (((s.getD i 0).toNat : Int) != (44 : Int)) = !(s.getD i 0 == 44) := by
    rw [Bool.eq_iff_iff]
    simp only [bne_iff_ne, ne_eq, Bool.not_eq_true', beq_eq_false_iff_ne]
    constructor
    · intro h e; exact h (by rw [e]; rfl)
    · intro h e; exact h (UInt8.toNat_inj.1 (by show _ = 44; omega))
  rw [e1, e2]
  cases decide (i < s.length) <;> cases (s.getD i 0 == 44) <;> rfl
theorem c21_ev (hs : (s.length : Int) ≤ 1000000000000000000) (i : Nat) (hi : i ≤ s.length) (a : List UInt8) (o : Int) (b : List UInt8) (p : Int) (ha : a.length ≤ s.length) (hb : b.length ≤ s.length)
    (hK : K (res9 (commaQ s i fun i => dayQ s i fun S i => commaQ s i fun i => dayQ s i fun E i => endP s ⟨a, o, true, b, p, S, E⟩ i))) (T : Nat → AV) :
    evCode QU (c21 (lrepl 18 .r)) (S21 s i (R17 a o true b p 0 0 0 0 0 0 0 0 0 0 0 0) T) (finK QU Tryd.f41 K) := by
  rw [cut21c]
  refine Eq.mpr (f21_c s i a o b p T _ K _ rfl _ rfl _ rfl _ rfl _ rfl) ?_
  unfold commaQ dayQ at hK
  have w1 : IntKind.wrap .i64 ((i : Int) + 1) = ((i + 1 : Nat) : Int) := by rw [wrap64 (by omega) (by omega)]; first | done | rfl
  obtain ⟨n, en, hn⟩ := day_n (s.drop (i + 1))
  rw [List.length_drop] at hn
  rw [w1]
  simp only [Int.toNat_natCast (i + 1), P9.take_rest, en] at hK ⊢
  rw [bad44]
  refine ⟨fun _ => by omega, fun h => by simpa using h, brn_intro (fun h => ?_) (fun h => ?_)⟩
  · simp only [Bool.not_eq_true'] at h
    rw [h, if_neg (by simp)] at hK
    exact Eq.mp (by kernel_rfl) hK
  · simp only [Bool.not_eq_false'] at h
    have hlt := comma_lt h
    rw [h, if_pos rfl] at hK
    have w2 : IntKind.wrap .i64 (((i + 1 : Nat) : Int) + (n : Int)) = ((i + 1 + n : Nat) : Int) := by rw [wrap64 (by omega) (by omega)]; omega
    have w3 : IntKind.wrap .i64 (((i + 1 + n : Nat) : Int) + 1) = ((i + 1 + n + 1 : Nat) : Int) := by rw [wrap64 (by omega) (by omega)]; first | done | rfl
    obtain ⟨n2, en2, hn2⟩ := day_n (s.drop (i + 1 + n + 1))
    rw [List.length_drop] at hn2
    simp only [w2, w3, Int.toNat_natCast (i + 1 + n + 1), P9.take_rest, en2, Int.toNat_natCast n] at hK ⊢
    refine ⟨by omega, by omega, by rw [List.length_drop]; omega, brn_intro (fun h1 => ?_) (fun h1 => ?_)⟩
    · simp only [Bool.not_eq_true'] at h1
      rw [h1, if_neg (by simp)] at hK
      exact Eq.mp (by kernel_rfl) hK
    · simp only [Bool.not_eq_false'] at h1
      rw [h1, if_pos rfl] at hK
      rw [bad44]
      refine ⟨fun _ => by omega, fun h => by simpa using h, brn_intro (fun h2 => ?_) (fun h2 => ?_)⟩
      · simp only [Bool.not_eq_true'] at h2
        rw [h2, if_neg (by simp)] at hK
        exact Eq.mp (by kernel_rfl) hK
      · simp only [Bool.not_eq_false'] at h2
        have hlt2 := comma_lt h2
        rw [h2, if_pos rfl] at hK
        refine ⟨by omega, by omega, by rw [List.length_drop]; omega, brn_intro (fun h3 => ?_) (fun h3 => ?_)⟩
        · simp only [Bool.not_eq_true'] at h3
          rw [h3, if_neg (by simp)] at hK
          exact Eq.mp (by kernel_rfl) hK
        · simp only [Bool.not_eq_false'] at h3
          rw [h3, if_pos rfl] at hK
          have w4 : IntKind.wrap .i64 (((i + 1 + n + 1 : Nat) : Int) + (n2 : Int)) = ((i + 1 + n + 1 + n2 : Nat) : Int) := by rw [wrap64 (by omega) (by omega)]; omega
          simp only [w4, Int.toNat_natCast n2] at hK ⊢
          exact go21e (i := ((i + 1 + n + 1 + n2 : Nat) : Int)) (R := (⟨a, o, true, b, p, (day (s.drop (i + 1))).dv, (day (s.drop (i + 1 + n + 1))).dv⟩ : Ru).cells)
            (X := [i64 (day (s.drop (i + 1))).k, i64 (day (s.drop (i + 1))).d, i64 (day (s.drop (i + 1))).m, i64 (day (s.drop (i + 1))).w, i64 (day (s.drop (i + 1))).e, i64 (day (s.drop (i + 1))).t])
            (Y := [i64 (day (s.drop (i + 1 + n + 1))).k, i64 (day (s.drop (i + 1 + n + 1))).d, i64 (day (s.drop (i + 1 + n + 1))).m, i64 (day (s.drop (i + 1 + n + 1))).w, i64 (day (s.drop (i + 1 + n + 1))).e, i64 (day (s.drop (i + 1 + n + 1))).t])
            (by kernel_rfl) (fun T => d21 hs _ _ ha hb hK _ _ T)
theorem b21_ev (hs : (s.length : Int) ≤ 1000000000000000000) (i : Nat) (hi : i ≤ s.length) (a : List UInt8) (o : Int) (ho0 : -89999 ≤ o) (ho1 : o ≤ 89999) (ha : a.length ≤ s.length)
    (hK : K (res9 (dstQ s i a o (endP s)))) (T : Nat → AV) : evCode QU (c21 (lrepl 10 .r)) (S21 s i (R8 a o) T) (finK QU Tryd.f41 K) := by
  have hb8 : P8.big = 9223372036854775000 := rfl
  rw [cut21b]
  refine Eq.mpr (f21_b s i a o T _ K _ rfl _ rfl _ rfl) ?_
  unfold dstQ nameQ dstOffQ offQ at hK
  obtain ⟨n, en, hn, hl⟩ := parse7_n (s.drop i)
  rw [List.length_drop] at hn hl
  have w1 : IntKind.wrap .i64 ((i : Int) + (n : Int)) = ((i + n : Nat) : Int) := by rw [wrap64 (by omega) (by omega)]; first | done | rfl
  simp only [Int.toNat_natCast i, P9.take_rest, en, w1, Int.toNat_natCast (i + n), Int.toNat_natCast n] at hK ⊢
  refine ⟨by omega, by omega, by rw [List.length_drop]; omega, brn_intro (fun h => ?_) (fun h => ?_)⟩
  · simp only [Bool.not_eq_true'] at h
    rw [h, if_neg (by simp)] at hK
    exact Eq.mp (by kernel_rfl) hK
  · simp only [Bool.not_eq_false'] at h
    rw [h, if_pos rfl] at hK
    obtain ⟨m, em, hm⟩ := parse_n (s.drop (i + n))
    rw [List.length_drop] at hm
    have w2 : IntKind.wrap .i64 (((i + n : Nat) : Int) + (m : Int)) = ((i + n + m : Nat) : Int) := by rw [wrap64 (by omega) (by omega)]; first | done | rfl
    have w3 : IntKind.wrap .i64 (o + 3600) = o + 3600 := wrap64 (by omega) (by omega)
    simp only [em, w2, w3, Int.toNat_natCast m] at hK ⊢
    refine ⟨by omega, by omega, by rw [List.length_drop]; omega, brn_intro (fun h1 => ?_) (fun h1 => ?_)⟩
    · rw [h1, if_pos rfl] at hK
      refine brn_intro (fun h2 => ?_) (fun h2 => ?_)
      · simp only [Bool.not_eq_true'] at h2
        rw [h2, if_neg (by simp)] at hK
        exact Eq.mp (by kernel_rfl) hK
      · simp only [Bool.not_eq_false'] at h2
        obtain ⟨b0, b1⟩ := side_b h2
        rw [h2, if_pos (by rfl)] at hK
        have w4 : IntKind.wrap .i64 (0 - (P8.parse (s.drop (i + n))).1) = 0 - (P8.parse (s.drop (i + n))).1 := wrap64 (by omega) (by omega)
        simp only [w4]
        exact go21 (i := ((i + n + m : Nat) : Int)) (R := R17 a o true (P7.parse (s.drop i)).1 (0 - (P8.parse (s.drop (i + n))).1) 0 0 0 0 0 0 0 0 0 0 0 0) (by kernel_rfl)
          (fun T => c21_ev hs _ (by omega) a o _ _ ha (by omega) hK T)
    · rw [h1, if_neg (by simp)] at hK
      exact go21 (i := ((i + n : Nat) : Int)) (R := R17 a o true (P7.parse (s.drop i)).1 (o + 3600) 0 0 0 0 0 0 0 0 0 0 0 0) (by kernel_rfl)
          (fun T => c21_ev hs _ (by omega) a o _ _ ha (by omega) hK T)
theorem parse7_valid {s : List UInt8} (h : (P7.parse s).2.2 = true) : P7.valid (P7.parse s).1 = true := by
  have hP : ∀ s, (P7.parseP s).2.2 = true → P7.valid (P7.parseP s).1 = true := by
    intro s h
    unfold P7.parseP at h ⊢
    split at h
    · rename_i hv; rw [if_pos hv]; exact hv
    · cases h
  unfold P7.parse at h ⊢
  split at h
  · split at h
    · rename_i hb
      simp only [hb, if_true]
      unfold P7.parseQ at h ⊢
      split at h
      · rename_i hp
        rw [if_pos hp]
        split at h
        · rename_i hv; rw [if_pos hv]; exact hv
        · cases h
      · cases h
    · rename_i hb
      simp only [hb, if_false]
      exact hP _ h
  · exact hP _ h
theorem validRu_std {a : List UInt8} {o : Int} (ha : P7.valid a = true) (ho : side o = true) : validRu (stdR a o) = true := by
  unfold validRu validRule stdR
  simp only
  rw [ha, ho]
  first | done | rfl
theorem f21_ev (s : List UInt8) (hs : (s.length : Int) ≤ 1000000000000000000) (K : List AV → Prop) (hK : K (res9 (parse9 s))) : evSpec QU Tryd.f41 [st s] K := by
  have hb8 : P8.big = 9223372036854775000 := rfl
  rw [cut21]
  refine Eq.mpr (f21_a s _ K _ rfl _ rfl) ?_
  unfold parse9 nameQ offQ at hK
  rw [List.drop_zero] at hK
  obtain ⟨n, en, hn, hl⟩ := parse7_n s
  simp only [en, Int.toNat_natCast n, P9.take_rest, Nat.zero_add] at hK ⊢
  refine ⟨by omega, brn_intro (fun h => ?_) (fun h => ?_)⟩
  · simp only [Bool.not_eq_true'] at h
    rw [h, if_neg (by simp)] at hK
    exact Eq.mp (by kernel_rfl) hK
  · simp only [Bool.not_eq_false'] at h
    rw [h, if_pos rfl] at hK
    have hv := parse7_valid h
    obtain ⟨m, em, hm⟩ := parse_n (s.drop n)
    rw [List.length_drop] at hm
    have w2 : IntKind.wrap .i64 ((n : Int) + (m : Int)) = ((n + m : Nat) : Int) := by rw [wrap64 (by omega) (by omega)]; first | done | rfl
    simp only [em, w2, Int.toNat_natCast m] at hK ⊢
    refine ⟨by omega, by omega, by rw [List.length_drop]; omega, brn_intro (fun h1 => ?_) (fun h1 => ?_)⟩
    · have : ((P8.parse (s.drop n)).2.2 && side (P8.parse (s.drop n)).1) = false := by
        simp only [Bool.or_eq_true, Bool.not_eq_true'] at h1
        rcases h1 with h1 | h1 <;> simp [h1]
      rw [if_neg (by rw [this]; simp)] at hK
      exact Eq.mp (by kernel_rfl) hK
    · simp only [Bool.or_eq_false_iff, Bool.not_eq_false'] at h1
      obtain ⟨b0, b1⟩ := side_b h1.2
      rw [h1.1, h1.2, if_pos (by rfl)] at hK
      have w4 : IntKind.wrap .i64 (0 - (P8.parse (s.drop n)).1) = 0 - (P8.parse (s.drop n)).1 := wrap64 (by omega) (by omega)
      simp only [w4]
      refine brn_intro (fun h2 => ?_) (fun h2 => ?_)
      · have e : n + m = s.length := by
          simp only [beq_iff_eq] at h2; omega
        rw [if_neg (by omega)] at hK
        unfold endP at hK
        rw [if_pos e, validRu_std hv (by unfold side; simp only [Bool.and_eq_true, decide_eq_true_eq]; omega)] at hK
        exact Eq.mp (by kernel_rfl) hK
      · have e : n + m < s.length := by
          simp only [beq_eq_false_iff_ne, ne_eq] at h2; omega
        rw [if_pos e] at hK
        exact go21 (i := ((n + m : Nat) : Int)) (R := R8 (P7.parse s).1 (0 - (P8.parse (s.drop n)).1)) (by kernel_rfl)
          (fun T => b21_ev hs _ (by omega) _ _ (by omega) (by omega) (by omega) hK T)
theorem ok21 : ∀ args pres res, sParseP args = some (pres, res) → SpecOK Tryd.prog P8.G8 41 args pres res := by
  intro args pres res h
  unfold sParseP at h
  split at h
  case h_2 => cases h
  cases h
  rename_i s
  refine mku okR1 Tryd.func41 (by kernel_rfl) (by kernel_rfl) (fun hp K hK => ?_)
  have h1 := hp _ (List.mem_cons_self ..)
  exact f21_ev s h1 K (by rw [res9_eq]; exact hK)
end PA
set_option maxRecDepth 100000
namespace PA
open Go Go.AE Go.Proofs P9
attribute [local irreducible] loopK evCode evSpec loopB norm
theorem rule_parts {a : List UInt8} {o : Int} {h : Bool} {b : List UInt8} {p k d m w e t k' d' m' w' e' t' : Int} (hv : validRule a o h b p k d m w e t k' d' m' w' e' t' = true) :
    P7.valid a = true ∧ -89999 ≤ o ∧ o ≤ 89999 ∧ (h = true → P7.valid b = true ∧ -89999 ≤ p ∧ p ≤ 89999 ∧ validDay k d m w e t = true ∧ validDay k' d' m' w' e' t' = true) ∧
      (h = false → b = [] ∧ p = 0 ∧ k = 0 ∧ d = 0 ∧ m = 0 ∧ w = 0 ∧ e = 0 ∧ t = 0 ∧ k' = 0 ∧ d' = 0 ∧ m' = 0 ∧ w' = 0 ∧ e' = 0 ∧ t' = 0) := by
  unfold validRule at hv
  simp only [Bool.and_eq_true] at hv
  obtain ⟨⟨ha, ho⟩, hr⟩ := hv
  obtain ⟨o0, o1⟩ := side_b ho
  refine ⟨ha, o0, o1, fun hh => ?_, fun hh => ?_⟩
  · rw [if_pos hh] at hr
    simp only [Bool.and_eq_true] at hr
    obtain ⟨⟨⟨hb, hp⟩, hs⟩, he⟩ := hr
    obtain ⟨p0, p1⟩ := side_b hp
    exact ⟨hb, p0, p1, hs, he⟩
  · rw [hh] at hr
    simpa [Bool.and_eq_true, decide_eq_true_eq, and_assoc] using hr
theorem okR2 : EOK Tryd.prog R2 P8.G8 := addE_ok (addE_ok okR1 ok21) ok18
theorem okP_rule {s : List UInt8} (h : okP s = true) : parse9 s = .rule (ruP s) ∧ validRu (ruP s) = true := by
  unfold okP whyP whyOf at h
  unfold ruP ruOf
  cases hp : parse9 s with
  | stop j => rw [hp] at h; cases h
  | rule r => exact ⟨rfl, parse9_valid hp⟩
theorem ok17 : ∀ args pres res, sExt args = some (pres, res) → SpecOK Tryd.prog P8.G8 16 args pres res := by
  intro args pres res h
  unfold sExt at h
  split at h
  case h_2 => cases h
  cases h
  rename_i a o h b p k d m w e t k' d' m' w' e' t'
  refine mku okR0 Tryd.func16 (by kernel_rfl) (by kernel_rfl) (fun hp K hK => ?_)
  refine Eq.mpr (f17_in a o h b p k d m w e t k' d' m' w' e' t' K) ?_
  have fin : ∀ x, x = (h && (late t || late t')) → K [.imm (.bool x)] := fun x hx => by rw [hx]; exact hK
  refine ⟨by decide, (by decide : (0 : Int) < 2), rfl, brn_intro (fun h1 => fin _ ?_) (fun h1 => ⟨by decide, (by decide : IntKind.wrap .i64 (0 + 1) < 2), rfl, brn_intro (fun h2 => fin _ ?_) (fun h2 => fin _ ?_)⟩)⟩
  · have h1' : late t = true := h1
    rw [h1']; simp
  · have h1' : late t = false := h1
    have h2' : late t' = true := h2
    rw [h1', h2']; simp
  · have h1' : late t = false := h1
    have h2' : late t' = false := h2
    rw [h1', h2']; simp
end PA
namespace PA
open Go Go.AE Go.Proofs P9
noncomputable def R4 := addE R2 16 sExt
theorem okR4 : EOK Tryd.prog R4 P8.G8 := addE_ok okR2 ok17
end PA
namespace PE
open Go Go.AE Go.Proofs
def G16 : Nat → Option (List AV) := P8.G8
structure Ty where
  o : Int
  d : Bool
  g : Int
deriving DecidableEq
def cellsT (t : Ty) : List IV := [.int .i32 t.o, .bool t.d, .int .u8 t.g]
def tyOf (el : List IV) : Ty := ⟨ivInt (ivNth el 0), ivBool (ivNth el 1), ivInt (ivNth el 2)⟩
def tys (xs : List (List IV)) : List Ty := xs.map tyOf
def okTy (t : Ty) : Prop := -2147483648 ≤ t.o ∧ t.o ≤ 2147483647 ∧ 0 ≤ t.g ∧ t.g ≤ 255
def okT (xs : List (List IV)) : Prop := xs = (tys xs).map cellsT ∧ ∀ t ∈ tys xs, okTy t
def bo (b : Bool) : AV := .imm (.bool b)
def i64 (n : Int) : AV := .imm (.int .i64 n)
def st (s : List UInt8) : AV := .imm (.str s)
def slT (L : List Ty) : IV := .sl 3 (L.map cellsT)
def be : Nat → Nat → List UInt8
  | 0, _ => []
  | n + 1, v => be n (v / 256) ++ [UInt8.ofNat (v % 256)]
def sgnN (n : Nat) (v : Nat) : Int := if v < 2 ^ (8 * n - 1) then (v : Int) else (v : Int) - 2 ^ (8 * n)
def u64 (n : Int) : Nat := (n % 18446744073709551616).toNat
def enc1 (t : Ty) : List UInt8 := be 4 (u64 t.o) ++ [if t.d then 1 else 0, u8 t.g]
def enc : List Ty → List UInt8
  | [] => []
  | t :: r => enc1 t ++ enc r
def hold (t : Ty) (s : List UInt8) : Bool := t.o == 0 && !t.d && decide (s = [45, 48, 48])
def big : Int := 4611686018427387904
def sHalf : List AV → Option (List Prop × List AV)
  | [.imm (.int .i64 n)] => some ([1 ≤ n, n ≤ 8], [.imm (.int .u64 (2 ^ (8 * n.toNat - 1)))])
  | _ => none
def sSameB : List AV → Option (List Prop × List AV)
  | [.imm (.bytes a), .imm (.bytes b)] => some ([(a.length : Int) ≤ big, (b.length : Int) ≤ big], [bo (decide (a = b))])
  | _ => none
def sSameT : List AV → Option (List Prop × List AV)
  | [.imm (.sl 3 xs), .imm (.sl 3 ys)] => some ([okT xs, okT ys, (xs.length : Int) ≤ big, (ys.length : Int) ≤ big], [bo (decide (tys xs = tys ys))])
  | _ => none
noncomputable def E1 := addE (addE PA.R4 54 sHalf) 31 sSameB
noncomputable def E2 := E1
noncomputable def E3 := addE E2 32 sSameT
noncomputable def E4 := E3
noncomputable def cx (E : FuncId → List AV → Option (List Prop × List AV)) : Cx := ⟨Tryd.prog, E, noCall, G16, 0⟩
noncomputable def C0 : Cx := cx noE
noncomputable def C1 : Cx := cx E1
noncomputable def C2 : Cx := cx E2
noncomputable def C3 : Cx := cx E3
noncomputable def C4 : Cx := cx E4
def by' (b : List UInt8) : AV := .imm (.bytes b)
def u6 (n : Int) : AV := .imm (.int .u64 n)
def tl' (xs : List (List IV)) : AV := .imm (.sl 3 xs)
def ln (n : Nat) : AV := .imm (.int .i64 (n : Int))
def rowB (l : List UInt8) : List (Nat × Ob) := [(0, ⟨true, 0, .row (.bytes l)⟩)]
def rowT (L : List Ty) : List (Nat × Ob) := [(0, ⟨true, 0, .row (slT L)⟩)]
def h30 (n p : Int) (i : Nat) : St := ⟨spr [(0, i64 n), (3, u6 p), (4, ln i)] 0 13, [], 0, []⟩
def p30 : Plan := ⟨[], msk [0, 3, 4] 0 13, []⟩
def h11 (a b : List UInt8) (i : Nat) : St := ⟨spr [(0, by' a), (1, by' b), (5, ln i)] 0 26, [], 0, []⟩
def p11 : Plan := ⟨[], msk [0, 1, 5] 0 26, []⟩
def h10 (a b : List (List IV)) (i : Nat) : St := ⟨spr [(0, tl' a), (1, tl' b), (5, ln i)] 0 26, [], 0, []⟩
def h12 (xs : List (List IV)) (l : List UInt8) (i : Nat) : St := ⟨spr [(3, .row 0 0), (11, tl' xs), (12, ln xs.length), (13, ln i)] 0 33, rowB l, 1, []⟩
def h13 (xs : List (List IV)) (l : List UInt8) (i : Nat) : St := ⟨spr [(0, tl' xs), (3, .row 0 0), (4, ln i)] 0 36, rowB l, 1, []⟩
def h8 (b : List UInt8) (L : List Ty) (i : Nat) : St := ⟨spr [(0, by' b), (4, .row 0 0), (5, ln i)] 0 33, rowT L, 1, []⟩
end PE
namespace PF
open Go Go.AE Go.Proofs PE
structure Lp where
  a : Int
  c : Int
deriving DecidableEq
def cellsL (l : Lp) : List IV := [.int .i64 l.a, .int .i32 l.c]
def lpOf (el : List IV) : Lp := ⟨ivInt (ivNth el 0), ivInt (ivNth el 1)⟩
def lps (xs : List (List IV)) : List Lp := xs.map lpOf
def okLp (l : Lp) : Prop := -9223372036854775808 ≤ l.a ∧ l.a ≤ 9223372036854775807 ∧ -2147483648 ≤ l.c ∧ l.c ≤ 2147483647
def okL (xs : List (List IV)) : Prop := xs = (lps xs).map cellsL ∧ ∀ l ∈ lps xs, okLp l
def slL (L : List Lp) : IV := .sl 2 (L.map cellsL)
def u32 (n : Int) : AV := .imm (.int .u32 n)
def curAV (d : List UInt8) (p e a : Int) : AV := .agg [by' d, i64 p, i64 e, i64 a]
structure Cu where
  d : List UInt8
  p : Int
  e : Int
  a : Int
def Cu.av (c : Cu) : AV := curAV c.d c.p c.e c.a
structure Hd where
  v : Int
  iu : Int
  is : Int
  l : Int
  t : Int
  ty : Int
  c : Int
deriving DecidableEq
def hdAV (v iu is l t ty c : Int) : AV := .agg [i64 v, u32 iu, u32 is, u32 l, u32 t, u32 ty, u32 c]
def Hd.av (h : Hd) : AV := hdAV h.v h.iu h.is h.l h.t h.ty h.c
def blkAV (T : List Int) (I : List UInt8) (X : List (List IV)) (C : List UInt8) (L : List (List IV)) (S U : List Bool) : AV :=
  .agg [.imm (.ints .i64 T), by' I, .imm (.sl 3 X), by' C, .imm (.sl 2 L), .imm (.bools S), .imm (.bools U)]
def l0 (h : Hd) (s : Int) : Int := h.t * s
def l1 (h : Hd) : Int := h.t
def l2 (h : Hd) : Int := 6 * h.ty
def l3 (h : Hd) : Int := h.c
def l4 (h : Hd) (s : Int) : Int := h.l * (s + 4)
def l5 (h : Hd) : Int := h.is
def l6 (h : Hd) : Int := h.iu
def o1 (h : Hd) (s : Int) : Int := l0 h s
def o2 (h : Hd) (s : Int) : Int := o1 h s + l1 h
def o3 (h : Hd) (s : Int) : Int := o2 h s + l2 h
def o4 (h : Hd) (s : Int) : Int := o3 h s + l3 h
def o5 (h : Hd) (s : Int) : Int := o4 h s + l4 h s
def o6 (h : Hd) (s : Int) : Int := o5 h s + l5 h
def fewB (T : List Int) (I : List UInt8) (X : List (List IV)) (C : List UInt8) (L : List (List IV)) (S U : List Bool) : Bool :=
  decide (T.length ≤ 200) && decide (I.length ≤ 200) && decide (X.length ≤ 200) && decide (C.length ≤ 600) && decide (L.length ≤ 200) && decide (S.length ≤ 200) && decide (U.length ≤ 200)
def fitsP (v n : Int) : Bool := decide (n = 8) || (decide (-2147483648 ≤ v) && decide (v < 2147483648))
def fitP (T : List Int) (n : Int) : Bool := T.all fun v => fitsP v n
def sz48 (n : Int) : Prop := n = 4 ∨ n = 8
def blkS (k : List Int → List UInt8 → List (List IV) → List UInt8 → List (List IV) → List Bool → List Bool → List AV → Option (List Prop × List AV)) : List AV → Option (List Prop × List AV)
  | .agg [.imm (.ints .i64 T), .imm (.bytes I), .imm (.sl 3 X), .imm (.bytes C), .imm (.sl 2 L), .imm (.bools S), .imm (.bools U)] :: r => k T I X C L S U r
  | _ => none
def sFew : List AV → Option (List Prop × List AV) := blkS fun T I X C L S U r => match r with
  | [] => some ([], [bo (fewB T I X C L S U)])
  | _ => none
def big' : Int := 1000000000000
def sSameI : List AV → Option (List Prop × List AV)
  | [.imm (.ints .i64 a), .imm (.ints .i64 b)] => some ([(a.length : Int) ≤ big', (b.length : Int) ≤ big'], [bo (decide (a = b))])
  | _ => none
def sSameL : List AV → Option (List Prop × List AV)
  | [.imm (.sl 2 xs), .imm (.sl 2 ys)] => some ([okL xs, okL ys, (xs.length : Int) ≤ big', (ys.length : Int) ≤ big'], [bo (decide (lps xs = lps ys))])
  | _ => none
def sSameO : List AV → Option (List Prop × List AV)
  | [.imm (.bools a), .imm (.bools b)] => some ([(a.length : Int) ≤ big', (b.length : Int) ≤ big'], [bo (decide (a = b))])
  | _ => none
def sameK (T : List Int) (I : List UInt8) (X : List (List IV)) (C : List UInt8) (L : List (List IV)) (S U : List Bool) (T' : List Int) (I' : List UInt8) (X' : List (List IV)) (C' : List UInt8) (L' : List (List IV)) (S' U' : List Bool) : Bool :=
  decide (T = T') && (decide (I = I') && (decide (tys X = tys X') && (decide (C = C') && (decide (lps L = lps L') && (decide (S = S') && decide (U = U'))))))
def okB (T : List Int) (I : List UInt8) (X : List (List IV)) (C : List UInt8) (L : List (List IV)) (S U : List Bool) : Prop :=
  okT X ∧ okL L ∧ (T.length : Int) ≤ big' ∧ (I.length : Int) ≤ big' ∧ (X.length : Int) ≤ big' ∧ (C.length : Int) ≤ big' ∧ (L.length : Int) ≤ big' ∧ (S.length : Int) ≤ big' ∧ (U.length : Int) ≤ big'
def sEqual : List AV → Option (List Prop × List AV) := blkS fun T I X C L S U r => blkS (fun T' I' X' C' L' S' U' r => match r with
  | [] => some ([okB T I X C L S U, okB T' I' X' C' L' S' U'], [bo (sameK T I X C L S U T' I' X' C' L' S' U')])
  | _ => none) r
def sFits : List AV → Option (List Prop × List AV)
  | [.imm (.int .i64 v), .imm (.int .i64 n)] => some ([sz48 n], [bo (fitsP v n)])
  | _ => none
def sFit : List AV → Option (List Prop × List AV)
  | [.imm (.ints .i64 T), .imm (.int .i64 n)] => some ([sz48 n, (T.length : Int) ≤ big], [bo (fitP T n)])
  | _ => none
noncomputable def F1a := addE E4 20 sFew
noncomputable def F1b := F1a
noncomputable def F1c := addE (addE (addE F1b 30 sSameI) 33 sSameL) 34 sSameO
noncomputable def F1d := F1c
noncomputable def F1 := addE F1d 36 sFits
noncomputable def F2 := addE (addE F1 35 sFit) 19 sEqual
noncomputable def K0 : Cx := cx E4
noncomputable def K1 : Cx := cx F1
noncomputable def K2 : Cx := cx F2
def ii (l : List Int) : AV := .imm (.ints .i64 l)
def oo (l : List Bool) : AV := .imm (.bools l)
def ll (xs : List (List IV)) : AV := .imm (.sl 2 xs)
def rowI (l : List Int) : List (Nat × Ob) := [(0, ⟨true, 0, .row (.ints .i64 l)⟩)]
def rowO (l : List Bool) : List (Nat × Ob) := [(0, ⟨true, 0, .row (.bools l)⟩)]
def hA (x y : AV) (i : Nat) : St := ⟨spr [(0, x), (1, y), (5, ln i)] 0 26, [], 0, []⟩
def pA : Plan := ⟨[], msk [0, 1, 5] 0 26, []⟩
def hB (x y : AV) (n i : Nat) : St := ⟨spr [(0, x), (1, y), (12, ln n), (13, ln i)] 0 26, [], 0, []⟩
def h38 (b : List UInt8) (s : Int) (l : List Int) (i : Nat) : St := ⟨spr [(0, by' b), (1, i64 s), (5, .row 0 0), (6, ln i)] 0 36, rowI l, 1, []⟩
def h52 (T : List Int) (n : Int) (i : Nat) : St := ⟨spr [(0, ii T), (1, i64 n), (5, ln i)] 0 19, [], 0, []⟩
def p52 : Plan := ⟨[], msk [0, 1, 5] 0 19, []⟩
structure Bk where
  T : List Int
  I : List UInt8
  X : List Ty
  C : List UInt8
  L : List Lp
  S : List Bool
  U : List Bool
deriving DecidableEq
def Bk.av (b : Bk) : AV := blkAV b.T b.I (b.X.map cellsT) b.C (b.L.map cellsL) b.S b.U
def pt (d : List UInt8) (o n : Int) : List UInt8 := (d.drop o.toNat).take n.toNat
def b0 (d : List UInt8) (h : Hd) (s : Int) : List UInt8 := pt d 0 (l0 h s)
def b1 (d : List UInt8) (h : Hd) (s : Int) : List UInt8 := pt d (o1 h s) (l1 h)
def b2 (d : List UInt8) (h : Hd) (s : Int) : List UInt8 := pt d (o2 h s) (l2 h)
def b3 (d : List UInt8) (h : Hd) (s : Int) : List UInt8 := pt d (o3 h s) (l3 h)
def b4 (d : List UInt8) (h : Hd) (s : Int) : List UInt8 := pt d (o4 h s) (l4 h s)
def b5 (d : List UInt8) (h : Hd) (s : Int) : List UInt8 := pt d (o5 h s) (l5 h)
def b6 (d : List UInt8) (h : Hd) (s : Int) : List UInt8 := pt d (o6 h s) (l6 h)
def okE (T : List Int) (I : List UInt8) (X : List (List IV)) (C : List UInt8) (L : List (List IV)) (S U : List Bool) : Prop :=
  okT X ∧ okL L ∧ (T.length : Int) ≤ 1000000000 ∧ (I.length : Int) ≤ 1000000000 ∧ (X.length : Int) ≤ 1000000000 ∧ (C.length : Int) ≤ 1000000000 ∧ (L.length : Int) ≤ 1000000000 ∧ (S.length : Int) ≤ 1000000000 ∧ (U.length : Int) ≤ 1000000000
noncomputable def F3 := F2
noncomputable def F4 := F3
def sm (S : St) : Prop := some S = some S
end PF
set_option maxRecDepth 100000
namespace PE
open Go Go.AE Go.Proofs
attribute [local irreducible] loopK evCode evSpec loopB norm
theorem f30_in (n : Int) (K : List AV → Prop) : evSpec C0 Tryd.f54 [i64 n] K = (LoopI C0 (bodyOf Tryd.f54) 0 (St.mk (lapp [i64 n, .dead, .imm (.int IntKind.u64 (0 : Int)), .imm (.int IntKind.u64 (128 : Int)), i64 1] (dN 8)) [] 0 []) (finK C0 Tryd.f54 K)) := by kernel_rfl
theorem f11_in (a : List UInt8) (b : List UInt8) (K : List AV → Prop) : evSpec C0 Tryd.f31 [.imm (.bytes a), .imm (.bytes b)] K = (brn ((a.length : Int) != (b.length : Int)) (K [bo false]) (LoopI C0 (bodyOf Tryd.f31) 0 (St.mk (lapp [by' a, by' b, .dead, .dead, bo false, i64 0, by' a, i64 (a.length : Int), by' b, i64 (b.length : Int), bo ((a.length : Int) != (b.length : Int))] (dN 15)) [] 0 []) (finK C0 Tryd.f31 K))) := by kernel_rfl
theorem f10_in (xs : List (List IV)) (ys : List (List IV)) (K : List AV → Prop) : evSpec C0 Tryd.f32 [.imm (.sl 3 xs), .imm (.sl 3 ys)] K = (brn ((xs.length : Int) != (ys.length : Int)) (K [bo false]) (LoopI C0 (bodyOf Tryd.f32) 0 (St.mk (lapp [.imm (.sl 3 xs), .imm (.sl 3 ys), .dead, .dead, bo false, i64 0, .imm (.sl 3 xs), i64 (xs.length : Int), .imm (.sl 3 ys), i64 (ys.length : Int), bo ((xs.length : Int) != (ys.length : Int))] (dN 15)) [] 0 []) (finK C0 Tryd.f32 K))) := by kernel_rfl
theorem f30_lp (n : Int) (p : Int) (i : Nat) (k : AX → St → Prop) : evCode C0 (loopB (bodyOf Tryd.f54) 0) (h30 n p i) k = (brn (decide ((↑i : Int) < n)) (k AX.normal (St.mk [i64 n, .dead, .dead, .imm (.int IntKind.u64 (IntKind.wrap IntKind.u64 (p * 256))), i64 (IntKind.wrap .i64 ((↑i : Int) + 1)), i64 (↑i : Int), i64 n, bo (decide ((↑i : Int) < n)), i64 (↑i : Int), i64 (IntKind.wrap .i64 ((↑i : Int) + 1)), .imm (.int IntKind.u64 p), .imm (.int IntKind.u64 (IntKind.wrap IntKind.u64 (p * 256))), .dead] [] 0 [])) (k (AX.exit 0) (St.mk (lapp [i64 n, .dead, .dead, .imm (.int IntKind.u64 p), i64 (↑i : Int), i64 (↑i : Int), i64 n, bo (decide ((↑i : Int) < n))] (dN 5)) [] 0 []))) := by kernel_rfl
theorem f11_lp (a : List UInt8) (b : List UInt8) (i : Nat) (k : AX → St → Prop) : evCode C0 (loopB (bodyOf Tryd.f31) 0) (h11 a b i) k = (brn (decide ((↑i : Int) < (a.length : Int))) ((0 : Int) ≤ (↑i : Int) ∧ (↑i : Int) < (a.length : Int) ∧ (0 : Int) ≤ (↑i : Int) ∧ (↑i : Int) < (b.length : Int) ∧ brn ((↑(UInt8.toNat (List.getD a (↑i : Int).toNat (0 : UInt8))) : Int) != (↑(UInt8.toNat (List.getD b (↑i : Int).toNat (0 : UInt8))) : Int)) (k AX.ret (St.mk (lapp [by' a, by' b, .dead, .dead, bo false, i64 (↑i : Int)] (lapp (dN 5) [i64 (↑i : Int), by' a, i64 (a.length : Int), bo (decide ((↑i : Int) < (a.length : Int))), .dead, .dead, by' a, i64 (↑i : Int), AV.elv [IV.int .u8 (↑(UInt8.toNat (List.getD a (↑i : Int).toNat (0 : UInt8))) : Int)], .imm (.int .u8 (↑(UInt8.toNat (List.getD a (↑i : Int).toNat (0 : UInt8))) : Int)), by' b, i64 (↑i : Int), AV.elv [IV.int .u8 (↑(UInt8.toNat (List.getD b (↑i : Int).toNat (0 : UInt8))) : Int)], .imm (.int .u8 (↑(UInt8.toNat (List.getD b (↑i : Int).toNat (0 : UInt8))) : Int)), bo ((↑(UInt8.toNat (List.getD a (↑i : Int).toNat (0 : UInt8))) : Int) != (↑(UInt8.toNat (List.getD b (↑i : Int).toNat (0 : UInt8))) : Int))])) [] 0 [])) (k AX.normal (St.mk (lapp
 [by' a, by' b, .dead, .dead, .dead, i64 (IntKind.wrap .i64 ((↑i : Int) + 1))] (lapp (dN 5) [i64 (↑i : Int), by' a, i64 (a.length : Int), bo (decide ((↑i : Int) < (a.length : Int))), i64 (↑i : Int), i64 (IntKind.wrap .i64 ((↑i : Int) + 1)), by' a, i64 (↑i : Int), AV.elv [IV.int .u8 (↑(UInt8.toNat (List.getD a (↑i : Int).toNat (0 : UInt8))) : Int)], .imm (.int .u8 (↑(UInt8.toNat (List.getD a (↑i : Int).toNat (0 : UInt8))) : Int)), by' b, i64 (↑i : Int), AV.elv [IV.int .u8 (↑(UInt8.toNat (List.getD b (↑i : Int).toNat (0 : UInt8))) : Int)], .imm (.int .u8 (↑(UInt8.toNat (List.getD b (↑i : Int).toNat (0 : UInt8))) : Int)), bo ((↑(UInt8.toNat (List.getD a (↑i : Int).toNat (0 : UInt8))) : Int) != (↑(UInt8.toNat (List.getD b (↑i : Int).toNat (0 : UInt8))) : Int))])) [] 0 []))) (k (AX.exit 0) (St.mk (lapp [by' a, by' b, .dead, .dead, .dead, i64 (↑i : Int)] (lapp (dN 5) (lapp [i64 (↑i : Int), by' a, i64 (a.length : Int), bo (decide ((↑i : Int) < (a.length : Int)))] (dN 11)))) [] 0 []))) := by kernel_rfl
theorem f10_lp (a : List (List IV)) (b : List (List IV)) (i : Nat) (k : AX → St → Prop) : evCode C0 (loopB (bodyOf Tryd.f32) 0) (h10 a b i) k = (brn (decide ((↑i : Int) < (a.length : Int))) ((0 : Int) ≤ (↑i : Int) ∧ (↑i : Int) < (a.length : Int) ∧ kcells (List.getD a (↑i : Int).toNat []) 0 (lapp [CK.int IntKind.i32] (lapp [CK.bool] (lapp [CK.int IntKind.u8] []))) = List.getD a (↑i : Int).toNat [] ∧ (0 : Int) ≤ (↑i : Int) ∧ (↑i : Int) < (b.length : Int) ∧ kcells (List.getD b (↑i : Int).toNat []) 0 (lapp [CK.int IntKind.i32] (lapp [CK.bool] (lapp [CK.int IntKind.u8] []))) = List.getD b (↑i : Int).toNat [] ∧ brn (!(ivInt (ivNth (List.getD a (↑i : Int).toNat []) 0) == ivInt (ivNth (List.getD b (↑i : Int).toNat []) 0) && (ivBool (ivNth (List.getD a (↑i : Int).toNat []) (0 + 1)) == ivBool (ivNth (List.getD b (↑i : Int).toNat []) (0 + 1)) && (ivInt (ivNth (List.getD a (↑i : Int).toNat []) (0 + 1 + 1)) == ivInt (ivNth (List.getD b (↑i : Int).toNat []) (0 + 1 + 1)) && true)))) (k AX.ret (St.mk (lapp [.imm (.sl 3 a), .imm (.sl 3 b), .dead, .dead, bo false, i64 (↑i : Int)] (lapp (dN 5) [i64 (↑i : Int), .imm (.sl 3 a), i64 (a.length : Int), bo (decide ((↑i : Int) < (a.length : Int))), .dead,
 .dead, .imm (.sl 3 a), i64 (↑i : Int), AV.elv [IV.int IntKind.i32 (ivInt (ivNth (List.getD a (↑i : Int).toNat []) 0)), IV.bool (ivBool (ivNth (List.getD a (↑i : Int).toNat []) (0 + 1))), IV.int .u8 (ivInt (ivNth (List.getD a (↑i : Int).toNat []) (0 + 1 + 1)))], .agg [.imm (.int IntKind.i32 (ivInt (ivNth (List.getD a (↑i : Int).toNat []) 0))), bo (ivBool (ivNth (List.getD a (↑i : Int).toNat []) (0 + 1))), .imm (.int .u8 (ivInt (ivNth (List.getD a (↑i : Int).toNat []) (0 + 1 + 1))))], .imm (.sl 3 b), i64 (↑i : Int), AV.elv [IV.int IntKind.i32 (ivInt (ivNth (List.getD b (↑i : Int).toNat []) 0)), IV.bool (ivBool (ivNth (List.getD b (↑i : Int).toNat []) (0 + 1))), IV.int .u8 (ivInt (ivNth (List.getD b (↑i : Int).toNat []) (0 + 1 + 1)))], .agg [.imm (.int IntKind.i32 (ivInt (ivNth (List.getD b (↑i : Int).toNat []) 0))), bo (ivBool (ivNth (List.getD b (↑i : Int).toNat []) (0 + 1))), .imm (.int .u8 (ivInt (ivNth (List.getD b (↑i : Int).toNat []) (0 + 1 + 1))))], bo (!(ivInt (ivNth (List.getD a (↑i : Int).toNat []) 0) == ivInt (ivNth (List.getD b (↑i : Int).toNat []) 0) && (ivBool (ivNth (List.getD a (↑i : Int).toNat []) (0 + 1)) == ivBool (ivNth (List.getD b (↑i : Int).toNat []) (0 + 1)) &&
 (ivInt (ivNth (List.getD a (↑i : Int).toNat []) (0 + 1 + 1)) == ivInt (ivNth (List.getD b (↑i : Int).toNat []) (0 + 1 + 1)) && true))))])) [] 0 [])) (k AX.normal (St.mk (lapp [.imm (.sl 3 a), .imm (.sl 3 b), .dead, .dead, .dead, i64 (IntKind.wrap .i64 ((↑i : Int) + 1))] (lapp (dN 5) [i64 (↑i : Int), .imm (.sl 3 a), i64 (a.length : Int), bo (decide ((↑i : Int) < (a.length : Int))), i64 (↑i : Int), i64 (IntKind.wrap .i64 ((↑i : Int) + 1)), .imm (.sl 3 a), i64 (↑i : Int), AV.elv [IV.int IntKind.i32 (ivInt (ivNth (List.getD a (↑i : Int).toNat []) 0)), IV.bool (ivBool (ivNth (List.getD a (↑i : Int).toNat []) (0 + 1))), IV.int .u8 (ivInt (ivNth (List.getD a (↑i : Int).toNat []) (0 + 1 + 1)))], .agg [.imm (.int IntKind.i32 (ivInt (ivNth (List.getD a (↑i : Int).toNat []) 0))), bo (ivBool (ivNth (List.getD a (↑i : Int).toNat []) (0 + 1))), .imm (.int .u8 (ivInt (ivNth (List.getD a (↑i : Int).toNat []) (0 + 1 + 1))))], .imm (.sl 3 b), i64 (↑i : Int), AV.elv [IV.int IntKind.i32 (ivInt (ivNth (List.getD b (↑i : Int).toNat []) 0)), IV.bool (ivBool (ivNth (List.getD b (↑i : Int).toNat []) (0 + 1))), IV.int .u8 (ivInt (ivNth (List.getD b (↑i : Int).toNat []) (0 + 1 + 1)))], .agg [.imm (.int
 IntKind.i32 (ivInt (ivNth (List.getD b (↑i : Int).toNat []) 0))), bo (ivBool (ivNth (List.getD b (↑i : Int).toNat []) (0 + 1))), .imm (.int .u8 (ivInt (ivNth (List.getD b (↑i : Int).toNat []) (0 + 1 + 1))))], bo (!(ivInt (ivNth (List.getD a (↑i : Int).toNat []) 0) == ivInt (ivNth (List.getD b (↑i : Int).toNat []) 0) && (ivBool (ivNth (List.getD a (↑i : Int).toNat []) (0 + 1)) == ivBool (ivNth (List.getD b (↑i : Int).toNat []) (0 + 1)) && (ivInt (ivNth (List.getD a (↑i : Int).toNat []) (0 + 1 + 1)) == ivInt (ivNth (List.getD b (↑i : Int).toNat []) (0 + 1 + 1)) && true))))])) [] 0 []))) (k (AX.exit 0) (St.mk (lapp [.imm (.sl 3 a), .imm (.sl 3 b), .dead, .dead, .dead, i64 (↑i : Int)] (lapp (dN 5) (lapp [i64 (↑i : Int), .imm (.sl 3 a), i64 (a.length : Int), bo (decide ((↑i : Int) < (a.length : Int)))] (dN 11)))) [] 0 []))) := by kernel_rfl
theorem wrap64 {n : Int} (h1 : -9223372036854775808 ≤ n) (h2 : n ≤ 9223372036854775807) : IntKind.wrap .i64 n = n := by
  have := IntKind.wrap_i64 n
  rw [show IntKind.wrap .i64 n = IntKind.i64.wrap n from rfl, this]; omega
theorem wrapU {n : Int} (h1 : 0 ≤ n) (h2 : n < 18446744073709551616) : IntKind.wrap .u64 n = n := by
  simp [IntKind.wrap, IntKind.min, IntKind.max, IntKind.signed, IntKind.bits]
  omega
theorem wrapUm (n : Int) : IntKind.wrap .u64 n = n % 18446744073709551616 := by
  simp [IntKind.wrap, IntKind.min, IntKind.max, IntKind.signed, IntKind.bits]
theorem mk {E : FuncId → List AV → Option (List Prop × List AV)} (hE : EOK Tryd.prog E G16) {f : FuncId} {fn : Func} {args res : List AV} {pres : List Prop} (hf : Tryd.prog.funcs[f]? = some fn) (hn : (fn.name == "runtime.NumGoroutine") = false) (hb : fn.body.isNone = false)
    (h : (∀ p, p ∈ pres → p) → ∀ K : List AV → Prop, K res → evSpec (cx E) fn args K) : SpecOK Tryd.prog G16 f args pres res :=
  spec_ok (C := cx E) hE noCall_ok hf hn hb (fun hp => h hp _ rfl)
theorem ok0 : EOK Tryd.prog noE G16 := noE_ok
theorem f30_ev (n : Int) (n1 : 1 ≤ n) (n8 : n ≤ 8) (K : List AV → Prop) (hK : K [.imm (.int .u64 (2 ^ (8 * n.toNat - 1)))]) : evSpec C0 Tryd.f54 [i64 n] K := by
  rw [f30_in]
  unfold LoopI
  refine loop_rule (fun i : Nat => h30 n (2 ^ (8 * i - 1)) i) (fun i => 1 ≤ i ∧ (i : Int) ≤ n) (fun i => n.toNat - i) (fun i hP K' hnorm hexit => ?_) rfl 1 p30 _ ⟨Nat.le_refl _, n1⟩ (by kernel_rfl)
  rw [f30_lp]
  obtain ⟨hi1, hin⟩ := hP
  refine brn_intro (fun hi => ?_) (fun hi => ?_)
  · simp only [decide_eq_true_eq] at hi
    have e2 : IntKind.wrap .i64 ((i : Int) + 1) = ((i + 1 : Nat) : Int) := by rw [wrap64 (by omega) (by omega)]; first | done | rfl
    have ep : (2 : Int) ^ (8 * i - 1) * 256 = 2 ^ (8 * (i + 1) - 1) := by
      rw [show 8 * (i + 1) - 1 = (8 * i - 1) + 8 by omega, Int.pow_add]; first | done | rfl
    have hle : (2 : Int) ^ (8 * (i + 1) - 1) ≤ 2 ^ 63 := by
      have : (2 : Nat) ^ (8 * (i + 1) - 1) ≤ 2 ^ 63 := Nat.pow_le_pow_right (by decide) (by omega)
      exact_mod_cast this
    have h0 : (0 : Int) ≤ 2 ^ (8 * (i + 1) - 1) := Int.le_of_lt (Int.pow_pos (by decide))
    have e3 : IntKind.wrap .u64 ((2 : Int) ^ (8 * i - 1) * 256) = 2 ^ (8 * (i + 1) - 1) := by
      rw [ep, wrapU h0 (by have : (2 : Int) ^ 63 = 9223372036854775808 := rfl; omega)]
    simp only [e2, e3]
    exact hnorm (i + 1) p30 _ ⟨by omega, by omega⟩ (by omega) (by kernel_rfl)
  · simp only [decide_eq_false_iff_not] at hi
    have hin : i = n.toNat := by omega
    subst hin
    exact hexit _ _ (by simp) (Eq.mp (by kernel_rfl) hK)
def t0 : Ty := ⟨0, false, 0⟩
theorem getT {L : List Ty} {i : Nat} (h : i < L.length) : (L.map cellsT).getD i [] = cellsT (L.getD i t0) := by
  simp only [List.getD_eq_getElem?_getD, List.getElem?_map, List.getElem?_eq_getElem h]
  rfl
theorem kT (t : Ty) : kcells (cellsT t) 0 (lapp [CK.int .i32] (lapp [CK.bool] (lapp [CK.int .u8] []))) = cellsT t := rfl
theorem oT (t : Ty) : ivInt (ivNth (cellsT t) 0) = t.o := rfl
theorem dT (t : Ty) : ivBool (ivNth (cellsT t) (0 + 1)) = t.d := rfl
theorem gT (t : Ty) : ivInt (ivNth (cellsT t) (0 + 1 + 1)) = t.g := rfl
theorem okT_elim {xs : List (List IV)} (h : okT xs) : ∃ L : List Ty, xs = L.map cellsT ∧ tys xs = L ∧ ∀ t ∈ L, okTy t := ⟨tys xs, h.1, rfl, h.2⟩
theorem takeS {α : Type} {l : List α} {i : Nat} (d : α) (h : i < l.length) : l.take (i + 1) = l.take i ++ [l.getD i d] := by
  rw [List.take_add_one, List.getElem?_eq_getElem h, List.getD_eq_getElem?_getD, List.getElem?_eq_getElem h]
  first | done | rfl
theorem ne_of_at {α : Type} {a b : List α} {i : Nat} (d : α) (h : a.getD i d ≠ b.getD i d) : a ≠ b := fun e => h (by rw [e])
theorem memD {α : Type} {l : List α} {i : Nat} (d : α) (h : i < l.length) : l.getD i d ∈ l := by
  rw [List.getD_eq_getElem?_getD, List.getElem?_eq_getElem h]
  exact List.getElem_mem h
theorem f11_ev (a b : List UInt8) (ha : (a.length : Int) ≤ big) (hb : (b.length : Int) ≤ big) (K : List AV → Prop) (hK : K [bo (decide (a = b))]) : evSpec C0 Tryd.f31 [.imm (.bytes a), .imm (.bytes b)] K := by
  have hbig : big = 4611686018427387904 := rfl
  have no : a ≠ b → K [.imm (.bool false)] := fun h => by rw [decide_eq_false h] at hK; exact hK
  rw [f11_in]
  refine brn_intro (fun h => ?_) (fun h => ?_)
  · refine no (fun e => ?_)
    subst e
    simp at h
  · have hl : a.length = b.length := by simp at h; omega
    unfold LoopI
    refine loop_rule (fun i : Nat => h11 a b i) (fun i => i ≤ a.length ∧ a.take i = b.take i) (fun i => a.length - i) (fun i hP K' hnorm hexit => ?_) rfl 0 p11 _ ⟨Nat.zero_le _, by simp⟩ (by kernel_rfl)
    obtain ⟨hi, ht⟩ := hP
    rw [f11_lp]
    refine brn_intro (fun h1 => ?_) (fun h1 => ?_)
    · simp only [decide_eq_true_eq] at h1
      simp only [Int.toNat_natCast]
      refine ⟨by omega, by omega, by omega, by omega, brn_intro (fun h2 => ?_) (fun h2 => ?_)⟩
      · refine hexit _ _ (by simp) (Eq.mp (by kernel_rfl) (no (ne_of_at 0 (i := i) fun e => ?_)))
        rw [e] at h2
        simp at h2
      · have e2 : IntKind.wrap .i64 ((i : Int) + 1) = ((i + 1 : Nat) : Int) := by rw [wrap64 (by omega) (by omega)]; first | done | rfl
        have e3 : a.getD i 0 = b.getD i 0 := by
          simp only [bne_eq_false_iff_eq] at h2
          exact UInt8.toNat_inj.1 (by omega)
        simp only [e2]
        refine hnorm (i + 1) p11 _ ⟨by omega, ?_⟩ (by omega) (by kernel_rfl)
        rw [takeS 0 (by omega), takeS 0 (by omega), ht, e3]
    · simp only [decide_eq_false_iff_not] at h1
      have hil : i = a.length := by omega
      have e : a = b := by
        rw [hil, List.take_length, hl, List.take_length] at ht
        exact ht
      rw [decide_eq_true e] at hK
      exact hexit _ _ (by simp) (Eq.mp (by kernel_rfl) hK)
theorem f10_ev (L M : List Ty) (ha : (L.length : Int) ≤ big) (hb : (M.length : Int) ≤ big) (K : List AV → Prop) (hK : K [bo (decide (L = M))]) : evSpec C0 Tryd.f32 [.imm (slT L), .imm (slT M)] K := by
  have hbig : big = 4611686018427387904 := rfl
  have no : L ≠ M → K [.imm (.bool false)] := fun h => by rw [decide_eq_false h] at hK; exact hK
  unfold slT
  rw [f10_in]
  simp only [List.length_map]
  refine brn_intro (fun h => ?_) (fun h => ?_)
  · refine no (fun e => ?_)
    subst e
    simp at h
  · have hl : L.length = M.length := by simp at h; omega
    unfold LoopI
    refine loop_rule (fun i : Nat => h10 (L.map cellsT) (M.map cellsT) i) (fun i => i ≤ L.length ∧ L.take i = M.take i) (fun i => L.length - i) (fun i hP K' hnorm hexit => ?_) rfl 0 p11 _ ⟨Nat.zero_le _, by simp⟩ (by kernel_rfl)
    obtain ⟨hi, ht⟩ := hP
    rw [f10_lp]
    simp only [List.length_map]
    refine brn_intro (fun h1 => ?_) (fun h1 => ?_)
    · simp only [decide_eq_true_eq] at h1
      have hlt : i < L.length := by omega
      simp only [Int.toNat_natCast, getT hlt, getT (hl ▸ hlt : i < M.length), kT, oT, dT, gT]
      refine ⟨by omega, by omega, True.intro, by omega, by omega, True.intro, brn_intro (fun h2 => ?_) (fun h2 => ?_)⟩
      · refine hexit _ _ (by simp) (Eq.mp (by kernel_rfl) (no (ne_of_at t0 (i := i) fun e => ?_)))
        rw [e] at h2
        simp at h2
      · have e2 : IntKind.wrap .i64 ((i : Int) + 1) = ((i + 1 : Nat) : Int) := by rw [wrap64 (by omega) (by omega)]; first | done | rfl
        have e3 : L.getD i t0 = M.getD i t0 := by
          simp only [Bool.not_eq_false', Bool.and_eq_true, beq_iff_eq, and_true] at h2
          obtain ⟨q1, q2, q3⟩ := h2
          generalize L.getD i t0 = x at *
          generalize M.getD i t0 = y at *
          cases x; cases y
          simp only at q1 q2 q3
          rw [q1, q2, q3]
        simp only [e2]
        refine hnorm (i + 1) p11 _ ⟨by omega, ?_⟩ (by omega) (by kernel_rfl)
        rw [takeS t0 (by omega), takeS t0 (by omega), ht, e3]
    · simp only [decide_eq_false_iff_not] at h1
      have hil : i = L.length := by omega
      have e : L = M := by
        rw [hil, List.take_length, hl, List.take_length] at ht
        exact ht
      rw [decide_eq_true e] at hK
      exact hexit _ _ (by simp) (Eq.mp (by kernel_rfl) hK)
theorem tmodN (n : Nat) : Int.tmod (n : Int) 256 = ((n % 256 : Nat) : Int) := by simp [Int.tmod]
theorem tdivN (n : Nat) : Int.tdiv (n : Int) 256 = ((n / 256 : Nat) : Int) := by simp [Int.tdiv]
theorem wrap64m (n : Int) : IntKind.wrap .i64 n = (n + 9223372036854775808) % 18446744073709551616 - 9223372036854775808 := by
  have := IntKind.wrap_i64 n
  rw [show IntKind.wrap .i64 n = IntKind.i64.wrap n from rfl, this]
theorem shl_eq {u s : Nat} (hs : s ≤ 64) : shlV .u64 (u : Int) (s : Int) = ((u : Int) * 2 ^ s) % 18446744073709551616 := by
  unfold shlV
  rw [Int.toNat_natCast, Nat.min_eq_left (by have : IntKind.u64.bits = 64 := rfl; omega), wrapUm]
theorem shr_eq {x : Int} {s : Nat} (hs : s ≤ 64) : shrV .i64 x (s : Int) = x / 2 ^ s := by
  unfold shrV
  rw [Int.toNat_natCast, Nat.min_eq_left (by have : IntKind.i64.bits = 64 := rfl; omega), Int.fdiv_eq_ediv_of_nonneg _ (Int.le_of_lt (Int.pow_pos (by decide)))]
theorem sgn_eq {u n : Nat} (hu : u < 256 ^ n) (n1 : 1 ≤ n) (n8 : n ≤ 8) : shrV .i64 (IntKind.wrap .i64 (shlV .u64 (u : Int) ((64 - 8 * n : Nat) : Int))) ((64 - 8 * n : Nat) : Int) = sgnN n u := by
  rw [shl_eq (by omega), shr_eq (by omega), wrap64m]
  unfold sgnN
  have : n = 1 ∨ n = 2 ∨ n = 3 ∨ n = 4 ∨ n = 5 ∨ n = 6 ∨ n = 7 ∨ n = 8 := by omega
  rcases this with rfl | rfl | rfl | rfl | rfl | rfl | rfl | rfl <;> simp at hu ⊢ <;> split <;> omega
theorem ok30 : ∀ args pres res, sHalf args = some (pres, res) → SpecOK Tryd.prog G16 54 args pres res := by
  intro args pres res h
  unfold sHalf at h
  split at h
  case h_2 => cases h
  cases h
  exact mk ok0 Tryd.func54 (by kernel_rfl) (by kernel_rfl) (fun hp K hK => f30_ev _ (hp _ (by simp)) (hp _ (by simp)) K hK)
theorem ok11 : ∀ args pres res, sSameB args = some (pres, res) → SpecOK Tryd.prog G16 31 args pres res := by
  intro args pres res h
  unfold sSameB at h
  split at h
  case h_2 => cases h
  cases h
  exact mk ok0 Tryd.func31 (by kernel_rfl) (by kernel_rfl) (fun hp K hK => f11_ev _ _ (hp _ (by simp)) (hp _ (by simp)) K hK)
theorem okE1 : EOK Tryd.prog E1 G16 := addE_ok (addE_ok PA.okR4 ok30) ok11
theorem okE2 : EOK Tryd.prog E2 G16 := okE1
theorem ok10 : ∀ args pres res, sSameT args = some (pres, res) → SpecOK Tryd.prog G16 32 args pres res := by
  intro args pres res h
  unfold sSameT at h
  split at h
  case h_2 => cases h
  cases h
  rename_i xs ys
  exact mk ok0 Tryd.func32 (by kernel_rfl) (by kernel_rfl) (fun hp K hK => by
    obtain ⟨L, rfl, e, hL⟩ := okT_elim (hp (okT xs) (by simp))
    obtain ⟨M, rfl, e', hM⟩ := okT_elim (hp (okT ys) (by simp))
    rw [e, e'] at hK
    have h1 := hp (((L.map cellsT).length : Int) ≤ big) (by simp)
    have h2 := hp (((M.map cellsT).length : Int) ≤ big) (by simp)
    rw [List.length_map] at h1 h2
    exact f10_ev L M h1 h2 K hK)
theorem okE3 : EOK Tryd.prog E3 G16 := addE_ok okE2 ok10
theorem okE4 : EOK Tryd.prog E4 G16 := okE3
end PE
set_option maxRecDepth 100000
namespace PF
open Go Go.AE Go.Proofs PE
attribute [local irreducible] loopK evCode evSpec loopB norm
theorem f10_in (T : List Int) (I : List UInt8) (X : List (List IV)) (C : List UInt8) (L : List (List IV)) (S : List Bool) (U : List Bool) (K : List AV → Prop) : evSpec K0 Tryd.f20 [blkAV T I X C L S U] K = (K [bo (decide ((T.length : Int) ≤ 200) && decide ((I.length : Int) ≤ 200) && decide ((X.length : Int) ≤ 200) && decide ((C.length : Int) ≤ 600) && decide ((L.length : Int) ≤ 200) && decide ((S.length : Int) ≤ 200) && decide ((U.length : Int) ≤ 200))]) := by kernel_rfl
theorem f14_in (T : List Int) (I : List UInt8) (X : List (List IV)) (C : List UInt8) (L : List (List IV)) (S : List Bool) (U : List Bool) (T' : List Int) (I' : List UInt8) (X' : List (List IV)) (C' : List UInt8) (L' : List (List IV)) (S' : List Bool) (U' : List Bool) (K : List AV → Prop) : evSpec K1 Tryd.f19 [blkAV T I X C L S U, blkAV T' I' X' C' L' S' U'] K = ((T.length : Int) ≤ big' ∧ (T'.length : Int) ≤ big' ∧ (decide (T = T') = true → (I.length : Int) ≤ big) ∧ (decide (T = T') = true → (I'.length : Int) ≤ big) ∧ ((decide (T = T') && decide (I = I')) = true → okT X) ∧ ((decide (T = T') && decide (I = I')) = true → okT X') ∧ ((decide (T = T') && decide (I = I')) = true → (X.length : Int) ≤ big) ∧ ((decide (T = T') && decide (I = I')) = true → (X'.length : Int) ≤ big) ∧ ((decide (T = T') && decide (I = I') && decide (tys X = tys X')) = true → (C.length : Int) ≤ big) ∧ ((decide (T = T') && decide (I = I') && decide (tys X = tys X')) = true → (C'.length : Int) ≤ big) ∧ ((decide (T = T') && decide (I = I') && decide (tys X = tys X') && decide (C = C')) = true → okL L) ∧ ((decide (T = T') && decide (I = I') && decide (tys X = tys X') && decide (C = C')) = true → okL L') ∧ ((decide (T
 = T') && decide (I = I') && decide (tys X = tys X') && decide (C = C')) = true → (L.length : Int) ≤ big') ∧ ((decide (T = T') && decide (I = I') && decide (tys X = tys X') && decide (C = C')) = true → (L'.length : Int) ≤ big') ∧ ((decide (T = T') && decide (I = I') && decide (tys X = tys X') && decide (C = C') && decide (lps L = lps L')) = true → (S.length : Int) ≤ big') ∧ ((decide (T = T') && decide (I = I') && decide (tys X = tys X') && decide (C = C') && decide (lps L = lps L')) = true → (S'.length : Int) ≤ big') ∧ ((decide (T = T') && decide (I = I') && decide (tys X = tys X') && decide (C = C') && decide (lps L = lps L') && decide (S = S')) = true → (U.length : Int) ≤ big') ∧ ((decide (T = T') && decide (I = I') && decide (tys X = tys X') && decide (C = C') && decide (lps L = lps L') && decide (S = S')) = true → (U'.length : Int) ≤ big') ∧ K [bo (decide (T = T') && decide (I = I') && decide (tys X = tys X') && decide (C = C') && decide (lps L = lps L') && decide (S = S') && decide (U = U'))]) := by kernel_rfl
theorem f42_in (a : List Int) (b : List Int) (K : List AV → Prop) : evSpec K0 Tryd.f30 [.imm (.ints IntKind.i64 a), .imm (.ints IntKind.i64 b)] K = (brn ((a.length : Int) != (b.length : Int)) (K [bo false]) (LoopI K0 (bodyOf Tryd.f30) 0 (St.mk (lapp [.imm (.ints IntKind.i64 a), .imm (.ints IntKind.i64 b), .dead, .dead, bo false, i64 0, .imm (.ints IntKind.i64 a), i64 (a.length : Int), .imm (.ints IntKind.i64 b), i64 (b.length : Int), bo ((a.length : Int) != (b.length : Int))] (dN 15)) [] 0 []) (finK K0 Tryd.f30 K))) := by kernel_rfl
theorem f44_in (a : List (List IV)) (b : List (List IV)) (K : List AV → Prop) : evSpec K0 Tryd.f33 [.imm (.sl 2 a), .imm (.sl 2 b)] K = (brn ((a.length : Int) != (b.length : Int)) (K [bo false]) (LoopI K0 (bodyOf Tryd.f33) 0 (St.mk (lapp [.imm (.sl 2 a), .imm (.sl 2 b), .dead, .dead, bo false, i64 0, .imm (.sl 2 a), i64 (a.length : Int), .imm (.sl 2 b), i64 (b.length : Int), bo ((a.length : Int) != (b.length : Int))] (dN 15)) [] 0 []) (finK K0 Tryd.f33 K))) := by kernel_rfl
theorem f45_in (a : List Bool) (b : List Bool) (K : List AV → Prop) : evSpec K0 Tryd.f34 [.imm (.bools a), .imm (.bools b)] K = (brn ((a.length : Int) != (b.length : Int)) (K [bo false]) (LoopI K0 (bodyOf Tryd.f34) 0 (St.mk (lapp [.imm (.bools a), .imm (.bools b), .dead, .dead, bo false, i64 0, .imm (.bools a), i64 (a.length : Int), .imm (.bools b), i64 (b.length : Int), bo ((a.length : Int) != (b.length : Int))] (dN 15)) [] 0 []) (finK K0 Tryd.f34 K))) := by kernel_rfl
theorem f52_in (T : List Int) (n : Int) (K : List AV → Prop) : evSpec K1 Tryd.f35 [.imm (.ints IntKind.i64 T), i64 n] K = (LoopI K1 (bodyOf Tryd.f35) 0 (St.mk (lapp [.imm (.ints IntKind.i64 T), i64 n, .dead, .dead, bo false, i64 0] (dN 13)) [] 0 []) (finK K1 Tryd.f35 K)) := by kernel_rfl
theorem f42_lp (a : List Int) (b : List Int) (i : Nat) (k : AX → St → Prop) : evCode K0 (loopB (bodyOf Tryd.f30) 0) (hA (ii a) (ii b) i) k = (brn (decide ((↑i : Int) < (a.length : Int))) ((0 : Int) ≤ (↑i : Int) ∧ (↑i : Int) < (a.length : Int) ∧ (0 : Int) ≤ (↑i : Int) ∧ (↑i : Int) < (b.length : Int) ∧ brn (List.getD a (↑i : Int).toNat (0 : Int) != List.getD b (↑i : Int).toNat (0 : Int)) (k AX.ret (St.mk (lapp [.imm (.ints IntKind.i64 a), .imm (.ints IntKind.i64 b), .dead, .dead, bo false, i64 (↑i : Int)] (lapp (dN 5) [i64 (↑i : Int), .imm (.ints IntKind.i64 a), i64 (a.length : Int), bo (decide ((↑i : Int) < (a.length : Int))), .dead, .dead, .imm (.ints IntKind.i64 a), i64 (↑i : Int), AV.elv [IV.int .i64 (List.getD a (↑i : Int).toNat (0 : Int))], i64 (List.getD a (↑i : Int).toNat (0 : Int)), .imm (.ints IntKind.i64 b), i64 (↑i : Int), AV.elv [IV.int .i64 (List.getD b (↑i : Int).toNat (0 : Int))], i64 (List.getD b (↑i : Int).toNat (0 : Int)), bo (List.getD a (↑i : Int).toNat (0 : Int) != List.getD b (↑i : Int).toNat (0 : Int))])) [] 0 [])) (k AX.normal (St.mk (lapp [.imm (.ints IntKind.i64 a), .imm (.ints IntKind.i64 b), .dead, .dead, .dead, i64 (IntKind.wrap .i64 ((↑i : Int) + 1))]
 (lapp (dN 5) [i64 (↑i : Int), .imm (.ints IntKind.i64 a), i64 (a.length : Int), bo (decide ((↑i : Int) < (a.length : Int))), i64 (↑i : Int), i64 (IntKind.wrap .i64 ((↑i : Int) + 1)), .imm (.ints IntKind.i64 a), i64 (↑i : Int), AV.elv [IV.int .i64 (List.getD a (↑i : Int).toNat (0 : Int))], i64 (List.getD a (↑i : Int).toNat (0 : Int)), .imm (.ints IntKind.i64 b), i64 (↑i : Int), AV.elv [IV.int .i64 (List.getD b (↑i : Int).toNat (0 : Int))], i64 (List.getD b (↑i : Int).toNat (0 : Int)), bo (List.getD a (↑i : Int).toNat (0 : Int) != List.getD b (↑i : Int).toNat (0 : Int))])) [] 0 []))) (k (AX.exit 0) (St.mk (lapp [.imm (.ints IntKind.i64 a), .imm (.ints IntKind.i64 b), .dead, .dead, .dead, i64 (↑i : Int)] (lapp (dN 5) (lapp [i64 (↑i : Int), .imm (.ints IntKind.i64 a), i64 (a.length : Int), bo (decide ((↑i : Int) < (a.length : Int)))] (dN 11)))) [] 0 []))) := by kernel_rfl
theorem f44_lp (a : List (List IV)) (b : List (List IV)) (i : Nat) (k : AX → St → Prop) : evCode K0 (loopB (bodyOf Tryd.f33) 0) (hA (ll a) (ll b) i) k = (brn (decide ((↑i : Int) < (a.length : Int))) ((0 : Int) ≤ (↑i : Int) ∧ (↑i : Int) < (a.length : Int) ∧ kcells (List.getD a (↑i : Int).toNat []) 0 (lapp [CK.int IntKind.i64] (lapp [CK.int IntKind.i32] [])) = List.getD a (↑i : Int).toNat [] ∧ (0 : Int) ≤ (↑i : Int) ∧ (↑i : Int) < (b.length : Int) ∧ kcells (List.getD b (↑i : Int).toNat []) 0 (lapp [CK.int IntKind.i64] (lapp [CK.int IntKind.i32] [])) = List.getD b (↑i : Int).toNat [] ∧ brn (!(ivInt (ivNth (List.getD a (↑i : Int).toNat []) 0) == ivInt (ivNth (List.getD b (↑i : Int).toNat []) 0) && (ivInt (ivNth (List.getD a (↑i : Int).toNat []) (0 + 1)) == ivInt (ivNth (List.getD b (↑i : Int).toNat []) (0 + 1)) && true))) (k AX.ret (St.mk (lapp [.imm (.sl 2 a), .imm (.sl 2 b), .dead, .dead, bo false, i64 (↑i : Int)] (lapp (dN 5) [i64 (↑i : Int), .imm (.sl 2 a), i64 (a.length : Int), bo (decide ((↑i : Int) < (a.length : Int))), .dead, .dead, .imm (.sl 2 a), i64 (↑i : Int), AV.elv [IV.int .i64 (ivInt (ivNth (List.getD a (↑i : Int).toNat []) 0)), IV.int IntKind.i32 (ivInt (ivNth (List.getD
 a (↑i : Int).toNat []) (0 + 1)))], .agg [i64 (ivInt (ivNth (List.getD a (↑i : Int).toNat []) 0)), .imm (.int IntKind.i32 (ivInt (ivNth (List.getD a (↑i : Int).toNat []) (0 + 1))))], .imm (.sl 2 b), i64 (↑i : Int), AV.elv [IV.int .i64 (ivInt (ivNth (List.getD b (↑i : Int).toNat []) 0)), IV.int IntKind.i32 (ivInt (ivNth (List.getD b (↑i : Int).toNat []) (0 + 1)))], .agg [i64 (ivInt (ivNth (List.getD b (↑i : Int).toNat []) 0)), .imm (.int IntKind.i32 (ivInt (ivNth (List.getD b (↑i : Int).toNat []) (0 + 1))))], bo (!(ivInt (ivNth (List.getD a (↑i : Int).toNat []) 0) == ivInt (ivNth (List.getD b (↑i : Int).toNat []) 0) && (ivInt (ivNth (List.getD a (↑i : Int).toNat []) (0 + 1)) == ivInt (ivNth (List.getD b (↑i : Int).toNat []) (0 + 1)) && true)))])) [] 0 [])) (k AX.normal (St.mk (lapp [.imm (.sl 2 a), .imm (.sl 2 b), .dead, .dead, .dead, i64 (IntKind.wrap .i64 ((↑i : Int) + 1))] (lapp (dN 5) [i64 (↑i : Int), .imm (.sl 2 a), i64 (a.length : Int), bo (decide ((↑i : Int) < (a.length : Int))), i64 (↑i : Int), i64 (IntKind.wrap .i64 ((↑i : Int) + 1)), .imm (.sl 2 a), i64 (↑i : Int), AV.elv [IV.int .i64 (ivInt (ivNth (List.getD a (↑i : Int).toNat []) 0)), IV.int IntKind.i32 (ivInt (ivNth
 (List.getD a (↑i : Int).toNat []) (0 + 1)))], .agg [i64 (ivInt (ivNth (List.getD a (↑i : Int).toNat []) 0)), .imm (.int IntKind.i32 (ivInt (ivNth (List.getD a (↑i : Int).toNat []) (0 + 1))))], .imm (.sl 2 b), i64 (↑i : Int), AV.elv [IV.int .i64 (ivInt (ivNth (List.getD b (↑i : Int).toNat []) 0)), IV.int IntKind.i32 (ivInt (ivNth (List.getD b (↑i : Int).toNat []) (0 + 1)))], .agg [i64 (ivInt (ivNth (List.getD b (↑i : Int).toNat []) 0)), .imm (.int IntKind.i32 (ivInt (ivNth (List.getD b (↑i : Int).toNat []) (0 + 1))))], bo (!(ivInt (ivNth (List.getD a (↑i : Int).toNat []) 0) == ivInt (ivNth (List.getD b (↑i : Int).toNat []) 0) && (ivInt (ivNth (List.getD a (↑i : Int).toNat []) (0 + 1)) == ivInt (ivNth (List.getD b (↑i : Int).toNat []) (0 + 1)) && true)))])) [] 0 []))) (k (AX.exit 0) (St.mk (lapp [.imm (.sl 2 a), .imm (.sl 2 b), .dead, .dead, .dead, i64 (↑i : Int)] (lapp (dN 5) (lapp [i64 (↑i : Int), .imm (.sl 2 a), i64 (a.length : Int), bo (decide ((↑i : Int) < (a.length : Int)))] (dN 11)))) [] 0 []))) := by kernel_rfl
theorem f45_lp (a : List Bool) (b : List Bool) (i : Nat) (k : AX → St → Prop) : evCode K0 (loopB (bodyOf Tryd.f34) 0) (hA (oo a) (oo b) i) k = (brn (decide ((↑i : Int) < (a.length : Int))) ((0 : Int) ≤ (↑i : Int) ∧ (↑i : Int) < (a.length : Int) ∧ (0 : Int) ≤ (↑i : Int) ∧ (↑i : Int) < (b.length : Int) ∧ brn (!List.getD a (↑i : Int).toNat false == List.getD b (↑i : Int).toNat false) (k AX.ret (St.mk (lapp [.imm (.bools a), .imm (.bools b), .dead, .dead, bo false, i64 (↑i : Int)] (lapp (dN 5) [i64 (↑i : Int), .imm (.bools a), i64 (a.length : Int), bo (decide ((↑i : Int) < (a.length : Int))), .dead, .dead, .imm (.bools a), i64 (↑i : Int), AV.elv [IV.bool (List.getD a (↑i : Int).toNat false)], bo (List.getD a (↑i : Int).toNat false), .imm (.bools b), i64 (↑i : Int), AV.elv [IV.bool (List.getD b (↑i : Int).toNat false)], bo (List.getD b (↑i : Int).toNat false), bo (!List.getD a (↑i : Int).toNat false == List.getD b (↑i : Int).toNat false)])) [] 0 [])) (k AX.normal (St.mk (lapp [.imm (.bools a), .imm (.bools b), .dead, .dead, .dead, i64 (IntKind.wrap .i64 ((↑i : Int) + 1))] (lapp (dN 5) [i64 (↑i : Int), .imm (.bools a), i64 (a.length : Int), bo (decide ((↑i : Int) < (a.length : Int))), i64
 (↑i : Int), i64 (IntKind.wrap .i64 ((↑i : Int) + 1)), .imm (.bools a), i64 (↑i : Int), AV.elv [IV.bool (List.getD a (↑i : Int).toNat false)], bo (List.getD a (↑i : Int).toNat false), .imm (.bools b), i64 (↑i : Int), AV.elv [IV.bool (List.getD b (↑i : Int).toNat false)], bo (List.getD b (↑i : Int).toNat false), bo (!List.getD a (↑i : Int).toNat false == List.getD b (↑i : Int).toNat false)])) [] 0 []))) (k (AX.exit 0) (St.mk (lapp [.imm (.bools a), .imm (.bools b), .dead, .dead, .dead, i64 (↑i : Int)] (lapp (dN 5) (lapp [i64 (↑i : Int), .imm (.bools a), i64 (a.length : Int), bo (decide ((↑i : Int) < (a.length : Int)))] (dN 11)))) [] 0 []))) := by kernel_rfl
theorem f52_lp (T : List Int) (n : Int) (i : Nat) (k : AX → St → Prop) : evCode K1 (loopB (bodyOf Tryd.f35) 0) (h52 T n i) k = (brn (decide ((↑i : Int) < (T.length : Int))) ((0 : Int) ≤ (↑i : Int) ∧ (↑i : Int) < (T.length : Int) ∧ sz48 n ∧ brn (!fitsP (List.getD T (↑i : Int).toNat (0 : Int)) n) (k AX.ret (St.mk [.imm (.ints IntKind.i64 T), i64 n, .dead, .dead, bo false, i64 (↑i : Int), i64 (↑i : Int), .imm (.ints IntKind.i64 T), i64 (T.length : Int), bo (decide ((↑i : Int) < (T.length : Int))), .dead, .dead, .imm (.ints IntKind.i64 T), i64 (↑i : Int), AV.elv [IV.int .i64 (List.getD T (↑i : Int).toNat (0 : Int))], i64 (List.getD T (↑i : Int).toNat (0 : Int)), i64 n, bo (fitsP (List.getD T (↑i : Int).toNat (0 : Int)) n), bo (!fitsP (List.getD T (↑i : Int).toNat (0 : Int)) n)] [] 0 [])) (k AX.normal (St.mk [.imm (.ints IntKind.i64 T), i64 n, .dead, .dead, .dead, i64 (IntKind.wrap .i64 ((↑i : Int) + 1)), i64 (↑i : Int), .imm (.ints IntKind.i64 T), i64 (T.length : Int), bo (decide ((↑i : Int) < (T.length : Int))), i64 (↑i : Int), i64 (IntKind.wrap .i64 ((↑i : Int) + 1)), .imm (.ints IntKind.i64 T), i64 (↑i : Int), AV.elv [IV.int .i64 (List.getD T (↑i : Int).toNat (0 : Int))], i64
 (List.getD T (↑i : Int).toNat (0 : Int)), i64 n, bo (fitsP (List.getD T (↑i : Int).toNat (0 : Int)) n), bo (!fitsP (List.getD T (↑i : Int).toNat (0 : Int)) n)] [] 0 []))) (k (AX.exit 0) (St.mk (lapp [.imm (.ints IntKind.i64 T), i64 n, .dead, .dead, .dead, i64 (↑i : Int), i64 (↑i : Int), .imm (.ints IntKind.i64 T), i64 (T.length : Int), bo (decide ((↑i : Int) < (T.length : Int)))] (dN 9)) [] 0 []))) := by kernel_rfl
def p0 : Lp := ⟨0, 0⟩
theorem okL_elim {xs : List (List IV)} (h : okL xs) : ∃ L : List Lp, xs = L.map cellsL ∧ lps xs = L ∧ ∀ t ∈ L, okLp t := ⟨lps xs, h.1, rfl, h.2⟩
theorem getL {L : List Lp} {i : Nat} (h : i < L.length) : (L.map cellsL).getD i [] = cellsL (L.getD i p0) := by
  simp only [List.getD_eq_getElem?_getD, List.getElem?_map, List.getElem?_eq_getElem h]
  rfl
theorem kL (t : Lp) : kcells (cellsL t) 0 (lapp [CK.int .i64] (lapp [CK.int .i32] [])) = cellsL t := rfl
theorem aL (t : Lp) : ivInt (ivNth (cellsL t) 0) = t.a := rfl
theorem cL (t : Lp) : ivInt (ivNth (cellsL t) (0 + 1)) = t.c := rfl
theorem inc {i : Nat} (h : i ≤ 1000000000000) : IntKind.wrap .i64 ((i : Int) + 1) = ((i + 1 : Nat) : Int) := by rw [wrap64 (by omega) (by omega)]; first | done | rfl
theorem incB {i : Nat} (h : i ≤ 4611686018427387904) : IntKind.wrap .i64 ((i : Int) + 1) = ((i + 1 : Nat) : Int) := by rw [wrap64 (by omega) (by omega)]; first | done | rfl
theorem nat_ne {a b : Nat} (h : ((a : Int) != (b : Int)) = false) : a = b := by simp at h; omega
theorem f42_ev (a b : List Int) (ha : (a.length : Int) ≤ big') (hb : (b.length : Int) ≤ big') (K : List AV → Prop) (hK : K [bo (decide (a = b))]) : evSpec K0 Tryd.f30 [ii a, ii b] K := by
  have hbig : big' = 1000000000000 := rfl
  have no : a ≠ b → K [.imm (.bool false)] := fun h => by rw [decide_eq_false h] at hK; exact hK
  refine Eq.mpr (f42_in a b K) ?_
  refine brn_intro (fun h => ?_) (fun h => ?_)
  · refine no (fun e => ?_)
    subst e
    simp at h
  · have hl : a.length = b.length := nat_ne h
    unfold LoopI
    refine loop_rule (fun i : Nat => hA (ii a) (ii b) i) (fun i => i ≤ a.length ∧ a.take i = b.take i) (fun i => a.length - i) (fun i hP K' hnorm hexit => ?_) rfl 0 pA _ ⟨Nat.zero_le _, by simp⟩ (by kernel_rfl)
    obtain ⟨hi, ht⟩ := hP
    rw [f42_lp]
    refine brn_intro (fun h1 => ?_) (fun h1 => ?_)
    · simp only [decide_eq_true_eq] at h1
      simp only [Int.toNat_natCast]
      refine ⟨by omega, by omega, by omega, by omega, brn_intro (fun h2 => ?_) (fun h2 => ?_)⟩
      · refine hexit _ _ (by simp) (Eq.mp (by kernel_rfl) (no (ne_of_at 0 (i := i) fun e => ?_)))
        rw [e] at h2
        simp at h2
      · have e3 : a.getD i 0 = b.getD i 0 := by
          simpa using h2
        simp only [inc (show i ≤ 1000000000000 by omega)]
        refine hnorm (i + 1) pA _ ⟨by omega, ?_⟩ (by omega) (by kernel_rfl)
        rw [takeS 0 (by omega), takeS 0 (by omega), ht, e3]
    · simp only [decide_eq_false_iff_not] at h1
      have hil : i = a.length := by omega
      have e : a = b := by
        rw [hil, List.take_length, hl, List.take_length] at ht
        exact ht
      rw [decide_eq_true e] at hK
      exact hexit _ _ (by simp) (Eq.mp (by kernel_rfl) hK)
theorem f45_ev (a b : List Bool) (ha : (a.length : Int) ≤ big') (hb : (b.length : Int) ≤ big') (K : List AV → Prop) (hK : K [bo (decide (a = b))]) : evSpec K0 Tryd.f34 [oo a, oo b] K := by
  have hbig : big' = 1000000000000 := rfl
  have no : a ≠ b → K [.imm (.bool false)] := fun h => by rw [decide_eq_false h] at hK; exact hK
  refine Eq.mpr (f45_in a b K) ?_
  refine brn_intro (fun h => ?_) (fun h => ?_)
  · refine no (fun e => ?_)
    subst e
    simp at h
  · have hl : a.length = b.length := nat_ne h
    unfold LoopI
    refine loop_rule (fun i : Nat => hA (oo a) (oo b) i) (fun i => i ≤ a.length ∧ a.take i = b.take i) (fun i => a.length - i) (fun i hP K' hnorm hexit => ?_) rfl 0 pA _ ⟨Nat.zero_le _, by simp⟩ (by kernel_rfl)
    obtain ⟨hi, ht⟩ := hP
    rw [f45_lp]
    refine brn_intro (fun h1 => ?_) (fun h1 => ?_)
    · simp only [decide_eq_true_eq] at h1
      simp only [Int.toNat_natCast]
      refine ⟨by omega, by omega, by omega, by omega, brn_intro (fun h2 => ?_) (fun h2 => ?_)⟩
      · refine hexit _ _ (by simp) (Eq.mp (by kernel_rfl) (no (ne_of_at false (i := i) fun e => ?_)))
        rw [e] at h2
        simp at h2
      · have e3 : a.getD i false = b.getD i false := by
          simpa using h2
        simp only [inc (show i ≤ 1000000000000 by omega)]
        refine hnorm (i + 1) pA _ ⟨by omega, ?_⟩ (by omega) (by kernel_rfl)
        rw [takeS false (by omega), takeS false (by omega), ht, e3]
    · simp only [decide_eq_false_iff_not] at h1
      have hil : i = a.length := by omega
      have e : a = b := by
        rw [hil, List.take_length, hl, List.take_length] at ht
        exact ht
      rw [decide_eq_true e] at hK
      exact hexit _ _ (by simp) (Eq.mp (by kernel_rfl) hK)
theorem f44_ev (L M : List Lp) (ha : (L.length : Int) ≤ big') (hb : (M.length : Int) ≤ big') (K : List AV → Prop) (hK : K [bo (decide (L = M))]) : evSpec K0 Tryd.f33 [.imm (slL L), .imm (slL M)] K := by
  have hbig : big' = 1000000000000 := rfl
  have no : L ≠ M → K [.imm (.bool false)] := fun h => by rw [decide_eq_false h] at hK; exact hK
  unfold slL
  refine Eq.mpr (f44_in (L.map cellsL) (M.map cellsL) K) ?_
  simp only [List.length_map]
  refine brn_intro (fun h => ?_) (fun h => ?_)
  · refine no (fun e => ?_)
    subst e
    simp at h
  · have hl : L.length = M.length := nat_ne h
    unfold LoopI
    refine loop_rule (fun i : Nat => hA (ll (L.map cellsL)) (ll (M.map cellsL)) i) (fun i => i ≤ L.length ∧ L.take i = M.take i) (fun i => L.length - i) (fun i hP K' hnorm hexit => ?_) rfl 0 pA _ ⟨Nat.zero_le _, by simp⟩ (by kernel_rfl)
    obtain ⟨hi, ht⟩ := hP
    rw [f44_lp]
    simp only [List.length_map]
    refine brn_intro (fun h1 => ?_) (fun h1 => ?_)
    · simp only [decide_eq_true_eq] at h1
      have hlt : i < L.length := by omega
      simp only [Int.toNat_natCast, getL hlt, getL (hl ▸ hlt : i < M.length), kL, aL, cL]
      refine ⟨by omega, by omega, True.intro, by omega, by omega, True.intro, brn_intro (fun h2 => ?_) (fun h2 => ?_)⟩
      · refine hexit _ _ (by simp) (Eq.mp (by kernel_rfl) (no (ne_of_at p0 (i := i) fun e => ?_)))
        rw [e] at h2
        simp at h2
      · have e3 : L.getD i p0 = M.getD i p0 := by
          simp only [Bool.not_eq_false', Bool.and_eq_true, beq_iff_eq, and_true] at h2
          obtain ⟨q1, q2⟩ := h2
          generalize L.getD i p0 = x at *
          generalize M.getD i p0 = y at *
          cases x; cases y
          simp only at q1 q2
          rw [q1, q2]
        simp only [inc (show i ≤ 1000000000000 by omega)]
        refine hnorm (i + 1) pA _ ⟨by omega, ?_⟩ (by omega) (by kernel_rfl)
        rw [takeS p0 (by omega), takeS p0 (by omega), ht, e3]
    · simp only [decide_eq_false_iff_not] at h1
      have hil : i = L.length := by omega
      have e : L = M := by
        rw [hil, List.take_length, hl, List.take_length] at ht
        exact ht
      rw [decide_eq_true e] at hK
      exact hexit _ _ (by simp) (Eq.mp (by kernel_rfl) hK)
theorem f52_ev (T : List Int) (n : Int) (hn : sz48 n) (hT : (T.length : Int) ≤ big) (K : List AV → Prop) (hK : K [bo (fitP T n)]) : evSpec K1 Tryd.f35 [ii T, i64 n] K := by
  have hbig : big = 4611686018427387904 := rfl
  refine Eq.mpr (f52_in T n K) ?_
  unfold LoopI
  refine loop_rule (fun i : Nat => h52 T n i) (fun i => i ≤ T.length ∧ (T.take i).all (fun v => fitsP v n) = true) (fun i => T.length - i) (fun i hP K' hnorm hexit => ?_) rfl 0 p52 _ ⟨Nat.zero_le _, rfl⟩ (by kernel_rfl)
  obtain ⟨hi, ha⟩ := hP
  rw [f52_lp]
  refine brn_intro (fun h => ?_) (fun h => ?_)
  · simp only [decide_eq_true_eq] at h
    have hlt : i < T.length := by omega
    simp only [incB (show i ≤ 4611686018427387904 by omega), Int.toNat_natCast]
    refine ⟨by omega, by omega, hn, brn_intro (fun h2 => ?_) (fun h2 => ?_)⟩
    · have hno : fitP T n = false := by
        cases he : fitP T n with
        | false => rfl
        | true => unfold fitP at he; rw [List.all_eq_true] at he; rw [he _ (memD 0 hlt)] at h2; cases h2
      rw [hno] at hK
      exact hexit _ _ (by simp) (Eq.mp (by kernel_rfl) hK)
    · have h2' : fitsP (T.getD i 0) n = true := by simpa using h2
      refine hnorm (i + 1) p52 _ ⟨hlt, ?_⟩ (by omega) (by kernel_rfl)
      rw [takeS 0 hlt, List.all_append, ha]
      simpa using h2'
  · simp only [decide_eq_false_iff_not] at h
    have hil : i = T.length := by omega
    rw [hil, List.take_length] at ha
    have : fitP T n = true := ha
    rw [this] at hK
    exact hexit _ _ (by simp) (Eq.mp (by kernel_rfl) hK)
end PF
namespace PF
open Go Go.Proofs Go.RowKit Go.Lib
end PF
set_option maxRecDepth 100000
namespace PF
open Go Go.AE Go.Proofs PE
attribute [local irreducible] loopK evCode evSpec loopB norm
theorem f10_ev (T : List Int) (I : List UInt8) (X : List (List IV)) (C : List UInt8) (L : List (List IV)) (S U : List Bool) (K : List AV → Prop) (hK : K [bo (fewB T I X C L S U)]) : evSpec K0 Tryd.f20 [blkAV T I X C L S U] K := by
  refine Eq.mpr (f10_in T I X C L S U K) ?_
  have e1 : ∀ n : Nat, decide ((n : Int) ≤ 200) = decide (n ≤ 200) := fun n => decide_eq_decide.2 (by omega)
  have e2 : ∀ n : Nat, decide ((n : Int) ≤ 600) = decide (n ≤ 600) := fun n => decide_eq_decide.2 (by omega)
  simp only [e1, e2]
  exact hK
theorem sameK_eq (T : List Int) (I : List UInt8) (X : List (List IV)) (C : List UInt8) (L : List (List IV)) (S U : List Bool) (T' : List Int) (I' : List UInt8) (X' : List (List IV)) (C' : List UInt8) (L' : List (List IV)) (S' U' : List Bool) :
    (decide (T = T') && decide (I = I') && decide (tys X = tys X') && decide (C = C') && decide (lps L = lps L') && decide (S = S') && decide (U = U')) = sameK T I X C L S U T' I' X' C' L' S' U' := by
  unfold sameK
  simp only [Bool.and_assoc]
theorem f14_ev (T : List Int) (I : List UInt8) (X : List (List IV)) (C : List UInt8) (L : List (List IV)) (S U : List Bool) (T' : List Int) (I' : List UInt8) (X' : List (List IV)) (C' : List UInt8) (L' : List (List IV)) (S' U' : List Bool) (h : okB T I X C L S U) (h' : okB T' I' X' C' L' S' U')
    (K : List AV → Prop) (hK : K [bo (sameK T I X C L S U T' I' X' C' L' S' U')]) : evSpec K1 Tryd.f19 [blkAV T I X C L S U, blkAV T' I' X' C' L' S' U'] K := by
  obtain ⟨a1, a2, a3, a4, a5, a6, a7, a8, a9⟩ := h
  obtain ⟨b1, b2, b3, b4, b5, b6, b7, b8, b9⟩ := h'
  have hbig : big' = 1000000000000 := rfl
  have hbig2 : big = 4611686018427387904 := rfl
  refine Eq.mpr (f14_in T I X C L S U T' I' X' C' L' S' U' K) ?_
  rw [sameK_eq]
  exact ⟨a3, b3, fun _ => by omega, fun _ => by omega, fun _ => a1, fun _ => b1, fun _ => by omega, fun _ => by omega, fun _ => by omega, fun _ => by omega, fun _ => a2, fun _ => b2, fun _ => a7, fun _ => b7, fun _ => a8, fun _ => b8, fun _ => a9, fun _ => b9, hK⟩
end PF
namespace PF
open Go Go.AE Go.Proofs PE
end PF
set_option maxRecDepth 100000
namespace PF
open Go Go.AE Go.Proofs Go.RowKit PE
attribute [local irreducible] loopK evCode evSpec loopB norm
theorem f51_in0 (v : Int) (n : Int) (K : List AV → Prop) : evSpec K0 Tryd.f36 [i64 v, i64 n] K = (brn (n == 8) (K [bo true]) ((1 : Int) ≤ n ∧ n ≤ 8 ∧ K [bo (decide (v ≥ IntKind.wrap .i64 ((0 : Int) - IntKind.wrap .i64 ((2 : Int) ^ (8 * n.toNat - 1)))) && decide (v < IntKind.wrap .i64 ((2 : Int) ^ (8 * n.toNat - 1))))])) := by kernel_rfl
theorem f51_ev0 (v n : Int) (hn : sz48 n) (K : List AV → Prop) (hK : K [bo (fitsP v n)]) : evSpec K0 Tryd.f36 [i64 v, i64 n] K := by
  refine Eq.mpr (f51_in0 v n K) ?_
  rcases hn with rfl | rfl
  · have e : (decide (v ≥ IntKind.wrap .i64 ((0 : Int) - IntKind.wrap .i64 ((2 : Int) ^ (8 * Int.toNat 4 - 1)))) && decide (v < IntKind.wrap .i64 ((2 : Int) ^ (8 * Int.toNat 4 - 1)))) = fitsP v 4 := by
      have w1 : IntKind.wrap .i64 ((2 : Int) ^ (8 * Int.toNat 4 - 1)) = 2147483648 := by decide
      have w2 : IntKind.wrap .i64 ((0 : Int) - 2147483648) = -2147483648 := by decide
      rw [w1, w2]
      unfold fitsP
      rw [decide_eq_false (show ¬ ((4 : Int) = 8) by decide), Bool.false_or]
    exact ⟨by decide, by decide, by rw [e]; exact hK⟩
  · exact hK
theorem ok10 : ∀ args pres res, sFew args = some (pres, res) → SpecOK Tryd.prog G16 20 args pres res := by
  intro args pres res h
  unfold sFew blkS at h
  split at h
  case h_2 => cases h
  try dsimp only at h
  split at h
  case h_2 => cases h
  cases h
  exact mk okE4 Tryd.func20 (by kernel_rfl) (by kernel_rfl) (fun hp K hK => f10_ev _ _ _ _ _ _ _ K hK)
theorem okF1a : EOK Tryd.prog F1a G16 := addE_ok okE4 ok10
theorem okF1b : EOK Tryd.prog F1b G16 := okF1a
theorem ok42 : ∀ args pres res, sSameI args = some (pres, res) → SpecOK Tryd.prog G16 30 args pres res := by
  intro args pres res h
  unfold sSameI at h
  split at h
  case h_2 => cases h
  cases h
  exact mk okE4 Tryd.func30 (by kernel_rfl) (by kernel_rfl) (fun hp K hK => f42_ev _ _ (hp _ (by simp)) (hp _ (by simp)) K hK)
theorem ok44 : ∀ args pres res, sSameL args = some (pres, res) → SpecOK Tryd.prog G16 33 args pres res := by
  intro args pres res h
  unfold sSameL at h
  split at h
  case h_2 => cases h
  cases h
  rename_i xs ys
  exact mk okE4 Tryd.func33 (by kernel_rfl) (by kernel_rfl) (fun hp K hK => by
    obtain ⟨L, rfl, e, hL⟩ := okL_elim (hp (okL xs) (by simp))
    obtain ⟨M, rfl, e', hM⟩ := okL_elim (hp (okL ys) (by simp))
    rw [e, e'] at hK
    have h1 := hp (((L.map cellsL).length : Int) ≤ big') (by simp)
    have h2 := hp (((M.map cellsL).length : Int) ≤ big') (by simp)
    rw [List.length_map] at h1 h2
    exact f44_ev L M h1 h2 K hK)
theorem ok45 : ∀ args pres res, sSameO args = some (pres, res) → SpecOK Tryd.prog G16 34 args pres res := by
  intro args pres res h
  unfold sSameO at h
  split at h
  case h_2 => cases h
  cases h
  exact mk okE4 Tryd.func34 (by kernel_rfl) (by kernel_rfl) (fun hp K hK => f45_ev _ _ (hp _ (by simp)) (hp _ (by simp)) K hK)
theorem okF1c : EOK Tryd.prog F1c G16 := addE_ok (addE_ok (addE_ok okF1b ok42) ok44) ok45
theorem okF1d : EOK Tryd.prog F1d G16 := okF1c
theorem ok51 : ∀ args pres res, sFits args = some (pres, res) → SpecOK Tryd.prog G16 36 args pres res := by
  intro args pres res h
  unfold sFits at h
  split at h
  case h_2 => cases h
  cases h
  exact mk okE4 Tryd.func36 (by kernel_rfl) (by kernel_rfl) (fun hp K hK => f51_ev0 _ _ (hp _ (by simp)) K hK)
theorem okF1 : EOK Tryd.prog F1 G16 := addE_ok okF1d ok51
theorem ok52 : ∀ args pres res, sFit args = some (pres, res) → SpecOK Tryd.prog G16 35 args pres res := by
  intro args pres res h
  unfold sFit at h
  split at h
  case h_2 => cases h
  cases h
  exact mk okF1 Tryd.func35 (by kernel_rfl) (by kernel_rfl) (fun hp K hK => f52_ev _ _ (hp _ (by simp)) (hp _ (by simp)) K hK)
theorem ok14 : ∀ args pres res, sEqual args = some (pres, res) → SpecOK Tryd.prog G16 19 args pres res := by
  intro args pres res h
  unfold sEqual blkS at h
  split at h
  case h_2 => cases h
  try dsimp only at h
  split at h
  case h_2 => cases h
  try dsimp only at h
  split at h
  case h_2 => cases h
  cases h
  exact mk okF1 Tryd.func19 (by kernel_rfl) (by kernel_rfl) (fun hp K hK => f14_ev _ _ _ _ _ _ _ _ _ _ _ _ _ _ (hp _ (by simp)) (hp _ (by simp)) K hK)
theorem okF2 : EOK Tryd.prog F2 G16 := addE_ok (addE_ok okF1 ok52) ok14
theorem okF3 : EOK Tryd.prog F3 G16 := okF2
theorem okF4 : EOK Tryd.prog F4 G16 := okF3
end PF
namespace PF
open Go Go.AE Go.Proofs PE
def alwU (c : Int) : Bool := c == (43 : Int) || c == (45 : Int) || decide (c ≥ (48 : Int)) && decide (c ≤ (57 : Int)) || decide (c ≥ (65 : Int)) && decide (c ≤ (90 : Int)) || decide (c ≥ (97 : Int)) && decide (c ≤ (122 : Int))
def lateU (f : Int) : Bool := decide (f < (0 : Int)) || decide (f > (86400 : Int))
def extU (h : Bool) (f g : Int) : Bool := h && (lateU f || lateU g)
def sAlw : List AV → Option (List Prop × List AV)
  | [.imm (.int .u8 c)] => some ([], [bo (alwU c)])
  | _ => none
def rdC (a b c d e f : Int) : List AV := [i64 a, i64 b, i64 c, i64 d, i64 e, i64 f]
def ruC (s : List UInt8) (o : Int) (h : Bool) (t : List UInt8) (p : Int) (x y : List AV) : List AV := [.imm (.str s), i64 o, bo h, .imm (.str t), i64 p] ++ (x ++ y)
def sExt : List AV → Option (List Prop × List AV)
  | [.agg [.imm (.str s), .imm (.int .i64 o), .imm (.bool h), .imm (.str t), .imm (.int .i64 p), .imm (.int .i64 a), .imm (.int .i64 b), .imm (.int .i64 c), .imm (.int .i64 d), .imm (.int .i64 e), .imm (.int .i64 f), .imm (.int .i64 a'), .imm (.int .i64 b'), .imm (.int .i64 c'), .imm (.int .i64 d'), .imm (.int .i64 e'), .imm (.int .i64 f')]] => some ([], [bo (extU h f f')])
  | _ => none
noncomputable def F11 := F4
noncomputable def LX : Cx := ⟨Tryd.prog, F11, noCall, G16, 4009⟩
noncomputable def F12 := addE F11 75 sAlw
noncomputable def F13 := F12
end PF
set_option maxRecDepth 100000
namespace PF
open Go Go.AE Go.Proofs PE
attribute [local irreducible] loopK evCode evSpec loopB norm
theorem g112_in (c : Int) (K : List AV → Prop) : evSpec LX Tryd.f75 [.imm (.int .u8 c)] K = (K [bo (c == 43 || c == 45 || decide (c ≥ 48) && decide (c ≤ 57) || decide (c ≥ 65) && decide (c ≤ 90) || decide (c ≥ 97) && decide (c ≤ 122))]) := by kernel_rfl
theorem okF11 : EOK Tryd.prog F11 G16 := okF4
theorem ok112e : ∀ args pres res, sAlw args = some (pres, res) → SpecOK Tryd.prog G16 75 args pres res := by
  intro args pres res h
  unfold sAlw at h
  split at h
  case h_2 => cases h
  cases h
  exact spec_ok (C := LX) okF11 noCall_ok Tryd.func75 (by kernel_rfl) (by kernel_rfl) (fun hp => Eq.mpr (g112_in _ _) rfl)
theorem okF12 : EOK Tryd.prog F12 G16 := addE_ok okF11 ok112e
theorem okF13 : EOK Tryd.prog F13 G16 := okF12
theorem okB_zero : okB [] [] [] [] [] [] [] := by
  refine ⟨⟨rfl, fun t ht => by cases ht⟩, ⟨rfl, fun t ht => by cases ht⟩, ?_⟩
  decide
end PF
