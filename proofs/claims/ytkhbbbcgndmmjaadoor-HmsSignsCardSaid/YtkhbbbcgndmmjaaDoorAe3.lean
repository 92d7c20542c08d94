/- HmsSigns: for every number of seconds and byte the law returns true and changes no argument; the package variables listed hold what the program's text lays in them (tied by the card). -/
import Derived.Test.YtkhbbbcgndmmjaaDoorAe2
import Derived.KernelRfl
import Derived.Test.YtkhbbbcgndmmjaaDoorRows
import Derived.Test.YtkhbbbcgndmmjaaDoorTie
import Derived.Test.YtkhbbbcgndmmjaaDoorCards
import Derived.ProofKit
import Derived.LaidMore
import Derived.Stop.LaidErr
import Derived.Lib.LaidTab
import Derived.OpenShut
import Derived.Stop.Joined
import Derived.SevenTiedAt
set_option linter.all false
set_option maxRecDepth 100000
namespace Z08
open Go Go.AE Go.Proofs
attribute [local irreducible] loopK evCode evSpec loopB norm

theorem ok10 : ∀ args pres res, sParse args = some (pres, res) → SpecOK Tryd.prog G8 10 args pres res := by
  intro args pres res h
  unfold sParse at h
  split at h
  case h_2 => cases h
  cases h
  rename_i s
  refine mk okE3 at10 (by decide) rfl (fun hp K hK => ?_)
  have h0 := hp _ (List.mem_cons_self ..)
  unfold big at h0
  have hs : s.length ≤ 9223372036854775000 := by omega
  rw [show cx E3 = C3 from rfl, f10_in]
  refine ⟨fun h => by omega, fun h => by simpa using h, fun _ _ => by omega, fun h _ => by simpa using h, brn_intro (fun h => ?_) (fun h => ?_)⟩
  · refine f10_loop s hs 1 ?_ _ (by kernel_rfl) K hK
    cases s with
    | nil => simp at h
    | cons b r =>
      simp only [off]
      simp only [List.getD_cons_zero, Bool.and_eq_true, Bool.or_eq_true, beq_iff_eq, Int.toNat_zero] at h
      rw [if_pos]
      rcases h.2 with h | h
      · exact Or.inr (UInt8.toNat_inj.1 (by show b.toNat = 43; omega))
      · exact Or.inl (UInt8.toNat_inj.1 (by show b.toNat = 45; omega))
  · refine f10_loop s hs 0 ?_ _ (by kernel_rfl) K hK
    cases s with
    | nil => rfl
    | cons b r =>
      simp only [off]
      rw [if_neg]
      intro hb
      have : (decide (((b :: r).length : Int) > 0) && (((b.toNat : Int) == 43) || ((b.toNat : Int) == 45))) = true := by
        rcases hb with rfl | rfl <;> simp <;> omega
      have h' : (decide (((b :: r).length : Int) > 0) && (((b.toNat : Int) == 43) || ((b.toNat : Int) == 45))) = false := h
      rw [this] at h'
      cases h'
theorem pfx1 (s : List UInt8) (c : UInt8) : pfx s [c] = true ↔ ∃ r, s = c :: r := by
  unfold pfx
  cases s with
  | nil => simp
  | cons b r =>
    simp only [List.isPrefixOf_cons₂, List.isPrefixOf_nil_left, Bool.and_true, beq_iff_eq, List.cons.injEq, exists_eq_right']
    exact eq_comm
theorem hours_le (s : List UInt8) (i : Nat) (hi : i ≤ s.length) (h : (hoursP s i).2.2 = true) : ∃ n : Nat, (hoursP s i).2.1 = (n : Int) ∧ n ≤ s.length ∧ i < n ∧ 0 ≤ (hoursP s i).1 ∧ (hoursP s i).1 ≤ 167 := by
  have hrl := run_le (s.drop i)
  have hdl : (s.drop i).length = s.length - i := List.length_drop
  rcases hours_of s i with ⟨e, _⟩ | ⟨h3, e⟩
  · rw [e] at h; cases h
  · rw [e] at h ⊢
    simp only [Bool.and_eq_true, decide_eq_true_eq] at h
    exact ⟨i + (runD (s.drop i)).length, rfl, by omega, by omega, by show (0 : Int) ≤ _; omega, by show (_ : Int) ≤ 167; omega⟩
theorem fields_b (s : List UInt8) (i : Nat) (hi : i ≤ s.length) : 0 ≤ (fieldsP s i).1 ∧ (fieldsP s i).1 < 3600 ∧ ∃ n : Nat, (fieldsP s i).2 = (n : Int) ∧ i ≤ n ∧ n ≤ s.length := by
  rcases fieldsP_of s i hi with ⟨_, e⟩ | ⟨m, hm, _, hl, ⟨_, e⟩ | ⟨c, hc, _, hl2, e⟩⟩
  · rw [e]; exact ⟨by show (0 : Int) ≤ 0; omega, by show (0 : Int) < 3600; omega, i, rfl, by omega, hi⟩
  · rw [e]; exact ⟨by show (0 : Int) ≤ _; omega, by show (_ : Int) < 3600; omega, i + 3, rfl, by omega, hl⟩
  · rw [e]; exact ⟨by show (0 : Int) ≤ _; omega, by show (_ : Int) < 3600; omega, i + 6, rfl, by omega, hl2⟩
theorem f9_tail (s : List UInt8) (hs : (s.length : Int) ≤ big) (g : Int) (i : Nat) (hi : i = off s) (hg : g = sgn s) (K : List AV → Prop) (hK : K [i64 (parse s).1, i64 (parse s).2.1, bo (parse s).2.2]) :
    brn (!(hoursP s i).2.2) (K [i64 0, i64 0, bo false])
      ((0 : Int) ≤ (hoursP s i).2.1 ∧ (hoursP s i).2.1 ≤ (s.length : Int) ∧ (s.length : Int) ≤ big ∧
        K [i64 (IntKind.wrap .i64 (g * IntKind.wrap .i64 (IntKind.wrap .i64 ((hoursP s i).1 * 3600) + (fieldsP s (hoursP s i).2.1.toNat).1))), i64 (fieldsP s (hoursP s i).2.1.toNat).2, bo true]) := by
  subst hi
  have hil := off_le_len s
  unfold parse at hK
  refine brn_intro (fun h => ?_) (fun h => ?_)
  · have h' : (hoursP s (off s)).2.2 = false := by simpa using h
    rw [if_neg (by rw [h']; simp)] at hK
    exact hK
  · have h' : (hoursP s (off s)).2.2 = true := by simpa using h
    rw [if_pos h'] at hK
    obtain ⟨n, e, hn, hin, b0, b1⟩ := hours_le s (off s) hil h'
    obtain ⟨c0, c1, _⟩ := fields_b s n hn
    rw [e, Int.toNat_natCast] at hK ⊢
    refine ⟨by omega, by omega, hs, ?_⟩
    have w : IntKind.wrap .i64 (g * IntKind.wrap .i64 (IntKind.wrap .i64 ((hoursP s (off s)).1 * 3600) + (fieldsP s n).1)) = sgn s * ((hoursP s (off s)).1 * 3600 + (fieldsP s n).1) := by
      rw [wrap64 (n := (hoursP s (off s)).1 * 3600) (by omega) (by omega), wrap64 (n := (hoursP s (off s)).1 * 3600 + (fieldsP s n).1) (by omega) (by omega), hg]
      have : sgn s = 1 ∨ sgn s = -1 := by
        unfold sgn
        split
        · split
          · exact Or.inr rfl
          · exact Or.inl rfl
        · exact Or.inl rfl
      rcases this with h | h <;> rw [h] <;> rw [wrap64 (by omega) (by omega)]
    rw [w]
    exact hK
theorem ok9 : ∀ args pres res, sParse args = some (pres, res) → SpecOK Tryd.prog G8 9 args pres res := by
  intro args pres res h
  unfold sParse at h
  split at h
  case h_2 => cases h
  cases h
  rename_i s
  refine mk okE3 at9 (by decide) rfl (fun hp K hK => ?_)
  have h0 := hp _ (List.mem_cons_self ..)
  rw [show cx E3 = C3 from rfl, f9_in]
  refine brn_intro (fun h => ?_) (fun h => ?_)
  · have hc : ∃ c r, s = c :: r ∧ (c = 45 ∨ c = 43) := by
      rw [Bool.or_eq_true, pfx1, pfx1] at h
      rcases h with ⟨r, rfl⟩ | ⟨r, rfl⟩
      · exact ⟨_, _, rfl, Or.inl rfl⟩
      · exact ⟨_, _, rfl, Or.inr rfl⟩
    obtain ⟨c, r, rfl, hc⟩ := hc
    have ho : off (c :: r) = 1 := by simp only [off]; rw [if_pos hc]
    refine ⟨by omega, by simp, brn_intro (fun hb => ?_) (fun hb => ?_)⟩
    · have : c = 45 := by
        have : (c.toNat : Int) = 45 := by simpa using hb
        exact UInt8.toNat_inj.1 (by show c.toNat = 45; omega)
      subst this
      exact ⟨by decide, by decide, h0, f9_tail _ h0 (-1) 1 ho.symm rfl K hK⟩
    · have : c ≠ 45 := by rintro rfl; simp at hb
      have hg : sgn (c :: r) = 1 := by simp only [sgn]; rw [if_neg this]
      exact ⟨by decide, by decide, h0, f9_tail _ h0 1 1 ho.symm hg.symm K hK⟩
  · have hx : off s = 0 ∧ sgn s = 1 := by
      rw [Bool.or_eq_false_iff] at h
      cases s with
      | nil => exact ⟨rfl, rfl⟩
      | cons c r =>
        have h1 : c ≠ 45 := by rintro rfl; simp [pfx] at h
        have h2 : c ≠ 43 := by rintro rfl; simp [pfx] at h
        simp only [off, sgn]
        rw [if_neg (by simp [h1, h2]), if_neg h1]
        exact ⟨rfl, rfl⟩
    exact ⟨by decide, by decide, h0, f9_tail _ h0 1 0 hx.1.symm hx.2.symm K hK⟩
theorem two_len (n : Nat) : (two n).length = 3 := rfl
theorem dd_len (n : Nat) : 1 ≤ (dd n).length ∧ (dd n).length ≤ 3 := by unfold dd; split <;> (try split) <;> simp
end Z08

set_option maxRecDepth 100000
namespace Z08
open Go Go.AE Go.Proofs
attribute [local irreducible] loopK evCode evSpec loopB norm
theorem f14_b (n : Int) (t : Nat →
  AV) (k : AX → St → Prop) : evCode C3 (c14 [Dir.r, Dir.r, Dir.l]) (S14 n [] AV.dead t) k =
  (brn (decide (n < (0 : Int)))
  (k AX.normal
    (St.mk
      [AV.imm (IV.int IntKind.i64 (IntKind.wrap IntKind.i64 ((0 : Int) - n))), AV.dead, AV.imm (IV.str []),
        AV.imm (IV.str [(45 : UInt8)]), AV.dead, AV.imm (IV.int IntKind.i64 n),
        AV.imm (IV.bool (decide (n < (0 : Int)))), AV.imm (IV.int IntKind.i64 n),
        AV.imm (IV.int IntKind.i64 (IntKind.wrap IntKind.i64 ((0 : Int) - n))), t (9 : Nat), t (10 : Nat), t (11 : Nat),
        t (12 : Nat), t (13 : Nat), t (14 : Nat), t (15 : Nat), t (16 : Nat), t (17 : Nat), t (18 : Nat), t (19 : Nat),
        t (20 : Nat), t (21 : Nat), t (22 : Nat), t (23 : Nat), t (24 : Nat), t (25 : Nat), t (26 : Nat), t (27 : Nat),
        t (28 : Nat), t (29 : Nat), t (30 : Nat), t (31 : Nat), t (32 : Nat), t (33 : Nat), t (34 : Nat), t (35 : Nat),
        t (36 : Nat), t (37 : Nat), t (38 : Nat), t (39 : Nat), t (40 : Nat), t (41 : Nat), t (42 : Nat), t (43 : Nat),
        t (44 : Nat), t (45 : Nat), t (46 : Nat), t (47 : Nat), t (48 : Nat), t (49 : Nat), t (50 : Nat), t (51 : Nat),
        t (52 : Nat), t (53 : Nat)]
      [] (0 : Nat) []))
  (k AX.normal
    (St.mk
      [AV.imm (IV.int IntKind.i64 n), AV.dead, AV.imm (IV.str []), AV.imm (IV.str []), AV.dead,
        AV.imm (IV.int IntKind.i64 n), AV.imm (IV.bool (decide (n < (0 : Int)))), t (7 : Nat), t (8 : Nat), t (9 : Nat),
        t (10 : Nat), t (11 : Nat), t (12 : Nat), t (13 : Nat), t (14 : Nat), t (15 : Nat), t (16 : Nat), t (17 : Nat),
        t (18 : Nat), t (19 : Nat), t (20 : Nat), t (21 : Nat), t (22 : Nat), t (23 : Nat), t (24 : Nat), t (25 : Nat),
        t (26 : Nat), t (27 : Nat), t (28 : Nat), t (29 : Nat), t (30 : Nat), t (31 : Nat), t (32 : Nat), t (33 : Nat),
        t (34 : Nat), t (35 : Nat), t (36 : Nat), t (37 : Nat), t (38 : Nat), t (39 : Nat), t (40 : Nat), t (41 : Nat),
        t (42 : Nat), t (43 : Nat), t (44 : Nat), t (45 : Nat), t (46 : Nat), t (47 : Nat), t (48 : Nat), t (49 : Nat),
        t (50 : Nat), t (51 : Nat), t (52 : Nat), t (53 : Nat)]
      [] (0 : Nat) []))) := by kernel_rfl
theorem f14_a (n : Int) (s : List UInt8) (t : Nat → AV) (k : AX → St → Prop) : evCode C3 a14 (S14 n s AV.dead t) k =
  ((3600 : Int) ≠ (0 : Int) ∧
  brn (decide (IntKind.wrap IntKind.i64 (Int.tdiv n (3600 : Int)) ≥ (100 : Int)))
    (List.length s + List.length [(49 : UInt8)] ≤ (9223372036854775807 : Nat) ∧
      brn (decide (IntKind.wrap IntKind.i64 (Int.tdiv n (3600 : Int)) ≥ (10 : Int)))
        ((10 : Int) ≠ (0 : Int) ∧
          (10 : Int) ≠ (0 : Int) ∧
            List.length (s ++ [(49 : UInt8)]) +
                  List.length
                    (List.map u8
                      [IntKind.wrap IntKind.u8
                          (IntKind.wrap IntKind.i64
                            ((48 : Int) +
                              Int.tmod
                                (IntKind.wrap IntKind.i64
                                  (Int.tdiv (IntKind.wrap IntKind.i64 (Int.tdiv n (3600 : Int))) (10 : Int)))
                                (10 : Int)))]) ≤
                (9223372036854775807 : Nat) ∧
              (10 : Int) ≠ (0 : Int) ∧
                List.length
                        (s ++ [(49 : UInt8)] ++
                          List.map u8
                            [IntKind.wrap IntKind.u8
                                (IntKind.wrap IntKind.i64
                                  ((48 : Int) +
                                    Int.tmod
                                      (IntKind.wrap IntKind.i64
                                        (Int.tdiv (IntKind.wrap IntKind.i64 (Int.tdiv n (3600 : Int))) (10 : Int)))
                                      (10 : Int)))]) +
                      List.length
                        (List.map u8
                          [IntKind.wrap IntKind.u8
                              (IntKind.wrap IntKind.i64
                                ((48 : Int) +
                                  Int.tmod (IntKind.wrap IntKind.i64 (Int.tdiv n (3600 : Int))) (10 : Int)))]) ≤
                    (9223372036854775807 : Nat) ∧
                  k AX.normal
                    (St.mk
                      [AV.imm (IV.int IntKind.i64 n), AV.dead, AV.imm (IV.str []),
                        AV.imm
                          (IV.str
                            (s ++ [(49 : UInt8)] ++
                                List.map u8
                                  [IntKind.wrap IntKind.u8
                                      (IntKind.wrap IntKind.i64
                                        ((48 : Int) +
                                          Int.tmod
                                            (IntKind.wrap IntKind.i64
                                              (Int.tdiv (IntKind.wrap IntKind.i64 (Int.tdiv n (3600 : Int)))
                                                (10 : Int)))
                                            (10 : Int)))] ++
                              List.map u8
                                [IntKind.wrap IntKind.u8
                                    (IntKind.wrap IntKind.i64
                                      ((48 : Int) +
                                        Int.tmod (IntKind.wrap IntKind.i64 (Int.tdiv n (3600 : Int))) (10 : Int)))])),
                        AV.imm (IV.int IntKind.i64 (IntKind.wrap IntKind.i64 (Int.tdiv n (3600 : Int)))), t (5 : Nat),
                        t (6 : Nat), t (7 : Nat), t (8 : Nat), AV.imm (IV.int IntKind.i64 n),
                        AV.imm (IV.int IntKind.i64 (IntKind.wrap IntKind.i64 (Int.tdiv n (3600 : Int)))),
                        AV.imm (IV.int IntKind.i64 (IntKind.wrap IntKind.i64 (Int.tdiv n (3600 : Int)))),
                        AV.imm (IV.bool (decide (IntKind.wrap IntKind.i64 (Int.tdiv n (3600 : Int)) ≥ (100 : Int)))),
                        AV.imm (IV.str s), AV.imm (IV.str (s ++ [(49 : UInt8)])),
                        AV.imm (IV.int IntKind.i64 (IntKind.wrap IntKind.i64 (Int.tdiv n (3600 : Int)))),
                        AV.imm (IV.bool (decide (IntKind.wrap IntKind.i64 (Int.tdiv n (3600 : Int)) ≥ (10 : Int)))),
                        AV.imm (IV.str (s ++ [(49 : UInt8)])),
                        AV.imm (IV.int IntKind.i64 (IntKind.wrap IntKind.i64 (Int.tdiv n (3600 : Int)))),
                        AV.imm
                          (IV.int IntKind.i64
                            (IntKind.wrap IntKind.i64
                              (Int.tdiv (IntKind.wrap IntKind.i64 (Int.tdiv n (3600 : Int))) (10 : Int)))),
                        AV.imm
                          (IV.int IntKind.i64
                            (Int.tmod
                              (IntKind.wrap IntKind.i64
                                (Int.tdiv (IntKind.wrap IntKind.i64 (Int.tdiv n (3600 : Int))) (10 : Int)))
                              (10 : Int))),
                        AV.imm
                          (IV.int IntKind.i64
                            (IntKind.wrap IntKind.i64
                              ((48 : Int) +
                                Int.tmod
                                  (IntKind.wrap IntKind.i64
                                    (Int.tdiv (IntKind.wrap IntKind.i64 (Int.tdiv n (3600 : Int))) (10 : Int)))
                                  (10 : Int)))),
                        AV.imm
                          (IV.int IntKind.u8
                            (IntKind.wrap IntKind.u8
                              (IntKind.wrap IntKind.i64
                                ((48 : Int) +
                                  Int.tmod
                                    (IntKind.wrap IntKind.i64
                                      (Int.tdiv (IntKind.wrap IntKind.i64 (Int.tdiv n (3600 : Int))) (10 : Int)))
                                    (10 : Int))))),
                        AV.full
                          (IV.bytes
                            (List.map u8
                              [IntKind.wrap IntKind.u8
                                  (IntKind.wrap IntKind.i64
                                    ((48 : Int) +
                                      Int.tmod
                                        (IntKind.wrap IntKind.i64
                                          (Int.tdiv (IntKind.wrap IntKind.i64 (Int.tdiv n (3600 : Int))) (10 : Int)))
                                        (10 : Int)))])),
                        AV.imm
                          (IV.str
                            (List.map u8
                              [IntKind.wrap IntKind.u8
                                  (IntKind.wrap IntKind.i64
                                    ((48 : Int) +
                                      Int.tmod
                                        (IntKind.wrap IntKind.i64
                                          (Int.tdiv (IntKind.wrap IntKind.i64 (Int.tdiv n (3600 : Int))) (10 : Int)))
                                        (10 : Int)))])),
                        AV.imm
                          (IV.str
                            (s ++ [(49 : UInt8)] ++
                              List.map u8
                                [IntKind.wrap IntKind.u8
                                    (IntKind.wrap IntKind.i64
                                      ((48 : Int) +
                                        Int.tmod
                                          (IntKind.wrap IntKind.i64
                                            (Int.tdiv (IntKind.wrap IntKind.i64 (Int.tdiv n (3600 : Int))) (10 : Int)))
                                          (10 : Int)))])),
                        AV.imm
                          (IV.str
                            (s ++ [(49 : UInt8)] ++
                              List.map u8
                                [IntKind.wrap IntKind.u8
                                    (IntKind.wrap IntKind.i64
                                      ((48 : Int) +
                                        Int.tmod
                                          (IntKind.wrap IntKind.i64
                                            (Int.tdiv (IntKind.wrap IntKind.i64 (Int.tdiv n (3600 : Int))) (10 : Int)))
                                          (10 : Int)))])),
                        AV.imm (IV.int IntKind.i64 (IntKind.wrap IntKind.i64 (Int.tdiv n (3600 : Int)))),
                        AV.imm
                          (IV.int IntKind.i64
                            (Int.tmod (IntKind.wrap IntKind.i64 (Int.tdiv n (3600 : Int))) (10 : Int))),
                        AV.imm
                          (IV.int IntKind.i64
                            (IntKind.wrap IntKind.i64
                              ((48 : Int) + Int.tmod (IntKind.wrap IntKind.i64 (Int.tdiv n (3600 : Int))) (10 : Int)))),
                        AV.imm
                          (IV.int IntKind.u8
                            (IntKind.wrap IntKind.u8
                              (IntKind.wrap IntKind.i64
                                ((48 : Int) +
                                  Int.tmod (IntKind.wrap IntKind.i64 (Int.tdiv n (3600 : Int))) (10 : Int))))),
                        AV.full
                          (IV.bytes
                            (List.map u8
                              [IntKind.wrap IntKind.u8
                                  (IntKind.wrap IntKind.i64
                                    ((48 : Int) +
                                      Int.tmod (IntKind.wrap IntKind.i64 (Int.tdiv n (3600 : Int))) (10 : Int)))])),
                        AV.imm
                          (IV.str
                            (List.map u8
                              [IntKind.wrap IntKind.u8
                                  (IntKind.wrap IntKind.i64
                                    ((48 : Int) +
                                      Int.tmod (IntKind.wrap IntKind.i64 (Int.tdiv n (3600 : Int))) (10 : Int)))])),
                        AV.imm
                          (IV.str
                            (s ++ [(49 : UInt8)] ++
                                List.map u8
                                  [IntKind.wrap IntKind.u8
                                      (IntKind.wrap IntKind.i64
                                        ((48 : Int) +
                                          Int.tmod
                                            (IntKind.wrap IntKind.i64
                                              (Int.tdiv (IntKind.wrap IntKind.i64 (Int.tdiv n (3600 : Int)))
                                                (10 : Int)))
                                            (10 : Int)))] ++
                              List.map u8
                                [IntKind.wrap IntKind.u8
                                    (IntKind.wrap IntKind.i64
                                      ((48 : Int) +
                                        Int.tmod (IntKind.wrap IntKind.i64 (Int.tdiv n (3600 : Int))) (10 : Int)))])),
                        t (34 : Nat), t (35 : Nat), t (36 : Nat), t (37 : Nat), t (38 : Nat), t (39 : Nat),
                        t (40 : Nat), t (41 : Nat), t (42 : Nat), t (43 : Nat), t (44 : Nat), t (45 : Nat),
                        t (46 : Nat), t (47 : Nat), t (48 : Nat), t (49 : Nat), t (50 : Nat), t (51 : Nat),
                        t (52 : Nat), t (53 : Nat)]
                      [] (0 : Nat) []))
        ((10 : Int) ≠ (0 : Int) ∧
          List.length (s ++ [(49 : UInt8)]) +
                List.length
                  (List.map u8
                    [IntKind.wrap IntKind.u8
                        (IntKind.wrap IntKind.i64
                          ((48 : Int) + Int.tmod (IntKind.wrap IntKind.i64 (Int.tdiv n (3600 : Int))) (10 : Int)))]) ≤
              (9223372036854775807 : Nat) ∧
            k AX.normal
              (St.mk
                [AV.imm (IV.int IntKind.i64 n), AV.dead, AV.imm (IV.str []),
                  AV.imm
                    (IV.str
                      (s ++ [(49 : UInt8)] ++
                        List.map u8
                          [IntKind.wrap IntKind.u8
                              (IntKind.wrap IntKind.i64
                                ((48 : Int) +
                                  Int.tmod (IntKind.wrap IntKind.i64 (Int.tdiv n (3600 : Int))) (10 : Int)))])),
                  AV.imm (IV.int IntKind.i64 (IntKind.wrap IntKind.i64 (Int.tdiv n (3600 : Int)))), t (5 : Nat),
                  t (6 : Nat), t (7 : Nat), t (8 : Nat), AV.imm (IV.int IntKind.i64 n),
                  AV.imm (IV.int IntKind.i64 (IntKind.wrap IntKind.i64 (Int.tdiv n (3600 : Int)))),
                  AV.imm (IV.int IntKind.i64 (IntKind.wrap IntKind.i64 (Int.tdiv n (3600 : Int)))),
                  AV.imm (IV.bool (decide (IntKind.wrap IntKind.i64 (Int.tdiv n (3600 : Int)) ≥ (100 : Int)))),
                  AV.imm (IV.str s), AV.imm (IV.str (s ++ [(49 : UInt8)])),
                  AV.imm (IV.int IntKind.i64 (IntKind.wrap IntKind.i64 (Int.tdiv n (3600 : Int)))),
                  AV.imm (IV.bool (decide (IntKind.wrap IntKind.i64 (Int.tdiv n (3600 : Int)) ≥ (10 : Int)))),
                  t (17 : Nat), t (18 : Nat), t (19 : Nat), t (20 : Nat), t (21 : Nat), t (22 : Nat), t (23 : Nat),
                  t (24 : Nat), t (25 : Nat), AV.imm (IV.str (s ++ [(49 : UInt8)])),
                  AV.imm (IV.int IntKind.i64 (IntKind.wrap IntKind.i64 (Int.tdiv n (3600 : Int)))),
                  AV.imm
                    (IV.int IntKind.i64 (Int.tmod (IntKind.wrap IntKind.i64 (Int.tdiv n (3600 : Int))) (10 : Int))),
                  AV.imm
                    (IV.int IntKind.i64
                      (IntKind.wrap IntKind.i64
                        ((48 : Int) + Int.tmod (IntKind.wrap IntKind.i64 (Int.tdiv n (3600 : Int))) (10 : Int)))),
                  AV.imm
                    (IV.int IntKind.u8
                      (IntKind.wrap IntKind.u8
                        (IntKind.wrap IntKind.i64
                          ((48 : Int) + Int.tmod (IntKind.wrap IntKind.i64 (Int.tdiv n (3600 : Int))) (10 : Int))))),
                  AV.full
                    (IV.bytes
                      (List.map u8
                        [IntKind.wrap IntKind.u8
                            (IntKind.wrap IntKind.i64
                              ((48 : Int) +
                                Int.tmod (IntKind.wrap IntKind.i64 (Int.tdiv n (3600 : Int))) (10 : Int)))])),
                  AV.imm
                    (IV.str
                      (List.map u8
                        [IntKind.wrap IntKind.u8
                            (IntKind.wrap IntKind.i64
                              ((48 : Int) +
                                Int.tmod (IntKind.wrap IntKind.i64 (Int.tdiv n (3600 : Int))) (10 : Int)))])),
                  AV.imm
                    (IV.str
                      (s ++ [(49 : UInt8)] ++
                        List.map u8
                          [IntKind.wrap IntKind.u8
                              (IntKind.wrap IntKind.i64
                                ((48 : Int) +
                                  Int.tmod (IntKind.wrap IntKind.i64 (Int.tdiv n (3600 : Int))) (10 : Int)))])),
                  t (34 : Nat), t (35 : Nat), t (36 : Nat), t (37 : Nat), t (38 : Nat), t (39 : Nat), t (40 : Nat),
                  t (41 : Nat), t (42 : Nat), t (43 : Nat), t (44 : Nat), t (45 : Nat), t (46 : Nat), t (47 : Nat),
                  t (48 : Nat), t (49 : Nat), t (50 : Nat), t (51 : Nat), t (52 : Nat), t (53 : Nat)]
                [] (0 : Nat) [])))
    (brn (decide (IntKind.wrap IntKind.i64 (Int.tdiv n (3600 : Int)) ≥ (10 : Int)))
      ((10 : Int) ≠ (0 : Int) ∧
        (10 : Int) ≠ (0 : Int) ∧
          List.length s +
                List.length
                  (List.map u8
                    [IntKind.wrap IntKind.u8
                        (IntKind.wrap IntKind.i64
                          ((48 : Int) +
                            Int.tmod
                              (IntKind.wrap IntKind.i64
                                (Int.tdiv (IntKind.wrap IntKind.i64 (Int.tdiv n (3600 : Int))) (10 : Int)))
                              (10 : Int)))]) ≤
              (9223372036854775807 : Nat) ∧
            (10 : Int) ≠ (0 : Int) ∧
              List.length
                      (s ++
                        List.map u8
                          [IntKind.wrap IntKind.u8
                              (IntKind.wrap IntKind.i64
                                ((48 : Int) +
                                  Int.tmod
                                    (IntKind.wrap IntKind.i64
                                      (Int.tdiv (IntKind.wrap IntKind.i64 (Int.tdiv n (3600 : Int))) (10 : Int)))
                                    (10 : Int)))]) +
                    List.length
                      (List.map u8
                        [IntKind.wrap IntKind.u8
                            (IntKind.wrap IntKind.i64
                              ((48 : Int) +
                                Int.tmod (IntKind.wrap IntKind.i64 (Int.tdiv n (3600 : Int))) (10 : Int)))]) ≤
                  (9223372036854775807 : Nat) ∧
                k AX.normal
                  (St.mk
                    [AV.imm (IV.int IntKind.i64 n), AV.dead, AV.imm (IV.str []),
                      AV.imm
                        (IV.str
                          (s ++
                              List.map u8
                                [IntKind.wrap IntKind.u8
                                    (IntKind.wrap IntKind.i64
                                      ((48 : Int) +
                                        Int.tmod
                                          (IntKind.wrap IntKind.i64
                                            (Int.tdiv (IntKind.wrap IntKind.i64 (Int.tdiv n (3600 : Int))) (10 : Int)))
                                          (10 : Int)))] ++
                            List.map u8
                              [IntKind.wrap IntKind.u8
                                  (IntKind.wrap IntKind.i64
                                    ((48 : Int) +
                                      Int.tmod (IntKind.wrap IntKind.i64 (Int.tdiv n (3600 : Int))) (10 : Int)))])),
                      AV.imm (IV.int IntKind.i64 (IntKind.wrap IntKind.i64 (Int.tdiv n (3600 : Int)))), t (5 : Nat),
                      t (6 : Nat), t (7 : Nat), t (8 : Nat), AV.imm (IV.int IntKind.i64 n),
                      AV.imm (IV.int IntKind.i64 (IntKind.wrap IntKind.i64 (Int.tdiv n (3600 : Int)))),
                      AV.imm (IV.int IntKind.i64 (IntKind.wrap IntKind.i64 (Int.tdiv n (3600 : Int)))),
                      AV.imm (IV.bool (decide (IntKind.wrap IntKind.i64 (Int.tdiv n (3600 : Int)) ≥ (100 : Int)))),
                      t (13 : Nat), t (14 : Nat),
                      AV.imm (IV.int IntKind.i64 (IntKind.wrap IntKind.i64 (Int.tdiv n (3600 : Int)))),
                      AV.imm (IV.bool (decide (IntKind.wrap IntKind.i64 (Int.tdiv n (3600 : Int)) ≥ (10 : Int)))),
                      AV.imm (IV.str s),
                      AV.imm (IV.int IntKind.i64 (IntKind.wrap IntKind.i64 (Int.tdiv n (3600 : Int)))),
                      AV.imm
                        (IV.int IntKind.i64
                          (IntKind.wrap IntKind.i64
                            (Int.tdiv (IntKind.wrap IntKind.i64 (Int.tdiv n (3600 : Int))) (10 : Int)))),
                      AV.imm
                        (IV.int IntKind.i64
                          (Int.tmod
                            (IntKind.wrap IntKind.i64
                              (Int.tdiv (IntKind.wrap IntKind.i64 (Int.tdiv n (3600 : Int))) (10 : Int)))
                            (10 : Int))),
                      AV.imm
                        (IV.int IntKind.i64
                          (IntKind.wrap IntKind.i64
                            ((48 : Int) +
                              Int.tmod
                                (IntKind.wrap IntKind.i64
                                  (Int.tdiv (IntKind.wrap IntKind.i64 (Int.tdiv n (3600 : Int))) (10 : Int)))
                                (10 : Int)))),
                      AV.imm
                        (IV.int IntKind.u8
                          (IntKind.wrap IntKind.u8
                            (IntKind.wrap IntKind.i64
                              ((48 : Int) +
                                Int.tmod
                                  (IntKind.wrap IntKind.i64
                                    (Int.tdiv (IntKind.wrap IntKind.i64 (Int.tdiv n (3600 : Int))) (10 : Int)))
                                  (10 : Int))))),
                      AV.full
                        (IV.bytes
                          (List.map u8
                            [IntKind.wrap IntKind.u8
                                (IntKind.wrap IntKind.i64
                                  ((48 : Int) +
                                    Int.tmod
                                      (IntKind.wrap IntKind.i64
                                        (Int.tdiv (IntKind.wrap IntKind.i64 (Int.tdiv n (3600 : Int))) (10 : Int)))
                                      (10 : Int)))])),
                      AV.imm
                        (IV.str
                          (List.map u8
                            [IntKind.wrap IntKind.u8
                                (IntKind.wrap IntKind.i64
                                  ((48 : Int) +
                                    Int.tmod
                                      (IntKind.wrap IntKind.i64
                                        (Int.tdiv (IntKind.wrap IntKind.i64 (Int.tdiv n (3600 : Int))) (10 : Int)))
                                      (10 : Int)))])),
                      AV.imm
                        (IV.str
                          (s ++
                            List.map u8
                              [IntKind.wrap IntKind.u8
                                  (IntKind.wrap IntKind.i64
                                    ((48 : Int) +
                                      Int.tmod
                                        (IntKind.wrap IntKind.i64
                                          (Int.tdiv (IntKind.wrap IntKind.i64 (Int.tdiv n (3600 : Int))) (10 : Int)))
                                        (10 : Int)))])),
                      AV.imm
                        (IV.str
                          (s ++
                            List.map u8
                              [IntKind.wrap IntKind.u8
                                  (IntKind.wrap IntKind.i64
                                    ((48 : Int) +
                                      Int.tmod
                                        (IntKind.wrap IntKind.i64
                                          (Int.tdiv (IntKind.wrap IntKind.i64 (Int.tdiv n (3600 : Int))) (10 : Int)))
                                        (10 : Int)))])),
                      AV.imm (IV.int IntKind.i64 (IntKind.wrap IntKind.i64 (Int.tdiv n (3600 : Int)))),
                      AV.imm
                        (IV.int IntKind.i64 (Int.tmod (IntKind.wrap IntKind.i64 (Int.tdiv n (3600 : Int))) (10 : Int))),
                      AV.imm
                        (IV.int IntKind.i64
                          (IntKind.wrap IntKind.i64
                            ((48 : Int) + Int.tmod (IntKind.wrap IntKind.i64 (Int.tdiv n (3600 : Int))) (10 : Int)))),
                      AV.imm
                        (IV.int IntKind.u8
                          (IntKind.wrap IntKind.u8
                            (IntKind.wrap IntKind.i64
                              ((48 : Int) +
                                Int.tmod (IntKind.wrap IntKind.i64 (Int.tdiv n (3600 : Int))) (10 : Int))))),
                      AV.full
                        (IV.bytes
                          (List.map u8
                            [IntKind.wrap IntKind.u8
                                (IntKind.wrap IntKind.i64
                                  ((48 : Int) +
                                    Int.tmod (IntKind.wrap IntKind.i64 (Int.tdiv n (3600 : Int))) (10 : Int)))])),
                      AV.imm
                        (IV.str
                          (List.map u8
                            [IntKind.wrap IntKind.u8
                                (IntKind.wrap IntKind.i64
                                  ((48 : Int) +
                                    Int.tmod (IntKind.wrap IntKind.i64 (Int.tdiv n (3600 : Int))) (10 : Int)))])),
                      AV.imm
                        (IV.str
                          (s ++
                              List.map u8
                                [IntKind.wrap IntKind.u8
                                    (IntKind.wrap IntKind.i64
                                      ((48 : Int) +
                                        Int.tmod
                                          (IntKind.wrap IntKind.i64
                                            (Int.tdiv (IntKind.wrap IntKind.i64 (Int.tdiv n (3600 : Int))) (10 : Int)))
                                          (10 : Int)))] ++
                            List.map u8
                              [IntKind.wrap IntKind.u8
                                  (IntKind.wrap IntKind.i64
                                    ((48 : Int) +
                                      Int.tmod (IntKind.wrap IntKind.i64 (Int.tdiv n (3600 : Int))) (10 : Int)))])),
                      t (34 : Nat), t (35 : Nat), t (36 : Nat), t (37 : Nat), t (38 : Nat), t (39 : Nat), t (40 : Nat),
                      t (41 : Nat), t (42 : Nat), t (43 : Nat), t (44 : Nat), t (45 : Nat), t (46 : Nat), t (47 : Nat),
                      t (48 : Nat), t (49 : Nat), t (50 : Nat), t (51 : Nat), t (52 : Nat), t (53 : Nat)]
                    [] (0 : Nat) []))
      ((10 : Int) ≠ (0 : Int) ∧
        List.length s +
              List.length
                (List.map u8
                  [IntKind.wrap IntKind.u8
                      (IntKind.wrap IntKind.i64
                        ((48 : Int) + Int.tmod (IntKind.wrap IntKind.i64 (Int.tdiv n (3600 : Int))) (10 : Int)))]) ≤
            (9223372036854775807 : Nat) ∧
          k AX.normal
            (St.mk
              [AV.imm (IV.int IntKind.i64 n), AV.dead, AV.imm (IV.str []),
                AV.imm
                  (IV.str
                    (s ++
                      List.map u8
                        [IntKind.wrap IntKind.u8
                            (IntKind.wrap IntKind.i64
                              ((48 : Int) +
                                Int.tmod (IntKind.wrap IntKind.i64 (Int.tdiv n (3600 : Int))) (10 : Int)))])),
                AV.imm (IV.int IntKind.i64 (IntKind.wrap IntKind.i64 (Int.tdiv n (3600 : Int)))), t (5 : Nat),
                t (6 : Nat), t (7 : Nat), t (8 : Nat), AV.imm (IV.int IntKind.i64 n),
                AV.imm (IV.int IntKind.i64 (IntKind.wrap IntKind.i64 (Int.tdiv n (3600 : Int)))),
                AV.imm (IV.int IntKind.i64 (IntKind.wrap IntKind.i64 (Int.tdiv n (3600 : Int)))),
                AV.imm (IV.bool (decide (IntKind.wrap IntKind.i64 (Int.tdiv n (3600 : Int)) ≥ (100 : Int)))),
                t (13 : Nat), t (14 : Nat),
                AV.imm (IV.int IntKind.i64 (IntKind.wrap IntKind.i64 (Int.tdiv n (3600 : Int)))),
                AV.imm (IV.bool (decide (IntKind.wrap IntKind.i64 (Int.tdiv n (3600 : Int)) ≥ (10 : Int)))),
                t (17 : Nat), t (18 : Nat), t (19 : Nat), t (20 : Nat), t (21 : Nat), t (22 : Nat), t (23 : Nat),
                t (24 : Nat), t (25 : Nat), AV.imm (IV.str s),
                AV.imm (IV.int IntKind.i64 (IntKind.wrap IntKind.i64 (Int.tdiv n (3600 : Int)))),
                AV.imm (IV.int IntKind.i64 (Int.tmod (IntKind.wrap IntKind.i64 (Int.tdiv n (3600 : Int))) (10 : Int))),
                AV.imm
                  (IV.int IntKind.i64
                    (IntKind.wrap IntKind.i64
                      ((48 : Int) + Int.tmod (IntKind.wrap IntKind.i64 (Int.tdiv n (3600 : Int))) (10 : Int)))),
                AV.imm
                  (IV.int IntKind.u8
                    (IntKind.wrap IntKind.u8
                      (IntKind.wrap IntKind.i64
                        ((48 : Int) + Int.tmod (IntKind.wrap IntKind.i64 (Int.tdiv n (3600 : Int))) (10 : Int))))),
                AV.full
                  (IV.bytes
                    (List.map u8
                      [IntKind.wrap IntKind.u8
                          (IntKind.wrap IntKind.i64
                            ((48 : Int) + Int.tmod (IntKind.wrap IntKind.i64 (Int.tdiv n (3600 : Int))) (10 : Int)))])),
                AV.imm
                  (IV.str
                    (List.map u8
                      [IntKind.wrap IntKind.u8
                          (IntKind.wrap IntKind.i64
                            ((48 : Int) + Int.tmod (IntKind.wrap IntKind.i64 (Int.tdiv n (3600 : Int))) (10 : Int)))])),
                AV.imm
                  (IV.str
                    (s ++
                      List.map u8
                        [IntKind.wrap IntKind.u8
                            (IntKind.wrap IntKind.i64
                              ((48 : Int) +
                                Int.tmod (IntKind.wrap IntKind.i64 (Int.tdiv n (3600 : Int))) (10 : Int)))])),
                t (34 : Nat), t (35 : Nat), t (36 : Nat), t (37 : Nat), t (38 : Nat), t (39 : Nat), t (40 : Nat),
                t (41 : Nat), t (42 : Nat), t (43 : Nat), t (44 : Nat), t (45 : Nat), t (46 : Nat), t (47 : Nat),
                t (48 : Nat), t (49 : Nat), t (50 : Nat), t (51 : Nat), t (52 : Nat), t (53 : Nat)]
              [] (0 : Nat) [])))) := by kernel_rfl
theorem f14_c (n : Int) (s : List
  UInt8) (h : Int) (t : Nat →
  AV) (K : List AV →
  Prop) : evCode C3 (c14 [Dir.r, Dir.r, Dir.r, Dir.r, Dir.r, Dir.r, Dir.r]) (S14 n s (i64 h) t) (finK C3 Tryd.f14 K) =
  ((3600 : Int) ≠ (0 : Int) ∧
  brn (decide (Int.tmod n (3600 : Int) > (0 : Int)))
    (List.length s + List.length [(58 : UInt8)] ≤ (9223372036854775807 : Nat) ∧
      (60 : Int) ≠ (0 : Int) ∧
        (60 : Int) ≠ (0 : Int) ∧
          (0 : Int) ≤ Int.tmod (IntKind.wrap IntKind.i64 (Int.tdiv n (60 : Int))) (60 : Int) ∧
            Int.tmod (IntKind.wrap IntKind.i64 (Int.tdiv n (60 : Int))) (60 : Int) < (100 : Int) ∧
              List.length (s ++ [(58 : UInt8)]) +
                    List.length
                      [dg
                          (Int.toNat (Int.tmod (IntKind.wrap IntKind.i64 (Int.tdiv n (60 : Int))) (60 : Int)) /
                            (10 : Nat)),
                        dg
                          (Int.toNat (Int.tmod (IntKind.wrap IntKind.i64 (Int.tdiv n (60 : Int))) (60 : Int)) %
                            (10 : Nat))] ≤
                  (9223372036854775807 : Nat) ∧
                (60 : Int) ≠ (0 : Int) ∧
                  brn (decide (Int.tmod n (60 : Int) > (0 : Int)))
                    (List.length
                            (s ++ [(58 : UInt8)] ++
                              [dg
                                  (Int.toNat (Int.tmod (IntKind.wrap IntKind.i64 (Int.tdiv n (60 : Int))) (60 : Int)) /
                                    (10 : Nat)),
                                dg
                                  (Int.toNat (Int.tmod (IntKind.wrap IntKind.i64 (Int.tdiv n (60 : Int))) (60 : Int)) %
                                    (10 : Nat))]) +
                          List.length [(58 : UInt8)] ≤
                        (9223372036854775807 : Nat) ∧
                      (60 : Int) ≠ (0 : Int) ∧
                        (0 : Int) ≤ Int.tmod n (60 : Int) ∧
                          Int.tmod n (60 : Int) < (100 : Int) ∧
                            List.length
                                    (s ++ [(58 : UInt8)] ++
                                        [dg
                                            (Int.toNat
                                                (Int.tmod (IntKind.wrap IntKind.i64 (Int.tdiv n (60 : Int)))
                                                  (60 : Int)) /
                                              (10 : Nat)),
                                          dg
                                            (Int.toNat
                                                (Int.tmod (IntKind.wrap IntKind.i64 (Int.tdiv n (60 : Int)))
                                                  (60 : Int)) %
                                              (10 : Nat))] ++
                                      [(58 : UInt8)]) +
                                  List.length
                                    [dg (Int.toNat (Int.tmod n (60 : Int)) / (10 : Nat)),
                                      dg (Int.toNat (Int.tmod n (60 : Int)) % (10 : Nat))] ≤
                                (9223372036854775807 : Nat) ∧
                              K
                                [AV.imm
                                    (IV.str
                                      (s ++ [(58 : UInt8)] ++
                                            [dg
                                                (Int.toNat
                                                    (Int.tmod (IntKind.wrap IntKind.i64 (Int.tdiv n (60 : Int)))
                                                      (60 : Int)) /
                                                  (10 : Nat)),
                                              dg
                                                (Int.toNat
                                                    (Int.tmod (IntKind.wrap IntKind.i64 (Int.tdiv n (60 : Int)))
                                                      (60 : Int)) %
                                                  (10 : Nat))] ++
                                          [(58 : UInt8)] ++
                                        [dg (Int.toNat (Int.tmod n (60 : Int)) / (10 : Nat)),
                                          dg (Int.toNat (Int.tmod n (60 : Int)) % (10 : Nat))]))])
                    (K
                      [AV.imm
                          (IV.str
                            (s ++ [(58 : UInt8)] ++
                              [dg
                                  (Int.toNat (Int.tmod (IntKind.wrap IntKind.i64 (Int.tdiv n (60 : Int))) (60 : Int)) /
                                    (10 : Nat)),
                                dg
                                  (Int.toNat (Int.tmod (IntKind.wrap IntKind.i64 (Int.tdiv n (60 : Int))) (60 : Int)) %
                                    (10 : Nat))]))]))
    ((60 : Int) ≠ (0 : Int) ∧
      brn (decide (Int.tmod n (60 : Int) > (0 : Int)))
        (List.length s + List.length [(58 : UInt8)] ≤ (9223372036854775807 : Nat) ∧
          (60 : Int) ≠ (0 : Int) ∧
            (0 : Int) ≤ Int.tmod n (60 : Int) ∧
              Int.tmod n (60 : Int) < (100 : Int) ∧
                List.length (s ++ [(58 : UInt8)]) +
                      List.length
                        [dg (Int.toNat (Int.tmod n (60 : Int)) / (10 : Nat)),
                          dg (Int.toNat (Int.tmod n (60 : Int)) % (10 : Nat))] ≤
                    (9223372036854775807 : Nat) ∧
                  K
                    [AV.imm
                        (IV.str
                          (s ++ [(58 : UInt8)] ++
                            [dg (Int.toNat (Int.tmod n (60 : Int)) / (10 : Nat)),
                              dg (Int.toNat (Int.tmod n (60 : Int)) % (10 : Nat))]))])
        (K [AV.imm (IV.str s)]))) := by kernel_rfl
theorem f13_i (n : Int) (K : List AV → Prop) : evSpec C3 Tryd.f13 [AV.imm (IV.int IntKind.i64 n)] K =
  (brn (decide (n < (0 : Int))) False
  ((3600 : Int) ≠ (0 : Int) ∧
    (0 : Int) ≤ IntKind.wrap IntKind.i64 (Int.tdiv n (3600 : Int)) ∧
      IntKind.wrap IntKind.i64 (Int.tdiv n (3600 : Int)) < (1000 : Int) ∧
        (3600 : Int) ≠ (0 : Int) ∧
          brn (Int.tmod n (3600 : Int) != (0 : Int))
            ((3600 : Int) ≠ (0 : Int) ∧
              (60 : Int) ≠ (0 : Int) ∧
                (0 : Int) ≤ IntKind.wrap IntKind.i64 (Int.tdiv (Int.tmod n (3600 : Int)) (60 : Int)) ∧
                  IntKind.wrap IntKind.i64 (Int.tdiv (Int.tmod n (3600 : Int)) (60 : Int)) < (100 : Int) ∧
                    List.length (dd (Int.toNat (IntKind.wrap IntKind.i64 (Int.tdiv n (3600 : Int))))) +
                          List.length
                            (two
                              (Int.toNat (IntKind.wrap IntKind.i64 (Int.tdiv (Int.tmod n (3600 : Int)) (60 : Int))))) ≤
                        (9223372036854775807 : Nat) ∧
                      (60 : Int) ≠ (0 : Int) ∧
                        brn (Int.tmod n (60 : Int) != (0 : Int))
                          ((60 : Int) ≠ (0 : Int) ∧
                            (0 : Int) ≤ Int.tmod n (60 : Int) ∧
                              Int.tmod n (60 : Int) < (100 : Int) ∧
                                List.length
                                        (dd (Int.toNat (IntKind.wrap IntKind.i64 (Int.tdiv n (3600 : Int)))) ++
                                          two
                                            (Int.toNat
                                              (IntKind.wrap IntKind.i64
                                                (Int.tdiv (Int.tmod n (3600 : Int)) (60 : Int))))) +
                                      List.length (two (Int.toNat (Int.tmod n (60 : Int)))) ≤
                                    (9223372036854775807 : Nat) ∧
                                  K
                                    [AV.imm
                                        (IV.str
                                          (dd (Int.toNat (IntKind.wrap IntKind.i64 (Int.tdiv n (3600 : Int)))) ++
                                              two
                                                (Int.toNat
                                                  (IntKind.wrap IntKind.i64
                                                    (Int.tdiv (Int.tmod n (3600 : Int)) (60 : Int)))) ++
                                            two (Int.toNat (Int.tmod n (60 : Int)))))])
                          (K
                            [AV.imm
                                (IV.str
                                  (dd (Int.toNat (IntKind.wrap IntKind.i64 (Int.tdiv n (3600 : Int)))) ++
                                    two
                                      (Int.toNat
                                        (IntKind.wrap IntKind.i64 (Int.tdiv (Int.tmod n (3600 : Int)) (60 : Int))))))]))
            ((60 : Int) ≠ (0 : Int) ∧
              brn (Int.tmod n (60 : Int) != (0 : Int))
                ((60 : Int) ≠ (0 : Int) ∧
                  (0 : Int) ≤ Int.tmod n (60 : Int) ∧
                    Int.tmod n (60 : Int) < (100 : Int) ∧
                      List.length (dd (Int.toNat (IntKind.wrap IntKind.i64 (Int.tdiv n (3600 : Int))))) +
                            List.length (two (Int.toNat (Int.tmod n (60 : Int)))) ≤
                          (9223372036854775807 : Nat) ∧
                        K
                          [AV.imm
                              (IV.str
                                (dd (Int.toNat (IntKind.wrap IntKind.i64 (Int.tdiv n (3600 : Int)))) ++
                                  two (Int.toNat (Int.tmod n (60 : Int)))))])
                (K
                  [AV.imm
                      (IV.str
                        (dd (Int.toNat (IntKind.wrap IntKind.i64 (Int.tdiv n (3600 : Int))))))])))) := by kernel_rfl
end Z08

set_option maxRecDepth 100000
namespace Z08
open Go Go.AE Go.Proofs
attribute [local irreducible] loopK evCode evSpec loopB norm finK c14

theorem tdiv3600 (n : Nat) : Int.tdiv (n : Int) 3600 = ((n / 3600 : Nat) : Int) := by simp [Int.tdiv]
theorem tmod3600 (n : Nat) : Int.tmod (n : Int) 3600 = ((n % 3600 : Nat) : Int) := by simp [Int.tmod]
theorem tdiv60 (n : Nat) : Int.tdiv (n : Int) 60 = ((n / 60 : Nat) : Int) := by simp [Int.tdiv]
theorem tmod60 (n : Nat) : Int.tmod (n : Int) 60 = ((n % 60 : Nat) : Int) := by simp [Int.tmod]
theorem two_app (s : List UInt8) (n : Nat) : s ++ [58] ++ [dg (n / 10), dg (n % 10)] = s ++ two n := by simp [two]
def tl (N : Nat) : List UInt8 := (if N % 3600 = 0 then [] else two (N % 3600 / 60)) ++ (if N % 60 = 0 then [] else two (N % 60))
theorem fmtN_eq (N : Nat) : fmtN N = dd (N / 3600) ++ tl N := by unfold fmtN tl; rw [List.append_assoc]
theorem R7 (N : Nat) (hN : N ≤ 604799) (s : List UInt8) (hs : s.length ≤ 10) (h : Int) (st' : St) (hst : st' = S14 N s (i64 h) (fun j => nth .dead st'.tmps j)) (K : List AV → Prop) (hK : K [st (s ++ tl N)]) :
    evCode C3 (c14 [.r, .r, .r, .r, .r, .r, .r]) st' (finK C3 Tryd.f14 K) := by
  rw [hst]
  generalize (fun j => nth .dead st'.tmps j) = t
  rw [f14_c]
  have e1 : IntKind.wrap .i64 ((N / 60 : Nat) : Int) = ((N / 60 : Nat) : Int) := wrap64 (by omega) (by omega)
  simp only [tdiv60, tmod60, tmod3600, e1, Int.toNat_natCast]
  unfold tl at hK
  refine ⟨by decide, brn_intro (fun h1 => ?_) (fun h1 => ?_)⟩
  · have h1' : ¬ N % 3600 = 0 := by simp only [decide_eq_true_eq] at h1; omega
    rw [if_neg h1'] at hK
    refine ⟨by simp; omega, by decide, by decide, by omega, by omega, by simp; omega, by decide, brn_intro (fun h2 => ?_) (fun h2 => ?_)⟩
    · have h2' : ¬ N % 60 = 0 := by simp only [decide_eq_true_eq] at h2; omega
      rw [if_neg h2'] at hK
      refine ⟨by simp; omega, by decide, by omega, by omega, by simp; omega, ?_⟩
      rw [two_app, two_app, List.append_assoc, show N / 60 % 60 = N % 3600 / 60 by omega]
      exact hK
    · have h2' : N % 60 = 0 := by simp only [decide_eq_false_iff_not] at h2; omega
      rw [if_pos h2', List.append_nil] at hK
      rw [two_app, show N / 60 % 60 = N % 3600 / 60 by omega]
      exact hK
  · have h1' : N % 3600 = 0 := by simp only [decide_eq_false_iff_not] at h1; omega
    refine ⟨by decide, brn_intro (fun h2 => by simp only [decide_eq_true_eq] at h2; omega) (fun h2 => ?_)⟩
    have h2' : N % 60 = 0 := by omega
    rw [if_pos h1', if_pos h2', List.append_nil, List.append_nil] at hK
    exact hK
theorem R3 (N : Nat) (hN : N ≤ 604799) (s : List UInt8) (hs : s.length ≤ 1) (st' : St) (hst : st' = S14 N s .dead (fun j => nth .dead st'.tmps j)) (K : List AV → Prop) (hK : K [st (s ++ fmtN N)]) :
    evCode C3 (c14 [.r, .r, .r]) st' (finK C3 Tryd.f14 K) := by
  have cut : ∀ st', evCode C3 (c14 [.r, .r, .r]) st' (finK C3 Tryd.f14 K) = evCode C3 a14 st' (fun x st => match x with
    | .normal => evCode C3 (c14 [.r, .r, .r, .r, .r, .r, .r]) st (finK C3 Tryd.f14 K)
    | x => finK C3 Tryd.f14 K x st) := fun st' => by kernel_rfl
  rw [cut, hst]
  generalize (fun j => nth .dead st'.tmps j) = t
  rw [f14_a]
  rw [fmtN_eq, ← List.append_assoc] at hK
  have hH : N / 3600 ≤ 167 := by omega
  have e1 : IntKind.wrap .i64 ((N / 3600 : Nat) : Int) = ((N / 3600 : Nat) : Int) := wrap64 (by omega) (by omega)
  simp only [tdiv3600, e1]
  generalize N / 3600 = H at hH hK
  have e2 : IntKind.wrap .i64 ((H / 10 : Nat) : Int) = ((H / 10 : Nat) : Int) := wrap64 (by omega) (by omega)
  have e3 : IntKind.wrap .u8 (IntKind.wrap .i64 (48 + ((H / 10 % 10 : Nat) : Int))) = ((48 + H / 10 % 10 : Nat) : Int) := by
    rw [wrap64 (by omega) (by omega), wrap8 (by omega) (by omega)]; omega
  have e4 : IntKind.wrap .u8 (IntKind.wrap .i64 (48 + ((H % 10 : Nat) : Int))) = ((48 + H % 10 : Nat) : Int) := by
    rw [wrap64 (by omega) (by omega), wrap8 (by omega) (by omega)]; omega
  simp only [tdiv10, tmod10, e2, e3, e4, List.map_cons, List.map_nil, u8_dg (show H / 10 % 10 < 10 by omega), u8_dg (show H % 10 < 10 by omega)]
  unfold dd at hK
  refine ⟨by decide, brn_intro (fun h1 => ?_) (fun h1 => ?_)⟩
  · simp only [decide_eq_true_eq] at h1
    refine ⟨by simp; omega, brn_intro (fun h2 => ?_) (fun h2 => ?_)⟩
    · refine ⟨by decide, by decide, by simp; omega, by decide, by simp; omega, ?_⟩
      rw [if_neg (by omega), if_neg (by omega)] at hK
      refine R7 N hN (s ++ [49] ++ [dg (H / 10 % 10)] ++ [dg (H % 10)]) (by simp; omega) (H : Int) _ (by kernel_rfl) K ?_
      have : H / 100 = 1 := by omega
      rw [this] at hK
      simpa [dg] using hK
    · simp only [decide_eq_false_iff_not] at h2; omega
  · simp only [decide_eq_false_iff_not] at h1
    refine brn_intro (fun h2 => ?_) (fun h2 => ?_)
    · simp only [decide_eq_true_eq] at h2
      refine ⟨by decide, by decide, by simp; omega, by decide, by simp; omega, ?_⟩
      rw [if_neg (by omega), if_pos (by omega)] at hK
      refine R7 N hN (s ++ [dg (H / 10 % 10)] ++ [dg (H % 10)]) (by simp; omega) (H : Int) _ (by kernel_rfl) K ?_
      rw [show H / 10 % 10 = H / 10 by omega]
      simpa using hK
    · simp only [decide_eq_false_iff_not] at h2
      refine ⟨by decide, by simp; omega, ?_⟩
      rw [if_pos (by omega)] at hK
      refine R7 N hN (s ++ [dg (H % 10)]) (by simp; omega) (H : Int) _ (by kernel_rfl) K ?_
      rw [show H % 10 = H by omega]
      exact hK
theorem f14_ev (n : Int) (h0 : -604799 ≤ n) (h1 : n ≤ 604799) (K : List AV → Prop) (hK : K [st (fmt n)]) : evSpec C3 Tryd.f14 [.imm (.int .i64 n)] K := by
  have cut : evSpec C3 Tryd.f14 [.imm (.int .i64 n)] K = evCode C3 (c14 [.r, .r, .l]) (S14 n [] .dead (fun _ => .dead)) (fun x st => match x with
    | .normal => evCode C3 (c14 [.r, .r, .r]) st (finK C3 Tryd.f14 K)
    | x => finK C3 Tryd.f14 K x st) := by kernel_rfl
  rw [cut, f14_b]
  unfold fmt at hK
  refine brn_intro (fun h => ?_) (fun h => ?_)
  · simp only [decide_eq_true_eq] at h
    have e : IntKind.wrap .i64 (0 - n) = (n.natAbs : Int) := by rw [wrap64 (by omega) (by omega)]; omega
    rw [if_pos h] at hK
    rw [e]
    exact R3 n.natAbs (by omega) [45] (by simp) _ (by kernel_rfl) K hK
  · simp only [decide_eq_false_iff_not] at h
    rw [if_neg h] at hK
    have e : n = (n.natAbs : Int) := by omega
    rw [e]
    refine R3 n.natAbs (by omega) [] (by simp) _ (by kernel_rfl) K ?_
    exact hK
theorem f13_tail (n : Nat) (hn : n ≤ 604799) (K : List AV → Prop) (hK : K [st (fmt (n : Int))]) : evSpec C3 Tryd.f13 [.imm (.int .i64 (n : Int))] K := by
  rw [f13_i]
  unfold fmt at hK
  rw [if_neg (by omega), Int.natAbs_natCast, fmtN_eq] at hK
  unfold tl at hK
  have e1 : IntKind.wrap .i64 ((n / 3600 : Nat) : Int) = ((n / 3600 : Nat) : Int) := wrap64 (by omega) (by omega)
  have e2 : IntKind.wrap .i64 ((n % 3600 / 60 : Nat) : Int) = ((n % 3600 / 60 : Nat) : Int) := wrap64 (by omega) (by omega)
  simp only [tdiv3600, tmod3600, tdiv60, tmod60, e1, e2, Int.toNat_natCast]
  have hdl := dd_len (n / 3600)
  refine brn_intro (fun h => by simp only [decide_eq_true_eq] at h; omega) (fun _ => ⟨by decide, by omega, by omega, by decide, brn_intro (fun h1 => ?_) (fun h1 => ?_)⟩)
  · have h1' : ¬ n % 3600 = 0 := by intro h; rw [h] at h1; simp at h1
    rw [if_neg h1'] at hK
    refine ⟨by decide, by decide, by omega, by omega, by rw [two_len]; omega, by decide, brn_intro (fun h2 => ?_) (fun h2 => ?_)⟩
    · have h2' : ¬ n % 60 = 0 := by intro h; rw [h] at h2; simp at h2
      rw [if_neg h2', ← List.append_assoc] at hK
      exact ⟨by decide, by omega, by omega, by rw [List.length_append, two_len, two_len]; omega, hK⟩
    · have h2' : n % 60 = 0 := by simp only [bne_eq_false_iff_eq] at h2; omega
      rw [if_pos h2', List.append_nil] at hK
      exact hK
  · have h1' : n % 3600 = 0 := by simp only [bne_eq_false_iff_eq] at h1; omega
    refine ⟨by decide, brn_intro (fun h2 => ?_) (fun h2 => ?_)⟩
    · have h2' : ¬ n % 60 = 0 := by intro h; rw [h] at h2; simp at h2
      omega
    · rw [if_pos h1', if_pos (by omega), List.append_nil, List.append_nil] at hK
      exact hK
theorem ok14 : ∀ args pres res, sFmt args = some (pres, res) → SpecOK Tryd.prog G8 14 args pres res := by
  intro args pres res h
  unfold sFmt at h
  split at h
  case h_2 => cases h
  cases h
  rename_i n
  refine mk okE3 at14 (by decide) rfl (fun hp K hK => ?_)
  exact f14_ev n (hp _ (List.mem_cons_self ..)) (hp _ (List.mem_cons_of_mem _ (List.mem_cons_self ..))) K hK
theorem ok13a : ∀ args pres res, sFmt0 args = some (pres, res) → SpecOK Tryd.prog G8 13 args pres res := by
  intro args pres res h
  unfold sFmt0 at h
  split at h
  case h_2 => cases h
  cases h
  rename_i n
  refine mk okE3 at13 (by decide) rfl (fun hp K hK => ?_)
  have h0 := hp _ (List.mem_cons_self ..)
  have h1 := hp _ (List.mem_cons_of_mem _ (List.mem_cons_self ..))
  obtain ⟨i, rfl⟩ := nat_of h0
  exact f13_tail i (by omega) K hK
theorem okE4 : EOK Tryd.prog E4 G8 := addE_ok (addE_ok (addE_ok (addE_ok okE3 ok9) ok10) ok13a) ok14
theorem ok13 : ∀ args pres res, sFmt args = some (pres, res) → SpecOK Tryd.prog G8 13 args pres res := by
  intro args pres res h
  unfold sFmt at h
  split at h
  case h_2 => cases h
  cases h
  rename_i n
  by_cases hn : 0 ≤ n
  · have := ok13a [.imm (.int .i64 n)] _ _ rfl
    refine ⟨this.fn, fun hp => this.calls (fun p hp' => ?_)⟩
    have h1 := hp _ (List.mem_cons_of_mem _ (List.mem_cons_self ..))
    rcases List.mem_cons.1 hp' with rfl | hp'
    · exact hn
    · rw [List.mem_singleton.1 hp']; exact h1
  · refine mk okE4 at13 (by decide) rfl (fun hp K hK => ?_)
    have h0 := hp _ (List.mem_cons_self ..)
    rw [show cx E4 = C4 from rfl, f13_in]
    have e : IntKind.wrap .i64 (0 - n) = -n := by rw [wrap64 (by omega) (by omega)]; omega
    rw [e]
    refine brn_intro (fun _ => ?_) (fun h => by simp only [decide_eq_false_iff_not] at h; omega)
    have ef : fmt n = [45] ++ fmt (-n) := by
      unfold fmt
      rw [if_pos (by omega), if_neg (by omega), Int.natAbs_neg]
      rfl
    have hl : (fmt (-n)).length ≤ 20 := by
      unfold fmt
      rw [if_neg (by omega), fmtN_eq]
      unfold tl
      have := dd_len ((-n).natAbs / 3600)
      rw [List.length_append, List.length_append]
      split <;> split <;> simp only [two_len, List.length_nil] <;> omega
    rw [ef] at hK
    exact ⟨by omega, by omega, by rw [List.length_singleton]; omega, hK⟩
theorem okE5 : EOK Tryd.prog E5 G8 := addE_ok okE4 ok13
end Z08

set_option maxRecDepth 100000
namespace Z08
open Go Go.AE Go.Proofs
attribute [local irreducible] loopK evCode evSpec loopB norm finK c14

/-! ### plain laws -/
def fl (r : List UInt8) : Int × Nat := match field r with
  | none => (0, 0)
  | some m => match field (r.drop 3) with
    | none => (60 * (m : Int), 3)
    | some c => (60 * (m : Int) + c, 6)
theorem fieldsP_fl (s : List UInt8) (i : Nat) : fieldsP s i = ((fl (s.drop i)).1, ((i + (fl (s.drop i)).2 : Nat) : Int)) := by
  unfold fieldsP fl
  cases h : field (s.drop i) with
  | none => rfl
  | some m =>
    simp only [List.drop_drop]
    cases field (s.drop (i + 3)) <;> rfl
theorem runD_app {ds r : List UInt8} (hd : ∀ b ∈ ds, isD b = true) (hr : r = [] ∨ isD (r.getD 0 0) = false) : runD (ds ++ r) = ds := by
  unfold runD
  rw [List.takeWhile_append_of_pos hd]
  have : r.takeWhile isD = [] := by
    rcases hr with rfl | hr
    · rfl
    · cases r with
      | nil => rfl
      | cons b r =>
        have hr' : isD b = false := hr
        simp [List.takeWhile_cons, hr']
  rw [this, List.append_nil]
theorem notD_of (b : UInt8) (h : b = 43 ∨ b = 45 ∨ b = 58) : isD b = false := by rcases h with rfl | rfl | rfl <;> decide
theorem parse_comp {p ds r : List UInt8} (hp : p = [] ∨ p = [43] ∨ p = [45]) (hd : ∀ b ∈ ds, isD b = true) (h1 : 1 ≤ ds.length) (h3 : ds.length ≤ 3) (h167 : num ds ≤ 167) (hr : r = [] ∨ isD (r.getD 0 0) = false) :
    parse (p ++ (ds ++ r)) = ((if p = [45] then -1 else 1) * ((num ds : Int) * 3600 + (fl r).1), ((p.length + ds.length + (fl r).2 : Nat) : Int), true) := by
  have hoff : off (p ++ (ds ++ r)) = p.length ∧ sgn (p ++ (ds ++ r)) = if p = [45] then -1 else 1 := by
    rcases hp with rfl | rfl | rfl
    · cases ds with
      | nil => simp at h1
      | cons b ds =>
        have hb := hd b (by simp)
        have n1 : b ≠ 45 := by rintro rfl; exact absurd hb (by decide)
        have n2 : b ≠ 43 := by rintro rfl; exact absurd hb (by decide)
        simp [off, sgn, n1, n2]
    · simp [off, sgn]
    · simp [off, sgn]
  have hdrop : (p ++ (ds ++ r)).drop p.length = ds ++ r := List.drop_left
  have hrun := runD_app hd hr
  unfold parse
  rw [hoff.1, hoff.2]
  have hh : hoursP (p ++ (ds ++ r)) p.length = ((num ds : Int), ((p.length + ds.length : Nat) : Int), true) := by
    unfold hoursP
    rw [hdrop, hrun, if_pos h3]
    simp [h167]
    omega
  rw [hh, if_pos rfl]
  simp only [Int.toNat_natCast]
  rw [fieldsP_fl]
  have hdrop2 : (p ++ (ds ++ r)).drop (p.length + ds.length) = r := by
    rw [← List.append_assoc, ← List.length_append]
    exact List.drop_left
  rw [hdrop2]
theorem dg_nat {n : Nat} (h : n < 10) : (dg n).toNat = 48 + n := by
  unfold dg
  simp [UInt8.toNat_ofNat']
  omega
theorem dg_D {n : Nat} (h : n < 10) : isD (dg n) = true := by
  rw [isD_iff, dg_nat h]
  omega
theorem dg_v {n : Nat} (h : n < 10) : dv (dg n) = n := by
  unfold dv
  rw [dg_nat h]
  omega
theorem dd_ok {n : Nat} (h : n < 1000) : (∀ b ∈ dd n, isD b = true) ∧ num (dd n) = n := by
  unfold dd
  split
  · rename_i h1
    refine ⟨fun b hb => ?_, ?_⟩
    · rw [List.mem_singleton.1 hb]; exact dg_D h1
    · simp [num, dg_v h1]
  · split
    · refine ⟨fun b hb => ?_, ?_⟩
      · simp only [List.mem_cons, List.not_mem_nil, or_false] at hb
        rcases hb with rfl | rfl <;> exact dg_D (by omega)
      · simp [num, dg_v (show n / 10 < 10 by omega), dg_v (show n % 10 < 10 by omega)]
        omega
    · refine ⟨fun b hb => ?_, ?_⟩
      · simp only [List.mem_cons, List.not_mem_nil, or_false] at hb
        rcases hb with rfl | rfl | rfl <;> exact dg_D (by omega)
      · simp [num, dg_v (show n / 100 < 10 by omega), dg_v (show n / 10 % 10 < 10 by omega), dg_v (show n % 10 < 10 by omega)]
        omega
theorem field_two {m : Nat} (h : m < 60) (r : List UInt8) : field (two m ++ r) = some m := by
  unfold two field
  simp only [List.cons_append, List.nil_append]
  rw [dg_v (show m / 10 < 10 by omega), dg_v (show m % 10 < 10 by omega), dg_D (show m / 10 < 10 by omega), dg_D (show m % 10 < 10 by omega)]
  rw [if_pos (by simp; omega)]
  congr 1
  omega
theorem field_nil : field [] = none := rfl
theorem fl_tl (N : Nat) : fl (tl N) = (((N % 3600 : Nat) : Int), (tl N).length) := by
  unfold tl
  by_cases h1 : N % 3600 = 0
  · rw [if_pos h1, if_pos (by omega), h1]; rfl
  · rw [if_neg h1]
    unfold fl
    rw [field_two (by omega)]
    have hd : (two (N % 3600 / 60) ++ (if N % 60 = 0 then [] else two (N % 60))).drop 3 = if N % 60 = 0 then [] else two (N % 60) := List.drop_left' (two_len _)
    rw [hd]
    by_cases h2 : N % 60 = 0
    · rw [if_pos h2, field_nil]
      simp only [List.append_nil, two_len, Prod.mk.injEq, and_true]
      omega
    · rw [if_neg h2]
      have := field_two (show N % 60 < 60 by omega) []
      rw [List.append_nil] at this
      rw [this]
      simp only [List.length_append, two_len, Prod.mk.injEq, and_true]
      omega
theorem tl_head (N : Nat) : tl N = [] ∨ isD ((tl N).getD 0 0) = false := by
  unfold tl
  by_cases h1 : N % 3600 = 0
  · rw [if_pos h1, if_pos (by omega)]; exact Or.inl rfl
  · rw [if_neg h1]; right; unfold two; rfl
theorem parse_fmtN {p : List UInt8} (hp : p = [] ∨ p = [43] ∨ p = [45]) {N : Nat} (hN : N ≤ 604799) : parse (p ++ fmtN N) = ((if p = [45] then -1 else 1) * (N : Int), ((p.length + (fmtN N).length : Nat) : Int), true) := by
  have hH : N / 3600 ≤ 167 := by omega
  obtain ⟨hd, hn⟩ := dd_ok (show N / 3600 < 1000 by omega)
  have hl := dd_len (N / 3600)
  rw [fmtN_eq, parse_comp hp hd hl.1 hl.2 (by rw [hn]; exact hH) (tl_head N), fl_tl, hn, List.length_append]
  have e : ((N / 3600 : Nat) : Int) * 3600 + ((N % 3600 : Nat) : Int) = (N : Int) := by omega
  rw [e, Nat.add_assoc]
theorem parse_fmt {n : Int} (h0 : -604799 ≤ n) (h1 : n ≤ 604799) : parse (fmt n) = (n, ((fmt n).length : Int), true) := by
  unfold fmt
  by_cases h : n < 0
  · rw [if_pos h]
    have := parse_fmtN (p := [45]) (Or.inr (Or.inr rfl)) (show n.natAbs ≤ 604799 by omega)
    rw [if_pos rfl] at this
    rw [show 45 :: fmtN n.natAbs = [45] ++ fmtN n.natAbs from rfl, this, List.length_append]
    have e : -1 * (n.natAbs : Int) = n := by omega
    rw [e]
  · rw [if_neg h]
    have := parse_fmtN (p := []) (Or.inl rfl) (show n.natAbs ≤ 604799 by omega)
    rw [if_neg (by simp)] at this
    rw [show fmtN n.natAbs = [] ++ fmtN n.natAbs from rfl, this]
    have e : 1 * (n.natAbs : Int) = n := by omega
    rw [e]
    simp
theorem fmt_inj {n m : Int} (h0 : -604799 ≤ n) (h1 : n ≤ 604799) (g0 : -604799 ≤ m) (g1 : m ≤ 604799) : fmt n = fmt m ↔ n = m := by
  refine ⟨fun h => ?_, fun h => by rw [h]⟩
  have a := parse_fmt h0 h1
  rw [h, parse_fmt g0 g1] at a
  exact (congrArg Prod.fst a).symm
theorem fmtN_len (N : Nat) (h : N ≤ 604799) : 1 ≤ (fmtN N).length ∧ (fmtN N).length ≤ 9 := by
  rw [fmtN_eq, List.length_append]
  have := dd_len (N / 3600)
  have : (tl N).length ≤ 6 := by
    unfold tl
    rw [List.length_append]
    split <;> split <;> simp only [two_len, List.length_nil] <;> omega
  omega
theorem inRange_iff (n : Int) : inRange n = true ↔ -604799 ≤ n ∧ n ≤ 604799 := by
  unfold inRange
  rw [Bool.and_eq_true, decide_eq_true_iff, decide_eq_true_iff]
end Z08

set_option maxRecDepth 100000
namespace Z08
open Go Go.AE Go.Proofs
attribute [local irreducible] loopK evCode evSpec loopB norm
theorem f8_in (K : List AV → Prop) : evSpec C5 Tryd.f8 [] K =
  ((↑(List.length [(45 : UInt8), (51 : UInt8), (58 : UInt8), (51 : UInt8), (48 : UInt8), (44 : UInt8), (120 : UInt8)]) :
      Int) ≤
    big ∧
  (↑(List.length [(43 : UInt8), (48 : UInt8), (50 : UInt8), (58 : UInt8), (54 : UInt8), (49 : UInt8)]) : Int) ≤ big ∧
    (↑(List.length [(49 : UInt8), (54 : UInt8), (56 : UInt8)]) : Int) ≤ big ∧
      (↑(List.length [(45 : UInt8)]) : Int) ≤ big ∧
        (↑(List.length [(48 : UInt8), (48 : UInt8), (48 : UInt8), (49 : UInt8)]) : Int) ≤ big ∧
          (↑(List.length
                    [(49 : UInt8), (54 : UInt8), (55 : UInt8), (58 : UInt8), (53 : UInt8), (57 : UInt8), (58 : UInt8),
                      (53 : UInt8), (57 : UInt8), (58 : UInt8), (48 : UInt8), (48 : UInt8)]) :
                Int) ≤
              big ∧
            ((Prod.fst
                                            (parse
                                              [(45 : UInt8), (51 : UInt8), (58 : UInt8), (51 : UInt8), (48 : UInt8),
                                                (44 : UInt8), (120 : UInt8)]) ==
                                          (-12600 : Int) &&
                                        Prod.fst
                                            (Prod.snd
                                              (parse
                                                [(45 : UInt8), (51 : UInt8), (58 : UInt8), (51 : UInt8), (48 : UInt8),
                                                  (44 : UInt8), (120 : UInt8)])) ==
                                          (5 : Int) &&
                                      Prod.snd
                                        (Prod.snd
                                          (parse
                                            [(45 : UInt8), (51 : UInt8), (58 : UInt8), (51 : UInt8), (48 : UInt8),
                                              (44 : UInt8), (120 : UInt8)])) &&
                                    Prod.fst
                                        (parse
                                          [(43 : UInt8), (48 : UInt8), (50 : UInt8), (58 : UInt8), (54 : UInt8),
                                            (49 : UInt8)]) ==
                                      (7200 : Int) &&
                                  Prod.fst
                                      (Prod.snd
                                        (parse
                                          [(43 : UInt8), (48 : UInt8), (50 : UInt8), (58 : UInt8), (54 : UInt8),
                                            (49 : UInt8)])) ==
                                    (3 : Int) &&
                                Prod.snd
                                  (Prod.snd
                                    (parse
                                      [(43 : UInt8), (48 : UInt8), (50 : UInt8), (58 : UInt8), (54 : UInt8),
                                        (49 : UInt8)])) &&
                              !Prod.snd (Prod.snd (parse [(49 : UInt8), (54 : UInt8), (56 : UInt8)])) &&
                            !Prod.snd (Prod.snd (parse [(45 : UInt8)])) &&
                          !Prod.snd (Prod.snd (parse [(48 : UInt8), (48 : UInt8), (48 : UInt8), (49 : UInt8)])) &&
                        Prod.fst
                            (parse
                              [(49 : UInt8), (54 : UInt8), (55 : UInt8), (58 : UInt8), (53 : UInt8), (57 : UInt8),
                                (58 : UInt8), (53 : UInt8), (57 : UInt8), (58 : UInt8), (48 : UInt8), (48 : UInt8)]) ==
                          (604799 : Int) &&
                      Prod.fst
                          (Prod.snd
                            (parse
                              [(49 : UInt8), (54 : UInt8), (55 : UInt8), (58 : UInt8), (53 : UInt8), (57 : UInt8),
                                (58 : UInt8), (53 : UInt8), (57 : UInt8), (58 : UInt8), (48 : UInt8), (48 : UInt8)])) ==
                        (9 : Int) &&
                    Prod.snd
                      (Prod.snd
                        (parse
                          [(49 : UInt8), (54 : UInt8), (55 : UInt8), (58 : UInt8), (53 : UInt8), (57 : UInt8),
                            (58 : UInt8), (53 : UInt8), (57 : UInt8), (58 : UInt8), (48 : UInt8), (48 : UInt8)]))) =
                  true →
                (-604799 : Int) ≤ (-12600 : Int)) ∧
              ((Prod.fst
                                              (parse
                                                [(45 : UInt8), (51 : UInt8), (58 : UInt8), (51 : UInt8), (48 : UInt8),
                                                  (44 : UInt8), (120 : UInt8)]) ==
                                            (-12600 : Int) &&
                                          Prod.fst
                                              (Prod.snd
                                                (parse
                                                  [(45 : UInt8), (51 : UInt8), (58 : UInt8), (51 : UInt8), (48 : UInt8),
                                                    (44 : UInt8), (120 : UInt8)])) ==
                                            (5 : Int) &&
                                        Prod.snd
                                          (Prod.snd
                                            (parse
                                              [(45 : UInt8), (51 : UInt8), (58 : UInt8), (51 : UInt8), (48 : UInt8),
                                                (44 : UInt8), (120 : UInt8)])) &&
                                      Prod.fst
                                          (parse
                                            [(43 : UInt8), (48 : UInt8), (50 : UInt8), (58 : UInt8), (54 : UInt8),
                                              (49 : UInt8)]) ==
                                        (7200 : Int) &&
                                    Prod.fst
                                        (Prod.snd
                                          (parse
                                            [(43 : UInt8), (48 : UInt8), (50 : UInt8), (58 : UInt8), (54 : UInt8),
                                              (49 : UInt8)])) ==
                                      (3 : Int) &&
                                  Prod.snd
                                    (Prod.snd
                                      (parse
                                        [(43 : UInt8), (48 : UInt8), (50 : UInt8), (58 : UInt8), (54 : UInt8),
                                          (49 : UInt8)])) &&
                                !Prod.snd (Prod.snd (parse [(49 : UInt8), (54 : UInt8), (56 : UInt8)])) &&
                              !Prod.snd (Prod.snd (parse [(45 : UInt8)])) &&
                            !Prod.snd (Prod.snd (parse [(48 : UInt8), (48 : UInt8), (48 : UInt8), (49 : UInt8)])) &&
                          Prod.fst
                              (parse
                                [(49 : UInt8), (54 : UInt8), (55 : UInt8), (58 : UInt8), (53 : UInt8), (57 : UInt8),
                                  (58 : UInt8), (53 : UInt8), (57 : UInt8), (58 : UInt8), (48 : UInt8),
                                  (48 : UInt8)]) ==
                            (604799 : Int) &&
                        Prod.fst
                            (Prod.snd
                              (parse
                                [(49 : UInt8), (54 : UInt8), (55 : UInt8), (58 : UInt8), (53 : UInt8), (57 : UInt8),
                                  (58 : UInt8), (53 : UInt8), (57 : UInt8), (58 : UInt8), (48 : UInt8),
                                  (48 : UInt8)])) ==
                          (9 : Int) &&
                      Prod.snd
                        (Prod.snd
                          (parse
                            [(49 : UInt8), (54 : UInt8), (55 : UInt8), (58 : UInt8), (53 : UInt8), (57 : UInt8),
                              (58 : UInt8), (53 : UInt8), (57 : UInt8), (58 : UInt8), (48 : UInt8), (48 : UInt8)]))) =
                    true →
                  (-12600 : Int) ≤ (604799 : Int)) ∧
                ((Prod.fst
                                                  (parse
                                                    [(45 : UInt8), (51 : UInt8), (58 : UInt8), (51 : UInt8),
                                                      (48 : UInt8), (44 : UInt8), (120 : UInt8)]) ==
                                                (-12600 : Int) &&
                                              Prod.fst
                                                  (Prod.snd
                                                    (parse
                                                      [(45 : UInt8), (51 : UInt8), (58 : UInt8), (51 : UInt8),
                                                        (48 : UInt8), (44 : UInt8), (120 : UInt8)])) ==
                                                (5 : Int) &&
                                            Prod.snd
                                              (Prod.snd
                                                (parse
                                                  [(45 : UInt8), (51 : UInt8), (58 : UInt8), (51 : UInt8), (48 : UInt8),
                                                    (44 : UInt8), (120 : UInt8)])) &&
                                          Prod.fst
                                              (parse
                                                [(43 : UInt8), (48 : UInt8), (50 : UInt8), (58 : UInt8), (54 : UInt8),
                                                  (49 : UInt8)]) ==
                                            (7200 : Int) &&
                                        Prod.fst
                                            (Prod.snd
                                              (parse
                                                [(43 : UInt8), (48 : UInt8), (50 : UInt8), (58 : UInt8), (54 : UInt8),
                                                  (49 : UInt8)])) ==
                                          (3 : Int) &&
                                      Prod.snd
                                        (Prod.snd
                                          (parse
                                            [(43 : UInt8), (48 : UInt8), (50 : UInt8), (58 : UInt8), (54 : UInt8),
                                              (49 : UInt8)])) &&
                                    !Prod.snd (Prod.snd (parse [(49 : UInt8), (54 : UInt8), (56 : UInt8)])) &&
                                  !Prod.snd (Prod.snd (parse [(45 : UInt8)])) &&
                                !Prod.snd (Prod.snd (parse [(48 : UInt8), (48 : UInt8), (48 : UInt8), (49 : UInt8)])) &&
                              Prod.fst
                                  (parse
                                    [(49 : UInt8), (54 : UInt8), (55 : UInt8), (58 : UInt8), (53 : UInt8), (57 : UInt8),
                                      (58 : UInt8), (53 : UInt8), (57 : UInt8), (58 : UInt8), (48 : UInt8),
                                      (48 : UInt8)]) ==
                                (604799 : Int) &&
                            Prod.fst
                                (Prod.snd
                                  (parse
                                    [(49 : UInt8), (54 : UInt8), (55 : UInt8), (58 : UInt8), (53 : UInt8), (57 : UInt8),
                                      (58 : UInt8), (53 : UInt8), (57 : UInt8), (58 : UInt8), (48 : UInt8),
                                      (48 : UInt8)])) ==
                              (9 : Int) &&
                          Prod.snd
                            (Prod.snd
                              (parse
                                [(49 : UInt8), (54 : UInt8), (55 : UInt8), (58 : UInt8), (53 : UInt8), (57 : UInt8),
                                  (58 : UInt8), (53 : UInt8), (57 : UInt8), (58 : UInt8), (48 : UInt8),
                                  (48 : UInt8)])) &&
                        decide
                          (fmt (-12600 : Int) =
                            [(45 : UInt8), (51 : UInt8), (58 : UInt8), (51 : UInt8), (48 : UInt8)])) =
                      true →
                    (-604799 : Int) ≤ (0 : Int)) ∧
                  ((Prod.fst
                                                    (parse
                                                      [(45 : UInt8), (51 : UInt8), (58 : UInt8), (51 : UInt8),
                                                        (48 : UInt8), (44 : UInt8), (120 : UInt8)]) ==
                                                  (-12600 : Int) &&
                                                Prod.fst
                                                    (Prod.snd
                                                      (parse
                                                        [(45 : UInt8), (51 : UInt8), (58 : UInt8), (51 : UInt8),
                                                          (48 : UInt8), (44 : UInt8), (120 : UInt8)])) ==
                                                  (5 : Int) &&
                                              Prod.snd
                                                (Prod.snd
                                                  (parse
                                                    [(45 : UInt8), (51 : UInt8), (58 : UInt8), (51 : UInt8),
                                                      (48 : UInt8), (44 : UInt8), (120 : UInt8)])) &&
                                            Prod.fst
                                                (parse
                                                  [(43 : UInt8), (48 : UInt8), (50 : UInt8), (58 : UInt8), (54 : UInt8),
                                                    (49 : UInt8)]) ==
                                              (7200 : Int) &&
                                          Prod.fst
                                              (Prod.snd
                                                (parse
                                                  [(43 : UInt8), (48 : UInt8), (50 : UInt8), (58 : UInt8), (54 : UInt8),
                                                    (49 : UInt8)])) ==
                                            (3 : Int) &&
                                        Prod.snd
                                          (Prod.snd
                                            (parse
                                              [(43 : UInt8), (48 : UInt8), (50 : UInt8), (58 : UInt8), (54 : UInt8),
                                                (49 : UInt8)])) &&
                                      !Prod.snd (Prod.snd (parse [(49 : UInt8), (54 : UInt8), (56 : UInt8)])) &&
                                    !Prod.snd (Prod.snd (parse [(45 : UInt8)])) &&
                                  !Prod.snd
                                      (Prod.snd (parse [(48 : UInt8), (48 : UInt8), (48 : UInt8), (49 : UInt8)])) &&
                                Prod.fst
                                    (parse
                                      [(49 : UInt8), (54 : UInt8), (55 : UInt8), (58 : UInt8), (53 : UInt8),
                                        (57 : UInt8), (58 : UInt8), (53 : UInt8), (57 : UInt8), (58 : UInt8),
                                        (48 : UInt8), (48 : UInt8)]) ==
                                  (604799 : Int) &&
                              Prod.fst
                                  (Prod.snd
                                    (parse
                                      [(49 : UInt8), (54 : UInt8), (55 : UInt8), (58 : UInt8), (53 : UInt8),
                                        (57 : UInt8), (58 : UInt8), (53 : UInt8), (57 : UInt8), (58 : UInt8),
                                        (48 : UInt8), (48 : UInt8)])) ==
                                (9 : Int) &&
                            Prod.snd
                              (Prod.snd
                                (parse
                                  [(49 : UInt8), (54 : UInt8), (55 : UInt8), (58 : UInt8), (53 : UInt8), (57 : UInt8),
                                    (58 : UInt8), (53 : UInt8), (57 : UInt8), (58 : UInt8), (48 : UInt8),
                                    (48 : UInt8)])) &&
                          decide
                            (fmt (-12600 : Int) =
                              [(45 : UInt8), (51 : UInt8), (58 : UInt8), (51 : UInt8), (48 : UInt8)])) =
                        true →
                      (0 : Int) ≤ (604799 : Int)) ∧
                    ((Prod.fst
                                                        (parse
                                                          [(45 : UInt8), (51 : UInt8), (58 : UInt8), (51 : UInt8),
                                                            (48 : UInt8), (44 : UInt8), (120 : UInt8)]) ==
                                                      (-12600 : Int) &&
                                                    Prod.fst
                                                        (Prod.snd
                                                          (parse
                                                            [(45 : UInt8), (51 : UInt8), (58 : UInt8), (51 : UInt8),
                                                              (48 : UInt8), (44 : UInt8), (120 : UInt8)])) ==
                                                      (5 : Int) &&
                                                  Prod.snd
                                                    (Prod.snd
                                                      (parse
                                                        [(45 : UInt8), (51 : UInt8), (58 : UInt8), (51 : UInt8),
                                                          (48 : UInt8), (44 : UInt8), (120 : UInt8)])) &&
                                                Prod.fst
                                                    (parse
                                                      [(43 : UInt8), (48 : UInt8), (50 : UInt8), (58 : UInt8),
                                                        (54 : UInt8), (49 : UInt8)]) ==
                                                  (7200 : Int) &&
                                              Prod.fst
                                                  (Prod.snd
                                                    (parse
                                                      [(43 : UInt8), (48 : UInt8), (50 : UInt8), (58 : UInt8),
                                                        (54 : UInt8), (49 : UInt8)])) ==
                                                (3 : Int) &&
                                            Prod.snd
                                              (Prod.snd
                                                (parse
                                                  [(43 : UInt8), (48 : UInt8), (50 : UInt8), (58 : UInt8), (54 : UInt8),
                                                    (49 : UInt8)])) &&
                                          !Prod.snd (Prod.snd (parse [(49 : UInt8), (54 : UInt8), (56 : UInt8)])) &&
                                        !Prod.snd (Prod.snd (parse [(45 : UInt8)])) &&
                                      !Prod.snd
                                          (Prod.snd (parse [(48 : UInt8), (48 : UInt8), (48 : UInt8), (49 : UInt8)])) &&
                                    Prod.fst
                                        (parse
                                          [(49 : UInt8), (54 : UInt8), (55 : UInt8), (58 : UInt8), (53 : UInt8),
                                            (57 : UInt8), (58 : UInt8), (53 : UInt8), (57 : UInt8), (58 : UInt8),
                                            (48 : UInt8), (48 : UInt8)]) ==
                                      (604799 : Int) &&
                                  Prod.fst
                                      (Prod.snd
                                        (parse
                                          [(49 : UInt8), (54 : UInt8), (55 : UInt8), (58 : UInt8), (53 : UInt8),
                                            (57 : UInt8), (58 : UInt8), (53 : UInt8), (57 : UInt8), (58 : UInt8),
                                            (48 : UInt8), (48 : UInt8)])) ==
                                    (9 : Int) &&
                                Prod.snd
                                  (Prod.snd
                                    (parse
                                      [(49 : UInt8), (54 : UInt8), (55 : UInt8), (58 : UInt8), (53 : UInt8),
                                        (57 : UInt8), (58 : UInt8), (53 : UInt8), (57 : UInt8), (58 : UInt8),
                                        (48 : UInt8), (48 : UInt8)])) &&
                              decide
                                (fmt (-12600 : Int) =
                                  [(45 : UInt8), (51 : UInt8), (58 : UInt8), (51 : UInt8), (48 : UInt8)]) &&
                            decide (fmt (0 : Int) = [(48 : UInt8)])) =
                          true →
                        (-604799 : Int) ≤ (3601 : Int)) ∧
                      ((Prod.fst
                                                          (parse
                                                            [(45 : UInt8), (51 : UInt8), (58 : UInt8), (51 : UInt8),
                                                              (48 : UInt8), (44 : UInt8), (120 : UInt8)]) ==
                                                        (-12600 : Int) &&
                                                      Prod.fst
                                                          (Prod.snd
                                                            (parse
                                                              [(45 : UInt8), (51 : UInt8), (58 : UInt8), (51 : UInt8),
                                                                (48 : UInt8), (44 : UInt8), (120 : UInt8)])) ==
                                                        (5 : Int) &&
                                                    Prod.snd
                                                      (Prod.snd
                                                        (parse
                                                          [(45 : UInt8), (51 : UInt8), (58 : UInt8), (51 : UInt8),
                                                            (48 : UInt8), (44 : UInt8), (120 : UInt8)])) &&
                                                  Prod.fst
                                                      (parse
                                                        [(43 : UInt8), (48 : UInt8), (50 : UInt8), (58 : UInt8),
                                                          (54 : UInt8), (49 : UInt8)]) ==
                                                    (7200 : Int) &&
                                                Prod.fst
                                                    (Prod.snd
                                                      (parse
                                                        [(43 : UInt8), (48 : UInt8), (50 : UInt8), (58 : UInt8),
                                                          (54 : UInt8), (49 : UInt8)])) ==
                                                  (3 : Int) &&
                                              Prod.snd
                                                (Prod.snd
                                                  (parse
                                                    [(43 : UInt8), (48 : UInt8), (50 : UInt8), (58 : UInt8),
                                                      (54 : UInt8), (49 : UInt8)])) &&
                                            !Prod.snd (Prod.snd (parse [(49 : UInt8), (54 : UInt8), (56 : UInt8)])) &&
                                          !Prod.snd (Prod.snd (parse [(45 : UInt8)])) &&
                                        !Prod.snd
                                            (Prod.snd
                                              (parse [(48 : UInt8), (48 : UInt8), (48 : UInt8), (49 : UInt8)])) &&
                                      Prod.fst
                                          (parse
                                            [(49 : UInt8), (54 : UInt8), (55 : UInt8), (58 : UInt8), (53 : UInt8),
                                              (57 : UInt8), (58 : UInt8), (53 : UInt8), (57 : UInt8), (58 : UInt8),
                                              (48 : UInt8), (48 : UInt8)]) ==
                                        (604799 : Int) &&
                                    Prod.fst
                                        (Prod.snd
                                          (parse
                                            [(49 : UInt8), (54 : UInt8), (55 : UInt8), (58 : UInt8), (53 : UInt8),
                                              (57 : UInt8), (58 : UInt8), (53 : UInt8), (57 : UInt8), (58 : UInt8),
                                              (48 : UInt8), (48 : UInt8)])) ==
                                      (9 : Int) &&
                                  Prod.snd
                                    (Prod.snd
                                      (parse
                                        [(49 : UInt8), (54 : UInt8), (55 : UInt8), (58 : UInt8), (53 : UInt8),
                                          (57 : UInt8), (58 : UInt8), (53 : UInt8), (57 : UInt8), (58 : UInt8),
                                          (48 : UInt8), (48 : UInt8)])) &&
                                decide
                                  (fmt (-12600 : Int) =
                                    [(45 : UInt8), (51 : UInt8), (58 : UInt8), (51 : UInt8), (48 : UInt8)]) &&
                              decide (fmt (0 : Int) = [(48 : UInt8)])) =
                            true →
                          (3601 : Int) ≤ (604799 : Int)) ∧
                        ((Prod.fst
                                                              (parse
                                                                [(45 : UInt8), (51 : UInt8), (58 : UInt8), (51 : UInt8),
                                                                  (48 : UInt8), (44 : UInt8), (120 : UInt8)]) ==
                                                            (-12600 : Int) &&
                                                          Prod.fst
                                                              (Prod.snd
                                                                (parse
                                                                  [(45 : UInt8), (51 : UInt8), (58 : UInt8),
                                                                    (51 : UInt8), (48 : UInt8), (44 : UInt8),
                                                                    (120 : UInt8)])) ==
                                                            (5 : Int) &&
                                                        Prod.snd
                                                          (Prod.snd
                                                            (parse
                                                              [(45 : UInt8), (51 : UInt8), (58 : UInt8), (51 : UInt8),
                                                                (48 : UInt8), (44 : UInt8), (120 : UInt8)])) &&
                                                      Prod.fst
                                                          (parse
                                                            [(43 : UInt8), (48 : UInt8), (50 : UInt8), (58 : UInt8),
                                                              (54 : UInt8), (49 : UInt8)]) ==
                                                        (7200 : Int) &&
                                                    Prod.fst
                                                        (Prod.snd
                                                          (parse
                                                            [(43 : UInt8), (48 : UInt8), (50 : UInt8), (58 : UInt8),
                                                              (54 : UInt8), (49 : UInt8)])) ==
                                                      (3 : Int) &&
                                                  Prod.snd
                                                    (Prod.snd
                                                      (parse
                                                        [(43 : UInt8), (48 : UInt8), (50 : UInt8), (58 : UInt8),
                                                          (54 : UInt8), (49 : UInt8)])) &&
                                                !Prod.snd
                                                    (Prod.snd (parse [(49 : UInt8), (54 : UInt8), (56 : UInt8)])) &&
                                              !Prod.snd (Prod.snd (parse [(45 : UInt8)])) &&
                                            !Prod.snd
                                                (Prod.snd
                                                  (parse [(48 : UInt8), (48 : UInt8), (48 : UInt8), (49 : UInt8)])) &&
                                          Prod.fst
                                              (parse
                                                [(49 : UInt8), (54 : UInt8), (55 : UInt8), (58 : UInt8), (53 : UInt8),
                                                  (57 : UInt8), (58 : UInt8), (53 : UInt8), (57 : UInt8), (58 : UInt8),
                                                  (48 : UInt8), (48 : UInt8)]) ==
                                            (604799 : Int) &&
                                        Prod.fst
                                            (Prod.snd
                                              (parse
                                                [(49 : UInt8), (54 : UInt8), (55 : UInt8), (58 : UInt8), (53 : UInt8),
                                                  (57 : UInt8), (58 : UInt8), (53 : UInt8), (57 : UInt8), (58 : UInt8),
                                                  (48 : UInt8), (48 : UInt8)])) ==
                                          (9 : Int) &&
                                      Prod.snd
                                        (Prod.snd
                                          (parse
                                            [(49 : UInt8), (54 : UInt8), (55 : UInt8), (58 : UInt8), (53 : UInt8),
                                              (57 : UInt8), (58 : UInt8), (53 : UInt8), (57 : UInt8), (58 : UInt8),
                                              (48 : UInt8), (48 : UInt8)])) &&
                                    decide
                                      (fmt (-12600 : Int) =
                                        [(45 : UInt8), (51 : UInt8), (58 : UInt8), (51 : UInt8), (48 : UInt8)]) &&
                                  decide (fmt (0 : Int) = [(48 : UInt8)]) &&
                                decide
                                  (fmt (3601 : Int) =
                                    [(49 : UInt8), (58 : UInt8), (48 : UInt8), (48 : UInt8), (58 : UInt8), (48 : UInt8),
                                      (49 : UInt8)])) =
                              true →
                            (-604799 : Int) ≤ (604799 : Int)) ∧
                          ((Prod.fst
                                                                (parse
                                                                  [(45 : UInt8), (51 : UInt8), (58 : UInt8),
                                                                    (51 : UInt8), (48 : UInt8), (44 : UInt8),
                                                                    (120 : UInt8)]) ==
                                                              (-12600 : Int) &&
                                                            Prod.fst
                                                                (Prod.snd
                                                                  (parse
                                                                    [(45 : UInt8), (51 : UInt8), (58 : UInt8),
                                                                      (51 : UInt8), (48 : UInt8), (44 : UInt8),
                                                                      (120 : UInt8)])) ==
                                                              (5 : Int) &&
                                                          Prod.snd
                                                            (Prod.snd
                                                              (parse
                                                                [(45 : UInt8), (51 : UInt8), (58 : UInt8), (51 : UInt8),
                                                                  (48 : UInt8), (44 : UInt8), (120 : UInt8)])) &&
                                                        Prod.fst
                                                            (parse
                                                              [(43 : UInt8), (48 : UInt8), (50 : UInt8), (58 : UInt8),
                                                                (54 : UInt8), (49 : UInt8)]) ==
                                                          (7200 : Int) &&
                                                      Prod.fst
                                                          (Prod.snd
                                                            (parse
                                                              [(43 : UInt8), (48 : UInt8), (50 : UInt8), (58 : UInt8),
                                                                (54 : UInt8), (49 : UInt8)])) ==
                                                        (3 : Int) &&
                                                    Prod.snd
                                                      (Prod.snd
                                                        (parse
                                                          [(43 : UInt8), (48 : UInt8), (50 : UInt8), (58 : UInt8),
                                                            (54 : UInt8), (49 : UInt8)])) &&
                                                  !Prod.snd
                                                      (Prod.snd (parse [(49 : UInt8), (54 : UInt8), (56 : UInt8)])) &&
                                                !Prod.snd (Prod.snd (parse [(45 : UInt8)])) &&
                                              !Prod.snd
                                                  (Prod.snd
                                                    (parse [(48 : UInt8), (48 : UInt8), (48 : UInt8), (49 : UInt8)])) &&
                                            Prod.fst
                                                (parse
                                                  [(49 : UInt8), (54 : UInt8), (55 : UInt8), (58 : UInt8), (53 : UInt8),
                                                    (57 : UInt8), (58 : UInt8), (53 : UInt8), (57 : UInt8),
                                                    (58 : UInt8), (48 : UInt8), (48 : UInt8)]) ==
                                              (604799 : Int) &&
                                          Prod.fst
                                              (Prod.snd
                                                (parse
                                                  [(49 : UInt8), (54 : UInt8), (55 : UInt8), (58 : UInt8), (53 : UInt8),
                                                    (57 : UInt8), (58 : UInt8), (53 : UInt8), (57 : UInt8),
                                                    (58 : UInt8), (48 : UInt8), (48 : UInt8)])) ==
                                            (9 : Int) &&
                                        Prod.snd
                                          (Prod.snd
                                            (parse
                                              [(49 : UInt8), (54 : UInt8), (55 : UInt8), (58 : UInt8), (53 : UInt8),
                                                (57 : UInt8), (58 : UInt8), (53 : UInt8), (57 : UInt8), (58 : UInt8),
                                                (48 : UInt8), (48 : UInt8)])) &&
                                      decide
                                        (fmt (-12600 : Int) =
                                          [(45 : UInt8), (51 : UInt8), (58 : UInt8), (51 : UInt8), (48 : UInt8)]) &&
                                    decide (fmt (0 : Int) = [(48 : UInt8)]) &&
                                  decide
                                    (fmt (3601 : Int) =
                                      [(49 : UInt8), (58 : UInt8), (48 : UInt8), (48 : UInt8), (58 : UInt8),
                                        (48 : UInt8), (49 : UInt8)])) =
                                true →
                              (604799 : Int) ≤ (604799 : Int)) ∧
                            K [AV.imm (IV.bool true)]) := by kernel_rfl
theorem f3_in (s : List
  UInt8) (n : Int) (K : List AV → Prop) : evSpec C6 Tryd.f3 [AV.imm (IV.str s), AV.imm (IV.int IntKind.i64 n)] K =
  (brn (!true || decide ((↑(List.length s) : Int) > (1000 : Int))) (K [AV.imm (IV.bool true)])
  ((↑(List.length s) : Int) ≤ big ∧
    (↑(List.length s) : Int) ≤ big ∧
      ((Prod.fst (parse s) == Prod.fst (parse s) && Prod.fst (Prod.snd (parse s)) == Prod.fst (Prod.snd (parse s)) &&
                Prod.snd (Prod.snd (parse s)) == Prod.snd (Prod.snd (parse s)) &&
              inRange n == inRange n) =
            true →
          (!inRange n) = false → (-604799 : Int) ≤ n) ∧
        ((Prod.fst (parse s) == Prod.fst (parse s) && Prod.fst (Prod.snd (parse s)) == Prod.fst (Prod.snd (parse s)) &&
                  Prod.snd (Prod.snd (parse s)) == Prod.snd (Prod.snd (parse s)) &&
                inRange n == inRange n) =
              true →
            (!inRange n) = false → n ≤ (604799 : Int)) ∧
          ((Prod.fst (parse s) == Prod.fst (parse s) &&
                      Prod.fst (Prod.snd (parse s)) == Prod.fst (Prod.snd (parse s)) &&
                    Prod.snd (Prod.snd (parse s)) == Prod.snd (Prod.snd (parse s)) &&
                  inRange n == inRange n) =
                true →
              (!inRange n) = false → (-604799 : Int) ≤ n) ∧
            ((Prod.fst (parse s) == Prod.fst (parse s) &&
                        Prod.fst (Prod.snd (parse s)) == Prod.fst (Prod.snd (parse s)) &&
                      Prod.snd (Prod.snd (parse s)) == Prod.snd (Prod.snd (parse s)) &&
                    inRange n == inRange n) =
                  true →
                (!inRange n) = false → n ≤ (604799 : Int)) ∧
              K
                [AV.imm
                    (IV.bool
                      (Prod.fst (parse s) == Prod.fst (parse s) &&
                              Prod.fst (Prod.snd (parse s)) == Prod.fst (Prod.snd (parse s)) &&
                            Prod.snd (Prod.snd (parse s)) == Prod.snd (Prod.snd (parse s)) &&
                          inRange n == inRange n &&
                        (!inRange n || decide (fmt n = fmt n))))])) := by kernel_rfl
theorem f4_in (n : Int) (m : Int) (K : List AV →
  Prop) : evSpec C6 Tryd.f4 [AV.imm (IV.int IntKind.i64 n), AV.imm (IV.int IntKind.i64 m)] K =
  (brn (!true || !inRange n || !inRange m) (K [AV.imm (IV.bool true)])
  ((-604799 : Int) ≤ n ∧
    n ≤ (604799 : Int) ∧
      (↑(List.length (fmt n)) : Int) ≤ big ∧
        ((!Prod.snd (Prod.snd (parse (fmt n))) || Prod.fst (parse (fmt n)) != n ||
                Prod.fst (Prod.snd (parse (fmt n))) != (↑(List.length (fmt n)) : Int)) =
              false →
            (-604799 : Int) ≤ m) ∧
          ((!Prod.snd (Prod.snd (parse (fmt n))) || Prod.fst (parse (fmt n)) != n ||
                  Prod.fst (Prod.snd (parse (fmt n))) != (↑(List.length (fmt n)) : Int)) =
                false →
              m ≤ (604799 : Int)) ∧
            brn
              (!Prod.snd (Prod.snd (parse (fmt n))) || Prod.fst (parse (fmt n)) != n ||
                  Prod.fst (Prod.snd (parse (fmt n))) != (↑(List.length (fmt n)) : Int) ||
                !decide (fmt n = fmt m) == (n == m))
              (K [AV.imm (IV.bool false)])
              (brn (decide (n < (0 : Int)))
                ((0 : Int) ≤ (0 : Int) ∧
                  (0 : Int) < (↑(List.length (fmt n)) : Int) ∧
                    K
                      [AV.imm
                          (IV.bool
                            ((↑(UInt8.toNat (List.getD (fmt n) (Int.toNat (0 : Int)) (0 : UInt8))) : Int) ==
                              (45 : Int)))])
                (List.length [(43 : UInt8)] + List.length (fmt n) ≤ (9223372036854775807 : Nat) ∧
                  (↑(List.length ([(43 : UInt8)] ++ fmt n)) : Int) ≤ big ∧
                    List.length [(45 : UInt8)] + List.length (fmt n) ≤ (9223372036854775807 : Nat) ∧
                      (↑(List.length ([(45 : UInt8)] ++ fmt n)) : Int) ≤ big ∧
                        K
                          [AV.imm
                              (IV.bool
                                (Prod.snd (Prod.snd (parse ([(43 : UInt8)] ++ fmt n))) &&
                                          Prod.fst (parse ([(43 : UInt8)] ++ fmt n)) == n &&
                                        Prod.fst (Prod.snd (parse ([(43 : UInt8)] ++ fmt n))) ==
                                          IntKind.wrap IntKind.i64 ((↑(List.length (fmt n)) : Int) + (1 : Int)) &&
                                      Prod.snd (Prod.snd (parse ([(45 : UInt8)] ++ fmt n))) &&
                                    Prod.fst (parse ([(45 : UInt8)] ++ fmt n)) ==
                                      IntKind.wrap IntKind.i64 ((0 : Int) - n) &&
                                  Prod.fst (Prod.snd (parse ([(45 : UInt8)] ++ fmt n))) ==
                                    IntKind.wrap IntKind.i64
                                      ((↑(List.length (fmt n)) : Int) + (1 : Int))))])))) := by kernel_rfl
theorem f5_in (s : List UInt8) (K : List AV → Prop) : evSpec C6 Tryd.f5 [AV.imm (IV.str s)] K =
  (brn (!true || decide ((↑(List.length s) : Int) > (1000 : Int))) (K [AV.imm (IV.bool true)])
  ((↑(List.length s) : Int) ≤ big ∧
    brn (!Prod.snd (Prod.snd (parse s)))
      (K [AV.imm (IV.bool (Prod.fst (parse s) == (0 : Int) && Prod.fst (Prod.snd (parse s)) == (0 : Int)))])
      (brn
        (decide (Prod.fst (Prod.snd (parse s)) < (1 : Int)) ||
            decide (Prod.fst (Prod.snd (parse s)) > (↑(List.length s) : Int)) ||
          !inRange (Prod.fst (parse s)))
        (K [AV.imm (IV.bool false)])
        ((0 : Int) ≤ Prod.fst (Prod.snd (parse s)) ∧
          Prod.fst (Prod.snd (parse s)) ≤ (↑(List.length s) : Int) ∧
            (↑(List.length
                      (List.take (Int.toNat (Prod.fst (Prod.snd (parse s))) - (0 : Nat)) (List.drop (0 : Nat) s))) :
                  Int) ≤
                big ∧
              ((Prod.snd
                          (Prod.snd
                            (parse
                              (List.take (Int.toNat (Prod.fst (Prod.snd (parse s))) - (0 : Nat))
                                (List.drop (0 : Nat) s)))) &&
                        Prod.fst
                            (parse
                              (List.take (Int.toNat (Prod.fst (Prod.snd (parse s))) - (0 : Nat))
                                (List.drop (0 : Nat) s))) ==
                          Prod.fst (parse s) &&
                      Prod.fst
                          (Prod.snd
                            (parse
                              (List.take (Int.toNat (Prod.fst (Prod.snd (parse s))) - (0 : Nat))
                                (List.drop (0 : Nat) s)))) ==
                        Prod.fst (Prod.snd (parse s))) =
                    true →
                  (-604799 : Int) ≤ Prod.fst (parse s)) ∧
                ((Prod.snd
                            (Prod.snd
                              (parse
                                (List.take (Int.toNat (Prod.fst (Prod.snd (parse s))) - (0 : Nat))
                                  (List.drop (0 : Nat) s)))) &&
                          Prod.fst
                              (parse
                                (List.take (Int.toNat (Prod.fst (Prod.snd (parse s))) - (0 : Nat))
                                  (List.drop (0 : Nat) s))) ==
                            Prod.fst (parse s) &&
                        Prod.fst
                            (Prod.snd
                              (parse
                                (List.take (Int.toNat (Prod.fst (Prod.snd (parse s))) - (0 : Nat))
                                  (List.drop (0 : Nat) s)))) ==
                          Prod.fst (Prod.snd (parse s))) =
                      true →
                    Prod.fst (parse s) ≤ (604799 : Int)) ∧
                  K
                    [AV.imm
                        (IV.bool
                          (Prod.snd
                                  (Prod.snd
                                    (parse
                                      (List.take (Int.toNat (Prod.fst (Prod.snd (parse s))) - (0 : Nat))
                                        (List.drop (0 : Nat) s)))) &&
                                Prod.fst
                                    (parse
                                      (List.take (Int.toNat (Prod.fst (Prod.snd (parse s))) - (0 : Nat))
                                        (List.drop (0 : Nat) s))) ==
                                  Prod.fst (parse s) &&
                              Prod.fst
                                  (Prod.snd
                                    (parse
                                      (List.take (Int.toNat (Prod.fst (Prod.snd (parse s))) - (0 : Nat))
                                        (List.drop (0 : Nat) s)))) ==
                                Prod.fst (Prod.snd (parse s)) &&
                            decide
                              ((↑(List.length (fmt (Prod.fst (parse s)))) : Int) ≤
                                Prod.fst (Prod.snd (parse s)))))])))) := by kernel_rfl
theorem f7_in (a : Int) (b : Int) (K : List AV →
  Prop) : evSpec C6 Tryd.f7 [AV.imm (IV.int IntKind.i64 a), AV.imm (IV.int IntKind.u8 b)] K =
  (brn (!true || decide (a < (0 : Int)) || !inRange a) (K [AV.imm (IV.bool true)])
  ((-604799 : Int) ≤ a ∧
    a ≤ (604799 : Int) ∧
      LoopI C6 (bodyOf Tryd.f7) (0 : Nat)
        (St.mk
          [AV.imm (IV.int IntKind.i64 a), AV.imm (IV.int IntKind.u8 b), AV.dead, AV.dead, AV.imm (IV.bool false),
            AV.imm (IV.str (fmt a)), AV.imm (IV.int IntKind.i64 (0 : Int)), AV.dead, AV.dead, AV.dead, AV.dead, AV.dead,
            AV.dead, AV.dead, AV.dead, AV.dead, AV.dead, AV.imm (IV.bool true), AV.imm (IV.bool false),
            AV.imm (IV.bool false), AV.opt [((19 : Nat), false)] (AV.imm (IV.int IntKind.i64 a)),
            AV.opt [((19 : Nat), false)] (AV.imm (IV.bool (decide (a < (0 : Int))))),
            AV.imm (IV.bool (!true || decide (a < (0 : Int)))), AV.imm (IV.bool (!true || decide (a < (0 : Int)))),
            AV.opt [((23 : Nat), false)] (AV.imm (IV.int IntKind.i64 a)),
            AV.opt [((23 : Nat), false)] (AV.imm (IV.bool (inRange a))),
            AV.opt [((23 : Nat), false)] (AV.imm (IV.bool !inRange a)),
            AV.imm (IV.bool (!true || decide (a < (0 : Int)) || !inRange a)), AV.dead, AV.imm (IV.int IntKind.i64 a),
            AV.imm (IV.str (fmt a)), AV.dead, AV.dead, AV.dead, AV.dead, AV.dead, AV.dead, AV.dead, AV.dead, AV.dead,
            AV.dead, AV.dead, AV.dead, AV.dead, AV.dead, AV.dead, AV.dead, AV.dead, AV.dead, AV.dead, AV.dead, AV.dead,
            AV.dead, AV.dead, AV.dead, AV.dead, AV.dead, AV.dead, AV.dead, AV.dead, AV.dead, AV.dead, AV.dead, AV.dead,
            AV.dead, AV.dead, AV.dead, AV.dead, AV.dead, AV.dead, AV.dead, AV.dead, AV.dead, AV.dead, AV.dead, AV.dead,
            AV.dead, AV.dead, AV.dead, AV.dead, AV.dead, AV.dead, AV.dead, AV.dead, AV.dead, AV.dead, AV.dead, AV.dead,
            AV.dead, AV.dead, AV.dead, AV.dead, AV.dead, AV.dead, AV.dead, AV.dead, AV.dead, AV.dead, AV.dead, AV.dead,
            AV.dead, AV.dead, AV.dead, AV.dead, AV.dead, AV.dead, AV.dead, AV.dead, AV.dead, AV.dead, AV.dead, AV.dead,
            AV.dead, AV.dead, AV.dead, AV.dead, AV.dead, AV.dead, AV.dead, AV.dead, AV.dead, AV.dead, AV.dead, AV.dead,
            AV.dead, AV.dead, AV.dead]
          [] (0 : Nat) [])
        (finK C6 Tryd.f7 K))) := by kernel_rfl
end Z08

set_option maxRecDepth 100000
namespace Z08
open Go Go.AE Go.Proofs
attribute [local irreducible] loopK evCode evSpec loopB norm finK c14

theorem ok8 : ∀ args pres res, sAwake args = some (pres, res) → SpecOK Tryd.prog G8 8 args pres res := by
  intro args pres res h
  unfold sAwake at h
  split at h
  case h_2 => cases h
  cases h
  refine mk okE5 at8 (by decide) rfl (fun _ K hK => ?_)
  rw [show cx E5 = C5 from rfl, f8_in]
  repeat' refine And.intro ?_ ?_
  all_goals first | decide | exact fun _ => by decide | exact Eq.mp (by kernel_rfl) hK
theorem okE6 : EOK Tryd.prog E6 G8 := addE_ok okE5 ok8
theorem f3_ev (s : List UInt8) (n : Int) (K : List AV → Prop) (hK : K [bo true]) : evSpec C6 Tryd.f3 [.imm (.str s), .imm (.int .i64 n)] K := by
  rw [f3_in]
  refine brn_intro (fun h => hK) (fun h => ?_)
  have hl : s.length ≤ 1000 := by simp at h; omega
  have hr := inRange_iff n
  have hi : (!inRange n) = false → -604799 ≤ n ∧ n ≤ 604799 := fun h => hr.1 (by simpa using h)
  have hb : (s.length : Int) ≤ big := by unfold big; omega
  refine ⟨hb, hb, fun _ h => (hi h).1, fun _ h => (hi h).2, fun _ h => (hi h).1, fun _ h => (hi h).2, ?_⟩
  simpa [bo] using hK
theorem fmt_len {n : Int} (h0 : -604799 ≤ n) (h1 : n ≤ 604799) : 1 ≤ (fmt n).length ∧ (fmt n).length ≤ 10 := by
  unfold fmt
  have := fmtN_len n.natAbs (by omega)
  split
  · simp only [List.length_cons]; omega
  · omega
theorem f4_ev (n m : Int) (K : List AV → Prop) (hK : K [bo true]) : evSpec C6 Tryd.f4 [.imm (.int .i64 n), .imm (.int .i64 m)] K := by
  rw [f4_in]
  refine brn_intro (fun h => hK) (fun h => ?_)
  simp only [Bool.not_true, Bool.false_or, Bool.or_eq_false_iff, Bool.not_eq_false', inRange_iff] at h
  obtain ⟨⟨h0, h1⟩, g0, g1⟩ := h
  have hp := parse_fmt h0 h1
  have hl := fmt_len h0 h1
  have hb : ∀ k : Nat, k ≤ 100 → (k : Int) ≤ big := fun k hk => by unfold big; omega
  refine ⟨h0, h1, hb _ (by omega), fun _ => g0, fun _ => g1, brn_intro (fun h => ?_) (fun _ => brn_intro (fun h => ?_) (fun h => ?_))⟩
  · exfalso
    rw [hp] at h
    have := fmt_inj h0 h1 g0 g1
    by_cases hnm : n = m
    · subst hnm; simp at h
    · have : fmt n ≠ fmt m := fun h => hnm (this.1 h)
      simp [hnm, this] at h
  · have hn : n < 0 := by simpa using h
    refine ⟨by omega, by omega, ?_⟩
    have : (fmt n).getD 0 0 = 45 := by unfold fmt; rw [if_pos hn]; rfl
    rw [show Int.toNat 0 = 0 from rfl, this]
    exact hK
  · have hn : ¬ n < 0 := by simpa using h
    have ef : fmt n = fmtN n.natAbs := by unfold fmt; rw [if_neg hn]
    have e1 := parse_fmtN (p := [43]) (Or.inr (Or.inl rfl)) (show n.natAbs ≤ 604799 by omega)
    have e2 := parse_fmtN (p := [45]) (Or.inr (Or.inr rfl)) (show n.natAbs ≤ 604799 by omega)
    rw [if_neg (by simp), ← ef] at e1
    rw [if_pos rfl, ← ef] at e2
    refine ⟨by simp; omega, hb _ (by simp; omega), by simp; omega, hb _ (by simp; omega), ?_⟩
    rw [e1, e2, wrap64 (n := (((fmt n).length : Nat) : Int) + 1) (by omega) (by omega), wrap64 (n := 0 - n) (by omega) (by omega)]
    have a1 : (1 * (n.natAbs : Int) == n) = true := by simp only [beq_iff_eq]; omega
    have a2 : (-1 * (n.natAbs : Int) == 0 - n) = true := by simp only [beq_iff_eq]; omega
    have a3 : (((([43] : List UInt8).length + (fmt n).length : Nat) : Int) == (((fmt n).length : Nat) : Int) + 1) = true := by simp only [beq_iff_eq, List.length_singleton]; omega
    have a4 : (((([45] : List UInt8).length + (fmt n).length : Nat) : Int) == (((fmt n).length : Nat) : Int) + 1) = true := by simp only [beq_iff_eq, List.length_singleton]; omega
    simp only [a1, a2, a3, a4, Bool.and_self]
    exact hK
/-! what is parsed -/
theorem mem_run {l : List UInt8} {b : UInt8} (h : b ∈ runD l) : isD b = true := by
  unfold runD at h
  induction l with
  | nil => cases h
  | cons c l ih =>
    rw [List.takeWhile_cons] at h
    cases hc : isD c with
    | false => rw [hc] at h; simp at h
    | true =>
      rw [hc] at h
      rcases List.mem_cons.1 h with rfl | h
      · exact hc
      · exact ih h
theorem dropWhile_head (l : List UInt8) : l.dropWhile isD = [] ∨ isD ((l.dropWhile isD).getD 0 0) = false := by
  induction l with
  | nil => exact Or.inl rfl
  | cons b l ih =>
    rw [List.dropWhile_cons]
    cases hb : isD b with
    | true => simpa using ih
    | false => right; simpa using hb
theorem parse_parts {s : List UInt8} (h : (parse s).2.2 = true) : ∃ p ds r : List UInt8, s = p ++ (ds ++ r) ∧ (p = [] ∨ p = [43] ∨ p = [45]) ∧ (∀ b ∈ ds, isD b = true) ∧ 1 ≤ ds.length ∧ ds.length ≤ 3 ∧ num ds ≤ 167 ∧ (r = [] ∨ isD (r.getD 0 0) = false) := by
  have hh : (hoursP s (off s)).2.2 = true := by
    unfold parse at h
    cases hc : (hoursP s (off s)).2.2 with
    | true => rfl
    | false => rw [hc] at h; simp at h
  refine ⟨s.take (off s), runD (s.drop (off s)), (s.drop (off s)).dropWhile isD, ?_, ?_, fun b hb => ?_, ?_, ?_, ?_, dropWhile_head _⟩
  · unfold runD
    rw [List.takeWhile_append_dropWhile, List.take_append_drop]
  · cases s with
    | nil => left; rfl
    | cons b r =>
      have ho : off (b :: r) = if b = 45 ∨ b = 43 then 1 else 0 := rfl
      rw [ho]
      by_cases hb : b = 45 ∨ b = 43
      · rw [if_pos hb]
        rcases hb with rfl | rfl
        · right; right; rfl
        · right; left; rfl
      · rw [if_neg hb]; left; rfl
  · exact mem_run hb
  all_goals
    rcases hours_of s (off s) with ⟨e, _⟩ | ⟨h3, e⟩
    · rw [e] at hh; cases hh
    · rw [e] at hh
      simp only [Bool.and_eq_true, decide_eq_true_eq] at hh
      omega
theorem field_take (l : List UInt8) (k : Nat) (h : 3 ≤ k) : field (l.take k) = field l := by
  match l, k, h with
  | [], _, _ => simp
  | [c], k + 1, _ => simp
  | [c, a], k + 2, _ => simp
  | c :: a :: b :: r, k + 3, _ => rfl
theorem field_len {l : List UInt8} {m : Nat} (h : field l = some m) : 3 ≤ l.length ∧ m < 60 ∧ l.getD 0 0 = 58 := by
  unfold field at h
  split at h
  · split at h
    · rename_i hc
      cases h
      exact ⟨by simp, hc.2.2.2, hc.1⟩
    · cases h
  · cases h
theorem fl_facts (r : List UInt8) : fl r = (0, 0) ∨ (∃ m : Nat, m < 60 ∧ fl r = (60 * (m : Int), 3) ∧ 3 ≤ r.length ∧ r.getD 0 0 = 58) ∨
    ∃ m c : Nat, m < 60 ∧ c < 60 ∧ fl r = (60 * (m : Int) + c, 6) ∧ 6 ≤ r.length ∧ r.getD 0 0 = 58 := by
  unfold fl
  cases h : field r with
  | none => left; rfl
  | some m =>
    obtain ⟨a1, a2, a3⟩ := field_len h
    cases h2 : field (r.drop 3) with
    | none => right; left; exact ⟨m, a2, rfl, a1, a3⟩
    | some c =>
      obtain ⟨b1, b2, _⟩ := field_len h2
      rw [List.length_drop] at b1
      right; right; exact ⟨m, c, a2, b2, rfl, by omega, a3⟩
theorem fl_take (r : List UInt8) : fl (r.take (fl r).2) = fl r := by
  unfold fl
  cases h : field r with
  | none => simp [field]
  | some m =>
    cases h2 : field (r.drop 3) with
    | none =>
      simp only
      rw [field_take _ _ (by omega), h]
      have : (r.take 3).drop 3 = [] := by rw [List.drop_eq_nil_of_le]; simp; omega
      rw [this]
      rfl
    | some c =>
      simp only
      rw [field_take _ _ (by omega), h]
      have : (r.take 6).drop 3 = (r.drop 3).take 3 := by rw [List.drop_take]
      rw [this, field_take _ _ (by omega), h2]
theorem num_lt {ds : List UInt8} (hd : ∀ b ∈ ds, isD b = true) : num ds < 10 ^ ds.length := by
  have e : runD ds = ds := by
    have := runD_app (r := []) hd (Or.inl rfl)
    rwa [List.append_nil] at this
  have := num_le ds ds.length (by rw [e]; exact Nat.le_refl _)
  rwa [e, List.take_length] at this
theorem fmt_shorter {ds : List UInt8} (hd : ∀ b ∈ ds, isD b = true) (h1 : 1 ≤ ds.length) (h3 : ds.length ≤ 3) (S k : Nat)
    (hk : (S = 0 ∧ k = 0) ∨ (∃ m : Nat, m < 60 ∧ S = 60 * m ∧ k = 3) ∨ (∃ m c : Nat, m < 60 ∧ c < 60 ∧ S = 60 * m + c ∧ k = 6)) : (fmtN (num ds * 3600 + S)).length ≤ ds.length + k := by
  have hS : S < 3600 := by rcases hk with ⟨_, _⟩ | ⟨m, _, _, _⟩ | ⟨m, c, _, _, _, _⟩ <;> omega
  rw [fmtN_eq, List.length_append]
  have e1 : (num ds * 3600 + S) / 3600 = num ds := by omega
  have e2 : (num ds * 3600 + S) % 3600 = S := by omega
  have e3 : (num ds * 3600 + S) % 60 = S % 60 := by omega
  unfold tl
  rw [e1, e2, e3]
  have hlt := num_lt hd
  have a1 : (dd (num ds)).length ≤ ds.length := by
    unfold dd
    have : ds.length = 1 ∨ ds.length = 2 ∨ ds.length = 3 := by omega
    rcases this with h | h | h <;> rw [h] at hlt ⊢
    · rw [if_pos (by omega)]; simp
    · split
      · simp
      · simp
    · split
      · simp
      · split <;> simp
  have a2 : ((if S = 0 then [] else two (S / 60)) ++ (if S % 60 = 0 then [] else two (S % 60))).length ≤ k := by
    rw [List.length_append]
    rcases hk with ⟨h, h'⟩ | ⟨m, _, h, h'⟩ | ⟨m, c, _, _, h, h'⟩
    · subst h; simp
    · have : S % 60 = 0 := by omega
      rw [if_pos this, h']
      split <;> simp [two_len]
    · rw [h']
      split <;> split <;> simp [two_len]
  omega
theorem f5_ev (s : List UInt8) (K : List AV → Prop) (hK : K [bo true]) : evSpec C6 Tryd.f5 [.imm (.str s)] K := by
  rw [f5_in]
  refine brn_intro (fun h => hK) (fun h => ?_)
  have hl : s.length ≤ 1000 := by simp at h; omega
  have hb : ∀ k : Nat, k ≤ 10000 → (k : Int) ≤ big := fun k hk => by unfold big; omega
  refine ⟨hb _ (by omega), brn_intro (fun h => ?_) (fun h => ?_)⟩
  · have hz : parse s = (0, 0, false) := by
      have h2 : (parse s).2.2 = false := by simpa using h
      unfold parse at h2 ⊢
      split at h2
      · cases h2
      · rename_i h3; rw [if_neg h3]
    rw [hz]
    exact hK
  · have h2 : (parse s).2.2 = true := by simpa using h
    obtain ⟨p, ds, r, hs, hp, hd, h1, h3, h167, hr⟩ := parse_parts h2
    have e := parse_comp hp hd h1 h3 h167 hr
    have hff := fl_facts r
    have hkr : (fl r).2 ≤ r.length := by
      rcases hff with e | ⟨m, _, e, hl, _⟩ | ⟨m, c, _, _, e, hl, _⟩ <;> rw [e]
      · exact Nat.zero_le _
      · exact hl
      · exact hl
    have hr' : r.take (fl r).2 = [] ∨ isD ((r.take (fl r).2).getD 0 0) = false := by
      rcases hff with e | ⟨m, _, e, hl, h58⟩ | ⟨m, c, _, _, e, hl, h58⟩ <;> rw [e]
      · left; rfl
      all_goals
        right
        cases r with
        | nil => simp at hl
        | cons b r =>
          have h58' : b = 58 := h58
          subst h58'
          rfl
    have e' := parse_comp hp hd h1 h3 h167 hr'
    rw [fl_take] at e'
    have htake : s.take (p.length + ds.length + (fl r).2) = p ++ (ds ++ r.take (fl r).2) := by
      rw [hs, ← List.append_assoc, ← List.append_assoc, ← List.length_append, List.take_length_add_append]
    have hslen : s.length = p.length + ds.length + r.length := by rw [hs]; simp; omega
    rw [← hs] at e
    obtain ⟨S, k, hSk, efl⟩ : ∃ S k : Nat, ((S = 0 ∧ k = 0) ∨ (∃ m : Nat, m < 60 ∧ S = 60 * m ∧ k = 3) ∨ (∃ m c : Nat, m < 60 ∧ c < 60 ∧ S = 60 * m + c ∧ k = 6)) ∧ fl r = ((S : Int), k) := by
      rcases hff with e | ⟨m, hm, e, hl, h58⟩ | ⟨m, c, hm, hc, e, hl, h58⟩
      · exact ⟨0, 0, Or.inl ⟨rfl, rfl⟩, e⟩
      · exact ⟨60 * m, 3, Or.inr (Or.inl ⟨m, hm, rfl, rfl⟩), by rw [e]; simp⟩
      · exact ⟨60 * m + c, 6, Or.inr (Or.inr ⟨m, c, hm, hc, rfl, rfl⟩), by rw [e]; simp⟩
    have hS : S < 3600 := by rcases hSk with ⟨_, _⟩ | ⟨m, _, _, _⟩ | ⟨m, c, _, _, _, _⟩ <;> omega
    have hsh := fmt_shorter hd h1 h3 S k hSk
    rw [efl] at e e' htake hkr
    simp only at e e' htake hkr
    have hpl : p.length ≤ 1 := by rcases hp with rfl | rfl | rfl <;> simp
    generalize ha : (if p = [45] then (-1 : Int) else 1) * ((num ds : Int) * 3600 + (S : Int)) = a at e e'
    have habs : a.natAbs = num ds * 3600 + S ∧ (a < 0 → p = [45]) := by
      by_cases hp4 : p = [45]
      · rw [if_pos hp4] at ha; exact ⟨by omega, fun _ => hp4⟩
      · rw [if_neg hp4] at ha; exact ⟨by omega, fun h => by omega⟩
    have hrange : -604799 ≤ a ∧ a ≤ 604799 := by omega
    have hlen : (fmt a).length ≤ p.length + ds.length + k := by
      unfold fmt
      rw [habs.1]
      by_cases hneg : a < 0
      · rw [if_pos hneg, List.length_cons, habs.2 hneg]
        simp only [List.length_singleton]
        omega
      · rw [if_neg hneg]; omega
    have hin := (inRange_iff a).2 hrange
    rw [e]
    simp only [Int.toNat_natCast, Nat.sub_zero, List.drop_zero, hin]
    rw [htake, e']
    refine brn_intro (fun h => ?_) (fun _ => ?_)
    · exfalso
      simp only [Bool.not_true, Bool.or_false, Bool.or_eq_true, decide_eq_true_eq] at h
      omega
    · refine ⟨by omega, by omega, hb _ ?_, fun _ => hrange.1, fun _ => hrange.2, ?_⟩
      · simp only [List.length_append, List.length_take]; omega
      · have a5 : decide (((fmt a).length : Int) ≤ ((p.length + ds.length + k : Nat) : Int)) = true := by simp only [decide_eq_true_eq]; omega
        simp only [a5, beq_self_eq_true, Bool.and_self]
        exact hK
end Z08

set_option maxRecDepth 100000
namespace Z08
open Go Go.AE Go.Proofs
attribute [local irreducible] loopK evCode evSpec loopB norm
theorem f6_a (a : Int) (b : Int) (c : Int) (k : AX →
  St → Prop) : evCode C6 a6 (S6 a b c AV.dead AV.dead AV.dead fun x => AV.dead) k =
  (brn (!true || decide (a > (167 : Int)) || decide (b > (59 : Int)) || decide (c > (59 : Int)))
  (k AX.ret
    (St.mk
      [AV.imm (IV.int IntKind.u8 a), AV.imm (IV.int IntKind.u8 b), AV.imm (IV.int IntKind.u8 c), AV.dead, AV.dead,
        AV.dead, AV.imm (IV.bool true), AV.dead, AV.dead, AV.dead, AV.dead, AV.dead, AV.dead, AV.dead, AV.dead, AV.dead,
        AV.dead, AV.dead, AV.dead, AV.imm (IV.bool true), AV.imm (IV.bool false), AV.imm (IV.bool false),
        AV.opt [((21 : Nat), false)] (AV.imm (IV.int IntKind.u8 a)),
        AV.opt [((21 : Nat), false)] (AV.imm (IV.bool (decide (a > (167 : Int))))),
        AV.imm (IV.bool (!true || decide (a > (167 : Int)))), AV.imm (IV.bool (!true || decide (a > (167 : Int)))),
        AV.opt [((25 : Nat), false)] (AV.imm (IV.int IntKind.u8 b)),
        AV.opt [((25 : Nat), false)] (AV.imm (IV.bool (decide (b > (59 : Int))))),
        AV.imm (IV.bool (!true || decide (a > (167 : Int)) || decide (b > (59 : Int)))),
        AV.imm (IV.bool (!true || decide (a > (167 : Int)) || decide (b > (59 : Int)))),
        AV.opt [((29 : Nat), false)] (AV.imm (IV.int IntKind.u8 c)),
        AV.opt [((29 : Nat), false)] (AV.imm (IV.bool (decide (c > (59 : Int))))),
        AV.imm (IV.bool (!true || decide (a > (167 : Int)) || decide (b > (59 : Int)) || decide (c > (59 : Int)))),
        AV.imm (IV.bool true), AV.dead, AV.dead, AV.dead, AV.dead, AV.dead, AV.dead, AV.dead, AV.dead, AV.dead, AV.dead,
        AV.dead, AV.dead, AV.dead, AV.dead, AV.dead, AV.dead, AV.dead, AV.dead, AV.dead, AV.dead, AV.dead, AV.dead,
        AV.dead, AV.dead, AV.dead, AV.dead, AV.dead, AV.dead, AV.dead, AV.dead, AV.dead, AV.dead, AV.dead, AV.dead,
        AV.dead, AV.dead, AV.dead, AV.dead, AV.dead, AV.dead, AV.dead, AV.dead, AV.dead, AV.dead, AV.dead, AV.dead,
        AV.dead, AV.dead, AV.dead, AV.dead, AV.dead, AV.dead, AV.dead, AV.dead, AV.dead, AV.dead, AV.dead, AV.dead,
        AV.dead, AV.dead, AV.dead, AV.dead, AV.dead, AV.dead, AV.dead, AV.dead, AV.dead, AV.dead, AV.dead, AV.dead,
        AV.dead, AV.dead, AV.dead, AV.dead, AV.dead, AV.dead, AV.dead, AV.dead, AV.dead, AV.dead, AV.dead, AV.dead,
        AV.dead, AV.dead, AV.dead, AV.dead, AV.dead, AV.dead, AV.dead, AV.dead, AV.dead, AV.dead]
      [] (0 : Nat) []))
  (k AX.normal
    (St.mk
      [AV.imm (IV.int IntKind.u8 a), AV.imm (IV.int IntKind.u8 b), AV.imm (IV.int IntKind.u8 c), AV.dead, AV.dead,
        AV.dead, AV.imm (IV.bool false), AV.dead, AV.dead, AV.dead, AV.dead, AV.dead, AV.dead, AV.dead, AV.dead,
        AV.dead, AV.dead, AV.dead, AV.dead, AV.imm (IV.bool true), AV.imm (IV.bool false), AV.imm (IV.bool false),
        AV.opt [((21 : Nat), false)] (AV.imm (IV.int IntKind.u8 a)),
        AV.opt [((21 : Nat), false)] (AV.imm (IV.bool (decide (a > (167 : Int))))),
        AV.imm (IV.bool (!true || decide (a > (167 : Int)))), AV.imm (IV.bool (!true || decide (a > (167 : Int)))),
        AV.opt [((25 : Nat), false)] (AV.imm (IV.int IntKind.u8 b)),
        AV.opt [((25 : Nat), false)] (AV.imm (IV.bool (decide (b > (59 : Int))))),
        AV.imm (IV.bool (!true || decide (a > (167 : Int)) || decide (b > (59 : Int)))),
        AV.imm (IV.bool (!true || decide (a > (167 : Int)) || decide (b > (59 : Int)))),
        AV.opt [((29 : Nat), false)] (AV.imm (IV.int IntKind.u8 c)),
        AV.opt [((29 : Nat), false)] (AV.imm (IV.bool (decide (c > (59 : Int))))),
        AV.imm (IV.bool (!true || decide (a > (167 : Int)) || decide (b > (59 : Int)) || decide (c > (59 : Int)))),
        AV.dead, AV.dead, AV.dead, AV.dead, AV.dead, AV.dead, AV.dead, AV.dead, AV.dead, AV.dead, AV.dead, AV.dead,
        AV.dead, AV.dead, AV.dead, AV.dead, AV.dead, AV.dead, AV.dead, AV.dead, AV.dead, AV.dead, AV.dead, AV.dead,
        AV.dead, AV.dead, AV.dead, AV.dead, AV.dead, AV.dead, AV.dead, AV.dead, AV.dead, AV.dead, AV.dead, AV.dead,
        AV.dead, AV.dead, AV.dead, AV.dead, AV.dead, AV.dead, AV.dead, AV.dead, AV.dead, AV.dead, AV.dead, AV.dead,
        AV.dead, AV.dead, AV.dead, AV.dead, AV.dead, AV.dead, AV.dead, AV.dead, AV.dead, AV.dead, AV.dead, AV.dead,
        AV.dead, AV.dead, AV.dead, AV.dead, AV.dead, AV.dead, AV.dead, AV.dead, AV.dead, AV.dead, AV.dead, AV.dead,
        AV.dead, AV.dead, AV.dead, AV.dead, AV.dead, AV.dead, AV.dead, AV.dead, AV.dead, AV.dead, AV.dead, AV.dead,
        AV.dead, AV.dead, AV.dead, AV.dead, AV.dead, AV.dead, AV.dead, AV.dead, AV.dead]
      [] (0 : Nat) []))) := by kernel_rfl
theorem f6_b (a : Int) (b : Int) (c : Int) (t : Nat →
  AV) (k : AX → St → Prop) : evCode C6 b6 (S6 a b c (bo false) AV.dead AV.dead t) k =
  ((100 : Int) ≠ (0 : Int) ∧
  (100 : Int) ≠ (0 : Int) ∧
    (((0 : Int) ≤ Int.tmod a (100 : Int) ∧
          Int.tmod a (100 : Int) < (100 : Int) ∧
            List.length
                    (List.map u8
                      [IntKind.wrap IntKind.u8 ((48 : Int) + IntKind.wrap IntKind.u8 (Int.tdiv a (100 : Int)))]) +
                  List.length
                    [dg (Int.toNat (Int.tmod a (100 : Int)) / (10 : Nat)),
                      dg (Int.toNat (Int.tmod a (100 : Int)) % (10 : Nat))] ≤
                (9223372036854775807 : Nat) ∧
              k AX.normal
                (St.mk
                  [AV.imm (IV.int IntKind.u8 a), AV.imm (IV.int IntKind.u8 b), AV.imm (IV.int IntKind.u8 c), AV.dead,
                    AV.dead, AV.dead, AV.imm (IV.bool false), AV.fn (15 : Nat) [] [],
                    AV.imm
                      (IV.str
                        (List.map u8
                            [IntKind.wrap IntKind.u8 ((48 : Int) + IntKind.wrap IntKind.u8 (Int.tdiv a (100 : Int)))] ++
                          [dg (Int.toNat (Int.tmod a (100 : Int)) / (10 : Nat)),
                            dg (Int.toNat (Int.tmod a (100 : Int)) % (10 : Nat))])),
                    t (9 : Nat), t (10 : Nat), t (11 : Nat), t (12 : Nat), t (13 : Nat), t (14 : Nat), t (15 : Nat),
                    t (16 : Nat), t (17 : Nat), t (18 : Nat), t (19 : Nat), t (20 : Nat), t (21 : Nat), t (22 : Nat),
                    t (23 : Nat), t (24 : Nat), t (25 : Nat), t (26 : Nat), t (27 : Nat), t (28 : Nat), t (29 : Nat),
                    t (30 : Nat), t (31 : Nat), t (32 : Nat), t (33 : Nat), AV.imm (IV.int IntKind.u8 a),
                    AV.imm (IV.int IntKind.u8 (IntKind.wrap IntKind.u8 (Int.tdiv a (100 : Int)))),
                    AV.imm
                      (IV.int IntKind.u8
                        (IntKind.wrap IntKind.u8 ((48 : Int) + IntKind.wrap IntKind.u8 (Int.tdiv a (100 : Int))))),
                    AV.full
                      (IV.bytes
                        (List.map u8
                          [IntKind.wrap IntKind.u8 ((48 : Int) + IntKind.wrap IntKind.u8 (Int.tdiv a (100 : Int)))])),
                    AV.imm
                      (IV.str
                        (List.map u8
                          [IntKind.wrap IntKind.u8 ((48 : Int) + IntKind.wrap IntKind.u8 (Int.tdiv a (100 : Int)))])),
                    AV.fn (15 : Nat) [] [], AV.imm (IV.int IntKind.u8 a),
                    AV.imm (IV.int IntKind.u8 (Int.tmod a (100 : Int))),
                    AV.imm
                      (IV.str
                        [dg (Int.toNat (Int.tmod a (100 : Int)) / (10 : Nat)),
                          dg (Int.toNat (Int.tmod a (100 : Int)) % (10 : Nat))]),
                    AV.imm
                      (IV.str
                        (List.map u8
                            [IntKind.wrap IntKind.u8 ((48 : Int) + IntKind.wrap IntKind.u8 (Int.tdiv a (100 : Int)))] ++
                          [dg (Int.toNat (Int.tmod a (100 : Int)) / (10 : Nat)),
                            dg (Int.toNat (Int.tmod a (100 : Int)) % (10 : Nat))])),
                    t (44 : Nat), t (45 : Nat), t (46 : Nat), t (47 : Nat), t (48 : Nat), t (49 : Nat), t (50 : Nat),
                    t (51 : Nat), t (52 : Nat), t (53 : Nat), t (54 : Nat), t (55 : Nat), t (56 : Nat), t (57 : Nat),
                    t (58 : Nat), t (59 : Nat), t (60 : Nat), t (61 : Nat), t (62 : Nat), t (63 : Nat), t (64 : Nat),
                    t (65 : Nat), t (66 : Nat), t (67 : Nat), t (68 : Nat), t (69 : Nat), t (70 : Nat), t (71 : Nat),
                    t (72 : Nat), t (73 : Nat), t (74 : Nat), t (75 : Nat), t (76 : Nat), t (77 : Nat), t (78 : Nat),
                    t (79 : Nat), t (80 : Nat), t (81 : Nat), t (82 : Nat), t (83 : Nat), t (84 : Nat), t (85 : Nat),
                    t (86 : Nat), t (87 : Nat), t (88 : Nat), t (89 : Nat), t (90 : Nat), t (91 : Nat), t (92 : Nat),
                    t (93 : Nat), t (94 : Nat), t (95 : Nat), t (96 : Nat), t (97 : Nat), t (98 : Nat), t (99 : Nat),
                    t (100 : Nat), t (101 : Nat), t (102 : Nat), t (103 : Nat), t (104 : Nat), t (105 : Nat),
                    t (106 : Nat), t (107 : Nat), t (108 : Nat), t (109 : Nat), t (110 : Nat), t (111 : Nat),
                    t (112 : Nat), t (113 : Nat), t (114 : Nat), t (115 : Nat), t (116 : Nat), t (117 : Nat),
                    t (118 : Nat), t (119 : Nat), t (120 : Nat), t (121 : Nat), t (122 : Nat), t (123 : Nat),
                    t (124 : Nat), t (125 : Nat)]
                  [] (0 : Nat) [])) ∧
        ((0 : Int) ≤ Int.tmod a (100 : Int) ∧
            Int.tmod a (100 : Int) < (100 : Int) ∧
              List.length
                      (List.map u8
                        [IntKind.wrap IntKind.u8 ((48 : Int) + IntKind.wrap IntKind.u8 (Int.tdiv a (100 : Int)))]) +
                    List.length
                      [dg (Int.toNat (Int.tmod a (100 : Int)) / (10 : Nat)),
                        dg (Int.toNat (Int.tmod a (100 : Int)) % (10 : Nat))] ≤
                  (9223372036854775807 : Nat) ∧
                k AX.normal
                  (St.mk
                    [AV.imm (IV.int IntKind.u8 a), AV.imm (IV.int IntKind.u8 b), AV.imm (IV.int IntKind.u8 c), AV.dead,
                      AV.dead, AV.dead, AV.imm (IV.bool false), AV.fn (15 : Nat) [] [],
                      AV.imm
                        (IV.str
                          (List.map u8
                              [IntKind.wrap IntKind.u8
                                  ((48 : Int) + IntKind.wrap IntKind.u8 (Int.tdiv a (100 : Int)))] ++
                            [dg (Int.toNat (Int.tmod a (100 : Int)) / (10 : Nat)),
                              dg (Int.toNat (Int.tmod a (100 : Int)) % (10 : Nat))])),
                      t (9 : Nat), t (10 : Nat), t (11 : Nat), t (12 : Nat), t (13 : Nat), t (14 : Nat), t (15 : Nat),
                      t (16 : Nat), t (17 : Nat), t (18 : Nat), t (19 : Nat), t (20 : Nat), t (21 : Nat), t (22 : Nat),
                      t (23 : Nat), t (24 : Nat), t (25 : Nat), t (26 : Nat), t (27 : Nat), t (28 : Nat), t (29 : Nat),
                      t (30 : Nat), t (31 : Nat), t (32 : Nat), t (33 : Nat), AV.imm (IV.int IntKind.u8 a),
                      AV.imm (IV.int IntKind.u8 (IntKind.wrap IntKind.u8 (Int.tdiv a (100 : Int)))),
                      AV.imm
                        (IV.int IntKind.u8
                          (IntKind.wrap IntKind.u8 ((48 : Int) + IntKind.wrap IntKind.u8 (Int.tdiv a (100 : Int))))),
                      AV.full
                        (IV.bytes
                          (List.map u8
                            [IntKind.wrap IntKind.u8 ((48 : Int) + IntKind.wrap IntKind.u8 (Int.tdiv a (100 : Int)))])),
                      AV.imm
                        (IV.str
                          (List.map u8
                            [IntKind.wrap IntKind.u8 ((48 : Int) + IntKind.wrap IntKind.u8 (Int.tdiv a (100 : Int)))])),
                      AV.fn (15 : Nat) [] [], AV.imm (IV.int IntKind.u8 a),
                      AV.imm (IV.int IntKind.u8 (Int.tmod a (100 : Int))),
                      AV.imm
                        (IV.str
                          [dg (Int.toNat (Int.tmod a (100 : Int)) / (10 : Nat)),
                            dg (Int.toNat (Int.tmod a (100 : Int)) % (10 : Nat))]),
                      AV.imm
                        (IV.str
                          (List.map u8
                              [IntKind.wrap IntKind.u8
                                  ((48 : Int) + IntKind.wrap IntKind.u8 (Int.tdiv a (100 : Int)))] ++
                            [dg (Int.toNat (Int.tmod a (100 : Int)) / (10 : Nat)),
                              dg (Int.toNat (Int.tmod a (100 : Int)) % (10 : Nat))])),
                      t (44 : Nat), t (45 : Nat), t (46 : Nat), t (47 : Nat), t (48 : Nat), t (49 : Nat), t (50 : Nat),
                      t (51 : Nat), t (52 : Nat), t (53 : Nat), t (54 : Nat), t (55 : Nat), t (56 : Nat), t (57 : Nat),
                      t (58 : Nat), t (59 : Nat), t (60 : Nat), t (61 : Nat), t (62 : Nat), t (63 : Nat), t (64 : Nat),
                      t (65 : Nat), t (66 : Nat), t (67 : Nat), t (68 : Nat), t (69 : Nat), t (70 : Nat), t (71 : Nat),
                      t (72 : Nat), t (73 : Nat), t (74 : Nat), t (75 : Nat), t (76 : Nat), t (77 : Nat), t (78 : Nat),
                      t (79 : Nat), t (80 : Nat), t (81 : Nat), t (82 : Nat), t (83 : Nat), t (84 : Nat), t (85 : Nat),
                      t (86 : Nat), t (87 : Nat), t (88 : Nat), t (89 : Nat), t (90 : Nat), t (91 : Nat), t (92 : Nat),
                      t (93 : Nat), t (94 : Nat), t (95 : Nat), t (96 : Nat), t (97 : Nat), t (98 : Nat), t (99 : Nat),
                      t (100 : Nat), t (101 : Nat), t (102 : Nat), t (103 : Nat), t (104 : Nat), t (105 : Nat),
                      t (106 : Nat), t (107 : Nat), t (108 : Nat), t (109 : Nat), t (110 : Nat), t (111 : Nat),
                      t (112 : Nat), t (113 : Nat), t (114 : Nat), t (115 : Nat), t (116 : Nat), t (117 : Nat),
                      t (118 : Nat), t (119 : Nat), t (120 : Nat), t (121 : Nat), t (122 : Nat), t (123 : Nat),
                      t (124 : Nat), t (125 : Nat)]
                    [] (0 : Nat) [])) ∧
          (0 : Int) ≤ Int.tmod a (100 : Int) ∧
            Int.tmod a (100 : Int) < (100 : Int) ∧
              List.length
                      (List.map u8
                        [IntKind.wrap IntKind.u8 ((48 : Int) + IntKind.wrap IntKind.u8 (Int.tdiv a (100 : Int)))]) +
                    List.length
                      [dg (Int.toNat (Int.tmod a (100 : Int)) / (10 : Nat)),
                        dg (Int.toNat (Int.tmod a (100 : Int)) % (10 : Nat))] ≤
                  (9223372036854775807 : Nat) ∧
                k AX.normal
                  (St.mk
                    [AV.imm (IV.int IntKind.u8 a), AV.imm (IV.int IntKind.u8 b), AV.imm (IV.int IntKind.u8 c), AV.dead,
                      AV.dead, AV.dead, AV.imm (IV.bool false), AV.fn (15 : Nat) [] [],
                      AV.imm
                        (IV.str
                          (List.map u8
                              [IntKind.wrap IntKind.u8
                                  ((48 : Int) + IntKind.wrap IntKind.u8 (Int.tdiv a (100 : Int)))] ++
                            [dg (Int.toNat (Int.tmod a (100 : Int)) / (10 : Nat)),
                              dg (Int.toNat (Int.tmod a (100 : Int)) % (10 : Nat))])),
                      t (9 : Nat), t (10 : Nat), t (11 : Nat), t (12 : Nat), t (13 : Nat), t (14 : Nat), t (15 : Nat),
                      t (16 : Nat), t (17 : Nat), t (18 : Nat), t (19 : Nat), t (20 : Nat), t (21 : Nat), t (22 : Nat),
                      t (23 : Nat), t (24 : Nat), t (25 : Nat), t (26 : Nat), t (27 : Nat), t (28 : Nat), t (29 : Nat),
                      t (30 : Nat), t (31 : Nat), t (32 : Nat), t (33 : Nat), AV.imm (IV.int IntKind.u8 a),
                      AV.imm (IV.int IntKind.u8 (IntKind.wrap IntKind.u8 (Int.tdiv a (100 : Int)))),
                      AV.imm
                        (IV.int IntKind.u8
                          (IntKind.wrap IntKind.u8 ((48 : Int) + IntKind.wrap IntKind.u8 (Int.tdiv a (100 : Int))))),
                      AV.full
                        (IV.bytes
                          (List.map u8
                            [IntKind.wrap IntKind.u8 ((48 : Int) + IntKind.wrap IntKind.u8 (Int.tdiv a (100 : Int)))])),
                      AV.imm
                        (IV.str
                          (List.map u8
                            [IntKind.wrap IntKind.u8 ((48 : Int) + IntKind.wrap IntKind.u8 (Int.tdiv a (100 : Int)))])),
                      AV.fn (15 : Nat) [] [], AV.imm (IV.int IntKind.u8 a),
                      AV.imm (IV.int IntKind.u8 (Int.tmod a (100 : Int))),
                      AV.imm
                        (IV.str
                          [dg (Int.toNat (Int.tmod a (100 : Int)) / (10 : Nat)),
                            dg (Int.toNat (Int.tmod a (100 : Int)) % (10 : Nat))]),
                      AV.imm
                        (IV.str
                          (List.map u8
                              [IntKind.wrap IntKind.u8
                                  ((48 : Int) + IntKind.wrap IntKind.u8 (Int.tdiv a (100 : Int)))] ++
                            [dg (Int.toNat (Int.tmod a (100 : Int)) / (10 : Nat)),
                              dg (Int.toNat (Int.tmod a (100 : Int)) % (10 : Nat))])),
                      t (44 : Nat), t (45 : Nat), t (46 : Nat), t (47 : Nat), t (48 : Nat), t (49 : Nat), t (50 : Nat),
                      t (51 : Nat), t (52 : Nat), t (53 : Nat), t (54 : Nat), t (55 : Nat), t (56 : Nat), t (57 : Nat),
                      t (58 : Nat), t (59 : Nat), t (60 : Nat), t (61 : Nat), t (62 : Nat), t (63 : Nat), t (64 : Nat),
                      t (65 : Nat), t (66 : Nat), t (67 : Nat), t (68 : Nat), t (69 : Nat), t (70 : Nat), t (71 : Nat),
                      t (72 : Nat), t (73 : Nat), t (74 : Nat), t (75 : Nat), t (76 : Nat), t (77 : Nat), t (78 : Nat),
                      t (79 : Nat), t (80 : Nat), t (81 : Nat), t (82 : Nat), t (83 : Nat), t (84 : Nat), t (85 : Nat),
                      t (86 : Nat), t (87 : Nat), t (88 : Nat), t (89 : Nat), t (90 : Nat), t (91 : Nat), t (92 : Nat),
                      t (93 : Nat), t (94 : Nat), t (95 : Nat), t (96 : Nat), t (97 : Nat), t (98 : Nat), t (99 : Nat),
                      t (100 : Nat), t (101 : Nat), t (102 : Nat), t (103 : Nat), t (104 : Nat), t (105 : Nat),
                      t (106 : Nat), t (107 : Nat), t (108 : Nat), t (109 : Nat), t (110 : Nat), t (111 : Nat),
                      t (112 : Nat), t (113 : Nat), t (114 : Nat), t (115 : Nat), t (116 : Nat), t (117 : Nat),
                      t (118 : Nat), t (119 : Nat), t (120 : Nat), t (121 : Nat), t (122 : Nat), t (123 : Nat),
                      t (124 : Nat), t (125 : Nat)]
                    [] (0 : Nat) [])) ∧
      (((0 : Int) ≤ Int.tmod a (100 : Int) ∧
            Int.tmod a (100 : Int) < (100 : Int) ∧
              List.length
                      (List.map u8
                        [IntKind.wrap IntKind.u8 ((48 : Int) + IntKind.wrap IntKind.u8 (Int.tdiv a (100 : Int)))]) +
                    List.length
                      [dg (Int.toNat (Int.tmod a (100 : Int)) / (10 : Nat)),
                        dg (Int.toNat (Int.tmod a (100 : Int)) % (10 : Nat))] ≤
                  (9223372036854775807 : Nat) ∧
                k AX.normal
                  (St.mk
                    [AV.imm (IV.int IntKind.u8 a), AV.imm (IV.int IntKind.u8 b), AV.imm (IV.int IntKind.u8 c), AV.dead,
                      AV.dead, AV.dead, AV.imm (IV.bool false), AV.fn (15 : Nat) [] [],
                      AV.imm
                        (IV.str
                          (List.map u8
                              [IntKind.wrap IntKind.u8
                                  ((48 : Int) + IntKind.wrap IntKind.u8 (Int.tdiv a (100 : Int)))] ++
                            [dg (Int.toNat (Int.tmod a (100 : Int)) / (10 : Nat)),
                              dg (Int.toNat (Int.tmod a (100 : Int)) % (10 : Nat))])),
                      t (9 : Nat), t (10 : Nat), t (11 : Nat), t (12 : Nat), t (13 : Nat), t (14 : Nat), t (15 : Nat),
                      t (16 : Nat), t (17 : Nat), t (18 : Nat), t (19 : Nat), t (20 : Nat), t (21 : Nat), t (22 : Nat),
                      t (23 : Nat), t (24 : Nat), t (25 : Nat), t (26 : Nat), t (27 : Nat), t (28 : Nat), t (29 : Nat),
                      t (30 : Nat), t (31 : Nat), t (32 : Nat), t (33 : Nat), AV.imm (IV.int IntKind.u8 a),
                      AV.imm (IV.int IntKind.u8 (IntKind.wrap IntKind.u8 (Int.tdiv a (100 : Int)))),
                      AV.imm
                        (IV.int IntKind.u8
                          (IntKind.wrap IntKind.u8 ((48 : Int) + IntKind.wrap IntKind.u8 (Int.tdiv a (100 : Int))))),
                      AV.full
                        (IV.bytes
                          (List.map u8
                            [IntKind.wrap IntKind.u8 ((48 : Int) + IntKind.wrap IntKind.u8 (Int.tdiv a (100 : Int)))])),
                      AV.imm
                        (IV.str
                          (List.map u8
                            [IntKind.wrap IntKind.u8 ((48 : Int) + IntKind.wrap IntKind.u8 (Int.tdiv a (100 : Int)))])),
                      AV.fn (15 : Nat) [] [], AV.imm (IV.int IntKind.u8 a),
                      AV.imm (IV.int IntKind.u8 (Int.tmod a (100 : Int))),
                      AV.imm
                        (IV.str
                          [dg (Int.toNat (Int.tmod a (100 : Int)) / (10 : Nat)),
                            dg (Int.toNat (Int.tmod a (100 : Int)) % (10 : Nat))]),
                      AV.imm
                        (IV.str
                          (List.map u8
                              [IntKind.wrap IntKind.u8
                                  ((48 : Int) + IntKind.wrap IntKind.u8 (Int.tdiv a (100 : Int)))] ++
                            [dg (Int.toNat (Int.tmod a (100 : Int)) / (10 : Nat)),
                              dg (Int.toNat (Int.tmod a (100 : Int)) % (10 : Nat))])),
                      t (44 : Nat), t (45 : Nat), t (46 : Nat), t (47 : Nat), t (48 : Nat), t (49 : Nat), t (50 : Nat),
                      t (51 : Nat), t (52 : Nat), t (53 : Nat), t (54 : Nat), t (55 : Nat), t (56 : Nat), t (57 : Nat),
                      t (58 : Nat), t (59 : Nat), t (60 : Nat), t (61 : Nat), t (62 : Nat), t (63 : Nat), t (64 : Nat),
                      t (65 : Nat), t (66 : Nat), t (67 : Nat), t (68 : Nat), t (69 : Nat), t (70 : Nat), t (71 : Nat),
                      t (72 : Nat), t (73 : Nat), t (74 : Nat), t (75 : Nat), t (76 : Nat), t (77 : Nat), t (78 : Nat),
                      t (79 : Nat), t (80 : Nat), t (81 : Nat), t (82 : Nat), t (83 : Nat), t (84 : Nat), t (85 : Nat),
                      t (86 : Nat), t (87 : Nat), t (88 : Nat), t (89 : Nat), t (90 : Nat), t (91 : Nat), t (92 : Nat),
                      t (93 : Nat), t (94 : Nat), t (95 : Nat), t (96 : Nat), t (97 : Nat), t (98 : Nat), t (99 : Nat),
                      t (100 : Nat), t (101 : Nat), t (102 : Nat), t (103 : Nat), t (104 : Nat), t (105 : Nat),
                      t (106 : Nat), t (107 : Nat), t (108 : Nat), t (109 : Nat), t (110 : Nat), t (111 : Nat),
                      t (112 : Nat), t (113 : Nat), t (114 : Nat), t (115 : Nat), t (116 : Nat), t (117 : Nat),
                      t (118 : Nat), t (119 : Nat), t (120 : Nat), t (121 : Nat), t (122 : Nat), t (123 : Nat),
                      t (124 : Nat), t (125 : Nat)]
                    [] (0 : Nat) [])) ∧
          (0 : Int) ≤ Int.tmod a (100 : Int) ∧
            Int.tmod a (100 : Int) < (100 : Int) ∧
              List.length
                      (List.map u8
                        [IntKind.wrap IntKind.u8 ((48 : Int) + IntKind.wrap IntKind.u8 (Int.tdiv a (100 : Int)))]) +
                    List.length
                      [dg (Int.toNat (Int.tmod a (100 : Int)) / (10 : Nat)),
                        dg (Int.toNat (Int.tmod a (100 : Int)) % (10 : Nat))] ≤
                  (9223372036854775807 : Nat) ∧
                k AX.normal
                  (St.mk
                    [AV.imm (IV.int IntKind.u8 a), AV.imm (IV.int IntKind.u8 b), AV.imm (IV.int IntKind.u8 c), AV.dead,
                      AV.dead, AV.dead, AV.imm (IV.bool false), AV.fn (15 : Nat) [] [],
                      AV.imm
                        (IV.str
                          (List.map u8
                              [IntKind.wrap IntKind.u8
                                  ((48 : Int) + IntKind.wrap IntKind.u8 (Int.tdiv a (100 : Int)))] ++
                            [dg (Int.toNat (Int.tmod a (100 : Int)) / (10 : Nat)),
                              dg (Int.toNat (Int.tmod a (100 : Int)) % (10 : Nat))])),
                      t (9 : Nat), t (10 : Nat), t (11 : Nat), t (12 : Nat), t (13 : Nat), t (14 : Nat), t (15 : Nat),
                      t (16 : Nat), t (17 : Nat), t (18 : Nat), t (19 : Nat), t (20 : Nat), t (21 : Nat), t (22 : Nat),
                      t (23 : Nat), t (24 : Nat), t (25 : Nat), t (26 : Nat), t (27 : Nat), t (28 : Nat), t (29 : Nat),
                      t (30 : Nat), t (31 : Nat), t (32 : Nat), t (33 : Nat), AV.imm (IV.int IntKind.u8 a),
                      AV.imm (IV.int IntKind.u8 (IntKind.wrap IntKind.u8 (Int.tdiv a (100 : Int)))),
                      AV.imm
                        (IV.int IntKind.u8
                          (IntKind.wrap IntKind.u8 ((48 : Int) + IntKind.wrap IntKind.u8 (Int.tdiv a (100 : Int))))),
                      AV.full
                        (IV.bytes
                          (List.map u8
                            [IntKind.wrap IntKind.u8 ((48 : Int) + IntKind.wrap IntKind.u8 (Int.tdiv a (100 : Int)))])),
                      AV.imm
                        (IV.str
                          (List.map u8
                            [IntKind.wrap IntKind.u8 ((48 : Int) + IntKind.wrap IntKind.u8 (Int.tdiv a (100 : Int)))])),
                      AV.fn (15 : Nat) [] [], AV.imm (IV.int IntKind.u8 a),
                      AV.imm (IV.int IntKind.u8 (Int.tmod a (100 : Int))),
                      AV.imm
                        (IV.str
                          [dg (Int.toNat (Int.tmod a (100 : Int)) / (10 : Nat)),
                            dg (Int.toNat (Int.tmod a (100 : Int)) % (10 : Nat))]),
                      AV.imm
                        (IV.str
                          (List.map u8
                              [IntKind.wrap IntKind.u8
                                  ((48 : Int) + IntKind.wrap IntKind.u8 (Int.tdiv a (100 : Int)))] ++
                            [dg (Int.toNat (Int.tmod a (100 : Int)) / (10 : Nat)),
                              dg (Int.toNat (Int.tmod a (100 : Int)) % (10 : Nat))])),
                      t (44 : Nat), t (45 : Nat), t (46 : Nat), t (47 : Nat), t (48 : Nat), t (49 : Nat), t (50 : Nat),
                      t (51 : Nat), t (52 : Nat), t (53 : Nat), t (54 : Nat), t (55 : Nat), t (56 : Nat), t (57 : Nat),
                      t (58 : Nat), t (59 : Nat), t (60 : Nat), t (61 : Nat), t (62 : Nat), t (63 : Nat), t (64 : Nat),
                      t (65 : Nat), t (66 : Nat), t (67 : Nat), t (68 : Nat), t (69 : Nat), t (70 : Nat), t (71 : Nat),
                      t (72 : Nat), t (73 : Nat), t (74 : Nat), t (75 : Nat), t (76 : Nat), t (77 : Nat), t (78 : Nat),
                      t (79 : Nat), t (80 : Nat), t (81 : Nat), t (82 : Nat), t (83 : Nat), t (84 : Nat), t (85 : Nat),
                      t (86 : Nat), t (87 : Nat), t (88 : Nat), t (89 : Nat), t (90 : Nat), t (91 : Nat), t (92 : Nat),
                      t (93 : Nat), t (94 : Nat), t (95 : Nat), t (96 : Nat), t (97 : Nat), t (98 : Nat), t (99 : Nat),
                      t (100 : Nat), t (101 : Nat), t (102 : Nat), t (103 : Nat), t (104 : Nat), t (105 : Nat),
                      t (106 : Nat), t (107 : Nat), t (108 : Nat), t (109 : Nat), t (110 : Nat), t (111 : Nat),
                      t (112 : Nat), t (113 : Nat), t (114 : Nat), t (115 : Nat), t (116 : Nat), t (117 : Nat),
                      t (118 : Nat), t (119 : Nat), t (120 : Nat), t (121 : Nat), t (122 : Nat), t (123 : Nat),
                      t (124 : Nat), t (125 : Nat)]
                    [] (0 : Nat) [])) ∧
        (0 : Int) ≤ Int.tmod a (100 : Int) ∧
          Int.tmod a (100 : Int) < (100 : Int) ∧
            List.length
                    (List.map u8
                      [IntKind.wrap IntKind.u8 ((48 : Int) + IntKind.wrap IntKind.u8 (Int.tdiv a (100 : Int)))]) +
                  List.length
                    [dg (Int.toNat (Int.tmod a (100 : Int)) / (10 : Nat)),
                      dg (Int.toNat (Int.tmod a (100 : Int)) % (10 : Nat))] ≤
                (9223372036854775807 : Nat) ∧
              k AX.normal
                (St.mk
                  [AV.imm (IV.int IntKind.u8 a), AV.imm (IV.int IntKind.u8 b), AV.imm (IV.int IntKind.u8 c), AV.dead,
                    AV.dead, AV.dead, AV.imm (IV.bool false), AV.fn (15 : Nat) [] [],
                    AV.imm
                      (IV.str
                        (List.map u8
                            [IntKind.wrap IntKind.u8 ((48 : Int) + IntKind.wrap IntKind.u8 (Int.tdiv a (100 : Int)))] ++
                          [dg (Int.toNat (Int.tmod a (100 : Int)) / (10 : Nat)),
                            dg (Int.toNat (Int.tmod a (100 : Int)) % (10 : Nat))])),
                    t (9 : Nat), t (10 : Nat), t (11 : Nat), t (12 : Nat), t (13 : Nat), t (14 : Nat), t (15 : Nat),
                    t (16 : Nat), t (17 : Nat), t (18 : Nat), t (19 : Nat), t (20 : Nat), t (21 : Nat), t (22 : Nat),
                    t (23 : Nat), t (24 : Nat), t (25 : Nat), t (26 : Nat), t (27 : Nat), t (28 : Nat), t (29 : Nat),
                    t (30 : Nat), t (31 : Nat), t (32 : Nat), t (33 : Nat), AV.imm (IV.int IntKind.u8 a),
                    AV.imm (IV.int IntKind.u8 (IntKind.wrap IntKind.u8 (Int.tdiv a (100 : Int)))),
                    AV.imm
                      (IV.int IntKind.u8
                        (IntKind.wrap IntKind.u8 ((48 : Int) + IntKind.wrap IntKind.u8 (Int.tdiv a (100 : Int))))),
                    AV.full
                      (IV.bytes
                        (List.map u8
                          [IntKind.wrap IntKind.u8 ((48 : Int) + IntKind.wrap IntKind.u8 (Int.tdiv a (100 : Int)))])),
                    AV.imm
                      (IV.str
                        (List.map u8
                          [IntKind.wrap IntKind.u8 ((48 : Int) + IntKind.wrap IntKind.u8 (Int.tdiv a (100 : Int)))])),
                    AV.fn (15 : Nat) [] [], AV.imm (IV.int IntKind.u8 a),
                    AV.imm (IV.int IntKind.u8 (Int.tmod a (100 : Int))),
                    AV.imm
                      (IV.str
                        [dg (Int.toNat (Int.tmod a (100 : Int)) / (10 : Nat)),
                          dg (Int.toNat (Int.tmod a (100 : Int)) % (10 : Nat))]),
                    AV.imm
                      (IV.str
                        (List.map u8
                            [IntKind.wrap IntKind.u8 ((48 : Int) + IntKind.wrap IntKind.u8 (Int.tdiv a (100 : Int)))] ++
                          [dg (Int.toNat (Int.tmod a (100 : Int)) / (10 : Nat)),
                            dg (Int.toNat (Int.tmod a (100 : Int)) % (10 : Nat))])),
                    t (44 : Nat), t (45 : Nat), t (46 : Nat), t (47 : Nat), t (48 : Nat), t (49 : Nat), t (50 : Nat),
                    t (51 : Nat), t (52 : Nat), t (53 : Nat), t (54 : Nat), t (55 : Nat), t (56 : Nat), t (57 : Nat),
                    t (58 : Nat), t (59 : Nat), t (60 : Nat), t (61 : Nat), t (62 : Nat), t (63 : Nat), t (64 : Nat),
                    t (65 : Nat), t (66 : Nat), t (67 : Nat), t (68 : Nat), t (69 : Nat), t (70 : Nat), t (71 : Nat),
                    t (72 : Nat), t (73 : Nat), t (74 : Nat), t (75 : Nat), t (76 : Nat), t (77 : Nat), t (78 : Nat),
                    t (79 : Nat), t (80 : Nat), t (81 : Nat), t (82 : Nat), t (83 : Nat), t (84 : Nat), t (85 : Nat),
                    t (86 : Nat), t (87 : Nat), t (88 : Nat), t (89 : Nat), t (90 : Nat), t (91 : Nat), t (92 : Nat),
                    t (93 : Nat), t (94 : Nat), t (95 : Nat), t (96 : Nat), t (97 : Nat), t (98 : Nat), t (99 : Nat),
                    t (100 : Nat), t (101 : Nat), t (102 : Nat), t (103 : Nat), t (104 : Nat), t (105 : Nat),
                    t (106 : Nat), t (107 : Nat), t (108 : Nat), t (109 : Nat), t (110 : Nat), t (111 : Nat),
                    t (112 : Nat), t (113 : Nat), t (114 : Nat), t (115 : Nat), t (116 : Nat), t (117 : Nat),
                    t (118 : Nat), t (119 : Nat), t (120 : Nat), t (121 : Nat), t (122 : Nat), t (123 : Nat),
                    t (124 : Nat), t (125 : Nat)]
                  [] (0 : Nat) [])) := by kernel_rfl
theorem f6_c (a : Int) (b : Int) (c : Int) (h : List
  UInt8) (t : Nat →
  AV) (K : List AV →
  Prop) : evCode C6 (c6 [Dir.r, Dir.r, Dir.r, Dir.r]) (S6 a b c (bo false) (AV.fn (15 : FuncId) [] []) (st h) t)
  (finK C6 Tryd.f6 K) =
  (List.length h + List.length [(58 : UInt8)] ≤ (9223372036854775807 : Nat) ∧
  (0 : Int) ≤ b ∧
    b < (100 : Int) ∧
      List.length (h ++ [(58 : UInt8)]) + List.length [dg (Int.toNat b / (10 : Nat)), dg (Int.toNat b % (10 : Nat))] ≤
          (9223372036854775807 : Nat) ∧
        List.length (h ++ [(58 : UInt8)] ++ [dg (Int.toNat b / (10 : Nat)), dg (Int.toNat b % (10 : Nat))]) +
              List.length [(58 : UInt8)] ≤
            (9223372036854775807 : Nat) ∧
          (0 : Int) ≤ c ∧
            c < (100 : Int) ∧
              List.length
                      (h ++ [(58 : UInt8)] ++ [dg (Int.toNat b / (10 : Nat)), dg (Int.toNat b % (10 : Nat))] ++
                        [(58 : UInt8)]) +
                    List.length [dg (Int.toNat c / (10 : Nat)), dg (Int.toNat c % (10 : Nat))] ≤
                  (9223372036854775807 : Nat) ∧
                (↑(List.length
                          (h ++ [(58 : UInt8)] ++ [dg (Int.toNat b / (10 : Nat)), dg (Int.toNat b % (10 : Nat))] ++
                              [(58 : UInt8)] ++
                            [dg (Int.toNat c / (10 : Nat)), dg (Int.toNat c % (10 : Nat))])) :
                      Int) ≤
                    big ∧
                  List.length h + List.length [(58 : UInt8)] ≤ (9223372036854775807 : Nat) ∧
                    (0 : Int) ≤ b ∧
                      b < (100 : Int) ∧
                        List.length (h ++ [(58 : UInt8)]) +
                              List.length [dg (Int.toNat b / (10 : Nat)), dg (Int.toNat b % (10 : Nat))] ≤
                            (9223372036854775807 : Nat) ∧
                          (↑(List.length
                                    (h ++ [(58 : UInt8)] ++
                                      [dg (Int.toNat b / (10 : Nat)), dg (Int.toNat b % (10 : Nat))])) :
                                Int) ≤
                              big ∧
                            (↑(List.length h) : Int) ≤ big ∧
                              K
                                [AV.imm
                                    (IV.bool
                                      (Prod.snd
                                                        (Prod.snd
                                                          (parse
                                                            (h ++ [(58 : UInt8)] ++
                                                                  [dg (Int.toNat b / (10 : Nat)),
                                                                    dg (Int.toNat b % (10 : Nat))] ++
                                                                [(58 : UInt8)] ++
                                                              [dg (Int.toNat c / (10 : Nat)),
                                                                dg (Int.toNat c % (10 : Nat))]))) &&
                                                      Prod.fst
                                                          (parse
                                                            (h ++ [(58 : UInt8)] ++
                                                                  [dg (Int.toNat b / (10 : Nat)),
                                                                    dg (Int.toNat b % (10 : Nat))] ++
                                                                [(58 : UInt8)] ++
                                                              [dg (Int.toNat c / (10 : Nat)),
                                                                dg (Int.toNat c % (10 : Nat))])) ==
                                                        IntKind.wrap IntKind.i64
                                                          (IntKind.wrap IntKind.i64
                                                              (IntKind.wrap IntKind.i64
                                                                  ((3600 : Int) * IntKind.wrap IntKind.i64 a) +
                                                                IntKind.wrap IntKind.i64
                                                                  ((60 : Int) * IntKind.wrap IntKind.i64 b)) +
                                                            IntKind.wrap IntKind.i64 c) &&
                                                    Prod.fst
                                                        (Prod.snd
                                                          (parse
                                                            (h ++ [(58 : UInt8)] ++
                                                                  [dg (Int.toNat b / (10 : Nat)),
                                                                    dg (Int.toNat b % (10 : Nat))] ++
                                                                [(58 : UInt8)] ++
                                                              [dg (Int.toNat c / (10 : Nat)),
                                                                dg (Int.toNat c % (10 : Nat))]))) ==
                                                      (9 : Int) &&
                                                  Prod.snd
                                                    (Prod.snd
                                                      (parse
                                                        (h ++ [(58 : UInt8)] ++
                                                          [dg (Int.toNat b / (10 : Nat)),
                                                            dg (Int.toNat b % (10 : Nat))]))) &&
                                                Prod.fst
                                                    (parse
                                                      (h ++ [(58 : UInt8)] ++
                                                        [dg (Int.toNat b / (10 : Nat)),
                                                          dg (Int.toNat b % (10 : Nat))])) ==
                                                  IntKind.wrap IntKind.i64
                                                    (IntKind.wrap IntKind.i64
                                                        (IntKind.wrap IntKind.i64
                                                            (IntKind.wrap IntKind.i64
                                                                ((3600 : Int) * IntKind.wrap IntKind.i64 a) +
                                                              IntKind.wrap IntKind.i64
                                                                ((60 : Int) * IntKind.wrap IntKind.i64 b)) +
                                                          IntKind.wrap IntKind.i64 c) -
                                                      IntKind.wrap IntKind.i64 c) &&
                                              Prod.fst
                                                  (Prod.snd
                                                    (parse
                                                      (h ++ [(58 : UInt8)] ++
                                                        [dg (Int.toNat b / (10 : Nat)),
                                                          dg (Int.toNat b % (10 : Nat))]))) ==
                                                (6 : Int) &&
                                            Prod.snd (Prod.snd (parse h)) &&
                                          Prod.fst (parse h) ==
                                            IntKind.wrap IntKind.i64 ((3600 : Int) * IntKind.wrap IntKind.i64 a) &&
                                        Prod.fst (Prod.snd (parse h)) == (3 : Int)))]) := by kernel_rfl
theorem f7_lp (a : Int) (b : Int) (f : List
  UInt8) (n : Int) (k : AX → St → Prop) : evCode C6 (loopB (bodyOf Tryd.f7) (0 : Nat)) (h7 a b f n) k =
  ((decide (n < (↑(List.length f) : Int)) = true → (0 : Int) ≤ n) ∧
  (decide (n < (↑(List.length f) : Int)) = true → n < (↑(List.length f) : Int)) ∧
    ((decide (n < (↑(List.length f) : Int)) &&
            decide ((↑(UInt8.toNat (List.getD f (Int.toNat n) (0 : UInt8))) : Int) ≥ (48 : Int))) =
          true →
        (0 : Int) ≤ n) ∧
      ((decide (n < (↑(List.length f) : Int)) &&
              decide ((↑(UInt8.toNat (List.getD f (Int.toNat n) (0 : UInt8))) : Int) ≥ (48 : Int))) =
            true →
          n < (↑(List.length f) : Int)) ∧
        brn
          (decide (n < (↑(List.length f) : Int)) &&
              decide ((↑(UInt8.toNat (List.getD f (Int.toNat n) (0 : UInt8))) : Int) ≥ (48 : Int)) &&
            decide ((↑(UInt8.toNat (List.getD f (Int.toNat n) (0 : UInt8))) : Int) ≤ (57 : Int)))
          (k AX.normal
            (St.mk
              [AV.imm (IV.int IntKind.i64 a), AV.imm (IV.int IntKind.u8 b), AV.dead, AV.dead, AV.imm (IV.bool false),
                AV.imm (IV.str f), AV.imm (IV.int IntKind.i64 (IntKind.wrap IntKind.i64 (n + (1 : Int)))), AV.dead,
                AV.dead, AV.dead, AV.dead, AV.dead, AV.dead, AV.dead, AV.dead, AV.dead, AV.dead, AV.dead, AV.dead,
                AV.dead, AV.dead, AV.dead, AV.dead, AV.dead, AV.dead, AV.dead, AV.dead, AV.dead, AV.dead, AV.dead,
                AV.dead, AV.imm (IV.int IntKind.i64 n), AV.imm (IV.str f),
                AV.imm (IV.int IntKind.i64 (↑(List.length f) : Int)),
                AV.imm (IV.bool (decide (n < (↑(List.length f) : Int)))),
                AV.imm (IV.bool (decide (n < (↑(List.length f) : Int)))),
                AV.opt [((35 : Nat), true)] (AV.imm (IV.str f)),
                AV.opt [((35 : Nat), true)] (AV.imm (IV.int IntKind.i64 n)),
                AV.opt [((35 : Nat), true)]
                  (AV.imm (IV.int IntKind.u8 (↑(UInt8.toNat (List.getD f (Int.toNat n) (0 : UInt8))) : Int))),
                AV.opt [((35 : Nat), true)]
                  (AV.imm
                    (IV.bool (decide ((↑(UInt8.toNat (List.getD f (Int.toNat n) (0 : UInt8))) : Int) ≥ (48 : Int))))),
                AV.imm
                  (IV.bool
                    (decide (n < (↑(List.length f) : Int)) &&
                      decide ((↑(UInt8.toNat (List.getD f (Int.toNat n) (0 : UInt8))) : Int) ≥ (48 : Int)))),
                AV.imm
                  (IV.bool
                    (decide (n < (↑(List.length f) : Int)) &&
                      decide ((↑(UInt8.toNat (List.getD f (Int.toNat n) (0 : UInt8))) : Int) ≥ (48 : Int)))),
                AV.opt [((41 : Nat), true)] (AV.imm (IV.str f)),
                AV.opt [((41 : Nat), true)] (AV.imm (IV.int IntKind.i64 n)),
                AV.opt [((41 : Nat), true)]
                  (AV.imm (IV.int IntKind.u8 (↑(UInt8.toNat (List.getD f (Int.toNat n) (0 : UInt8))) : Int))),
                AV.opt [((41 : Nat), true)]
                  (AV.imm
                    (IV.bool (decide ((↑(UInt8.toNat (List.getD f (Int.toNat n) (0 : UInt8))) : Int) ≤ (57 : Int))))),
                AV.imm
                  (IV.bool
                    (decide (n < (↑(List.length f) : Int)) &&
                        decide ((↑(UInt8.toNat (List.getD f (Int.toNat n) (0 : UInt8))) : Int) ≥ (48 : Int)) &&
                      decide ((↑(UInt8.toNat (List.getD f (Int.toNat n) (0 : UInt8))) : Int) ≤ (57 : Int)))),
                AV.imm (IV.int IntKind.i64 n), AV.imm (IV.int IntKind.i64 (IntKind.wrap IntKind.i64 (n + (1 : Int)))),
                AV.dead, AV.dead, AV.dead, AV.dead, AV.dead, AV.dead, AV.dead, AV.dead, AV.dead, AV.dead, AV.dead,
                AV.dead, AV.dead, AV.dead, AV.dead, AV.dead, AV.dead, AV.dead, AV.dead, AV.dead, AV.dead, AV.dead,
                AV.dead, AV.dead, AV.dead, AV.dead, AV.dead, AV.dead, AV.dead, AV.dead, AV.dead, AV.dead, AV.dead,
                AV.dead, AV.dead, AV.dead, AV.dead, AV.dead, AV.dead, AV.dead, AV.dead, AV.dead, AV.dead, AV.dead,
                AV.dead, AV.dead, AV.dead, AV.dead, AV.dead, AV.dead, AV.dead, AV.dead, AV.dead, AV.dead, AV.dead,
                AV.dead, AV.dead, AV.dead, AV.dead, AV.dead, AV.dead, AV.dead, AV.dead, AV.dead, AV.dead, AV.dead,
                AV.dead, AV.dead, AV.dead, AV.dead, AV.dead, AV.dead, AV.dead, AV.dead, AV.dead, AV.dead, AV.dead,
                AV.dead]
              [] (0 : Nat) []))
          (k (AX.exit (0 : Nat))
            (St.mk
              [AV.imm (IV.int IntKind.i64 a), AV.imm (IV.int IntKind.u8 b), AV.dead, AV.dead, AV.imm (IV.bool false),
                AV.imm (IV.str f), AV.imm (IV.int IntKind.i64 n), AV.dead, AV.dead, AV.dead, AV.dead, AV.dead, AV.dead,
                AV.dead, AV.dead, AV.dead, AV.dead, AV.dead, AV.dead, AV.dead, AV.dead, AV.dead, AV.dead, AV.dead,
                AV.dead, AV.dead, AV.dead, AV.dead, AV.dead, AV.dead, AV.dead, AV.imm (IV.int IntKind.i64 n),
                AV.imm (IV.str f), AV.imm (IV.int IntKind.i64 (↑(List.length f) : Int)),
                AV.imm (IV.bool (decide (n < (↑(List.length f) : Int)))),
                AV.imm (IV.bool (decide (n < (↑(List.length f) : Int)))),
                AV.opt [((35 : Nat), true)] (AV.imm (IV.str f)),
                AV.opt [((35 : Nat), true)] (AV.imm (IV.int IntKind.i64 n)),
                AV.opt [((35 : Nat), true)]
                  (AV.imm (IV.int IntKind.u8 (↑(UInt8.toNat (List.getD f (Int.toNat n) (0 : UInt8))) : Int))),
                AV.opt [((35 : Nat), true)]
                  (AV.imm
                    (IV.bool (decide ((↑(UInt8.toNat (List.getD f (Int.toNat n) (0 : UInt8))) : Int) ≥ (48 : Int))))),
                AV.imm
                  (IV.bool
                    (decide (n < (↑(List.length f) : Int)) &&
                      decide ((↑(UInt8.toNat (List.getD f (Int.toNat n) (0 : UInt8))) : Int) ≥ (48 : Int)))),
                AV.imm
                  (IV.bool
                    (decide (n < (↑(List.length f) : Int)) &&
                      decide ((↑(UInt8.toNat (List.getD f (Int.toNat n) (0 : UInt8))) : Int) ≥ (48 : Int)))),
                AV.opt [((41 : Nat), true)] (AV.imm (IV.str f)),
                AV.opt [((41 : Nat), true)] (AV.imm (IV.int IntKind.i64 n)),
                AV.opt [((41 : Nat), true)]
                  (AV.imm (IV.int IntKind.u8 (↑(UInt8.toNat (List.getD f (Int.toNat n) (0 : UInt8))) : Int))),
                AV.opt [((41 : Nat), true)]
                  (AV.imm
                    (IV.bool (decide ((↑(UInt8.toNat (List.getD f (Int.toNat n) (0 : UInt8))) : Int) ≤ (57 : Int))))),
                AV.imm
                  (IV.bool
                    (decide (n < (↑(List.length f) : Int)) &&
                        decide ((↑(UInt8.toNat (List.getD f (Int.toNat n) (0 : UInt8))) : Int) ≥ (48 : Int)) &&
                      decide ((↑(UInt8.toNat (List.getD f (Int.toNat n) (0 : UInt8))) : Int) ≤ (57 : Int)))),
                AV.dead, AV.dead, AV.dead, AV.dead, AV.dead, AV.dead, AV.dead, AV.dead, AV.dead, AV.dead, AV.dead,
                AV.dead, AV.dead, AV.dead, AV.dead, AV.dead, AV.dead, AV.dead, AV.dead, AV.dead, AV.dead, AV.dead,
                AV.dead, AV.dead, AV.dead, AV.dead, AV.dead, AV.dead, AV.dead, AV.dead, AV.dead, AV.dead, AV.dead,
                AV.dead, AV.dead, AV.dead, AV.dead, AV.dead, AV.dead, AV.dead, AV.dead, AV.dead, AV.dead, AV.dead,
                AV.dead, AV.dead, AV.dead, AV.dead, AV.dead, AV.dead, AV.dead, AV.dead, AV.dead, AV.dead, AV.dead,
                AV.dead, AV.dead, AV.dead, AV.dead, AV.dead, AV.dead, AV.dead, AV.dead, AV.dead, AV.dead, AV.dead,
                AV.dead, AV.dead, AV.dead, AV.dead, AV.dead, AV.dead, AV.dead, AV.dead, AV.dead, AV.dead, AV.dead,
                AV.dead, AV.dead, AV.dead]
              [] (0 : Nat) []))) := by kernel_rfl
end Z08

set_option maxRecDepth 100000
namespace Z08
open Go Go.AE Go.Proofs
attribute [local irreducible] loopK evCode evSpec loopB norm
theorem f7_out (a : Int) (b : Int) (f : List
  UInt8) (n : Int) (K : List AV →
  Prop) : loopK C6 (bodyOf Tryd.f7) (0 : Nat) (finK C6 Tryd.f7 K) (AX.exit (0 : Nat))
  (St.mk
    (let y :=
      let y :=
        let y :=
          let y :=
            let y := [AV.dead, AV.dead, AV.dead, AV.dead];
            AV.dead :: AV.dead :: AV.dead :: AV.dead :: y;
          let y := AV.dead :: AV.dead :: AV.dead :: AV.dead :: y;
          AV.dead :: AV.dead :: AV.dead :: AV.dead :: y;
        let y :=
          let y := AV.dead :: AV.dead :: AV.dead :: AV.dead :: y;
          AV.dead :: AV.dead :: AV.dead :: AV.dead :: y;
        let y := AV.dead :: AV.dead :: AV.dead :: AV.dead :: y;
        AV.dead :: AV.dead :: AV.dead :: AV.dead :: y;
      let y :=
        let y :=
          let y := AV.dead :: AV.dead :: AV.dead :: AV.dead :: y;
          AV.dead :: AV.dead :: AV.dead :: AV.dead :: y;
        let y := AV.dead :: AV.dead :: AV.dead :: AV.dead :: y;
        AV.dead :: AV.dead :: AV.dead :: AV.dead :: y;
      let y :=
        let y := AV.dead :: AV.dead :: AV.dead :: AV.dead :: y;
        AV.dead :: AV.dead :: AV.dead :: AV.dead :: y;
      let y := AV.dead :: AV.dead :: AV.dead :: AV.dead :: y;
      AV.dead :: AV.dead :: AV.dead :: AV.dead :: y;
    let y :=
      let y :=
        let y :=
          let y := AV.dead :: AV.dead :: AV.dead :: AV.dead :: y;
          AV.dead :: AV.dead :: AV.dead :: AV.dead :: y;
        let y := AV.dead :: AV.dead :: AV.dead :: AV.dead :: y;
        AV.dead :: AV.dead :: AV.dead :: AV.dead :: y;
      let y :=
        let y :=
          AV.opt [((41 : Nat), true)] (AV.imm (IV.int IntKind.i64 n)) ::
            AV.opt [((41 : Nat), true)]
                (AV.imm (IV.int IntKind.u8 (↑(UInt8.toNat (List.getD f (Int.toNat n) (0 : UInt8))) : Int))) ::
              AV.opt [((41 : Nat), true)]
                  (AV.imm
                    (IV.bool (decide ((↑(UInt8.toNat (List.getD f (Int.toNat n) (0 : UInt8))) : Int) ≤ (57 : Int))))) ::
                AV.imm
                    (IV.bool
                      (decide (n < (↑(List.length f) : Int)) &&
                          decide ((↑(UInt8.toNat (List.getD f (Int.toNat n) (0 : UInt8))) : Int) ≥ (48 : Int)) &&
                        decide ((↑(UInt8.toNat (List.getD f (Int.toNat n) (0 : UInt8))) : Int) ≤ (57 : Int)))) ::
                  y;
        AV.opt [((35 : Nat), true)]
            (AV.imm (IV.bool (decide ((↑(UInt8.toNat (List.getD f (Int.toNat n) (0 : UInt8))) : Int) ≥ (48 : Int))))) ::
          AV.imm
              (IV.bool
                (decide (n < (↑(List.length f) : Int)) &&
                  decide ((↑(UInt8.toNat (List.getD f (Int.toNat n) (0 : UInt8))) : Int) ≥ (48 : Int)))) ::
            AV.imm
                (IV.bool
                  (decide (n < (↑(List.length f) : Int)) &&
                    decide ((↑(UInt8.toNat (List.getD f (Int.toNat n) (0 : UInt8))) : Int) ≥ (48 : Int)))) ::
              AV.opt [((41 : Nat), true)] (AV.imm (IV.str f)) :: y;
      let y :=
        AV.imm (IV.bool (decide (n < (↑(List.length f) : Int)))) ::
          AV.opt [((35 : Nat), true)] (AV.imm (IV.str f)) ::
            AV.opt [((35 : Nat), true)] (AV.imm (IV.int IntKind.i64 n)) ::
              AV.opt [((35 : Nat), true)]
                  (AV.imm (IV.int IntKind.u8 (↑(UInt8.toNat (List.getD f (Int.toNat n) (0 : UInt8))) : Int))) ::
                y;
      AV.imm (IV.int IntKind.i64 n) ::
        AV.imm (IV.str f) ::
          AV.imm (IV.int IntKind.i64 (↑(List.length f) : Int)) ::
            AV.imm (IV.bool (decide (n < (↑(List.length f) : Int)))) :: y;
    let y :=
      let y :=
        let y := AV.dead :: AV.dead :: AV.dead :: AV.dead :: y;
        AV.dead :: AV.dead :: AV.dead :: AV.dead :: y;
      let y := AV.dead :: AV.dead :: AV.dead :: AV.dead :: y;
      AV.dead :: AV.dead :: AV.dead :: AV.dead :: y;
    let y :=
      let y := AV.dead :: AV.dead :: AV.dead :: AV.dead :: y;
      AV.dead :: AV.dead :: AV.dead :: AV.dead :: y;
    AV.imm (IV.int IntKind.i64 a) ::
      AV.imm (IV.int IntKind.u8 b) ::
        AV.dead :: AV.dead :: AV.imm (IV.bool false) :: AV.imm (IV.str f) :: AV.imm (IV.int IntKind.i64 n) :: y)
    [] (0 : Nat) []) =
  ((3 : Int) ≠ (0 : Int) ∧
  ((0 : Int) ≤
      if
          (if (0 : Int) > IntKind.wrap IntKind.i64 ((3 : Int) - n) then (0 : Int)
            else IntKind.wrap IntKind.i64 ((3 : Int) - n)) <
            IntKind.wrap IntKind.i64 (Int.tmod b (3 : Int)) then
        if (0 : Int) > IntKind.wrap IntKind.i64 ((3 : Int) - n) then (0 : Int)
        else IntKind.wrap IntKind.i64 ((3 : Int) - n)
      else IntKind.wrap IntKind.i64 (Int.tmod b (3 : Int))) ∧
    (if
            (if (0 : Int) > IntKind.wrap IntKind.i64 ((3 : Int) - n) then (0 : Int)
              else IntKind.wrap IntKind.i64 ((3 : Int) - n)) <
              IntKind.wrap IntKind.i64 (Int.tmod b (3 : Int)) then
          if (0 : Int) > IntKind.wrap IntKind.i64 ((3 : Int) - n) then (0 : Int)
          else IntKind.wrap IntKind.i64 ((3 : Int) - n)
        else IntKind.wrap IntKind.i64 (Int.tmod b (3 : Int))) ≤
        (↑(List.length [(48 : UInt8), (48 : UInt8)]) : Int) ∧
      List.length
              (List.take
                (Int.toNat
                    (if
                        (if (0 : Int) > IntKind.wrap IntKind.i64 ((3 : Int) - n) then (0 : Int)
                          else IntKind.wrap IntKind.i64 ((3 : Int) - n)) <
                          IntKind.wrap IntKind.i64 (Int.tmod b (3 : Int)) then
                      if (0 : Int) > IntKind.wrap IntKind.i64 ((3 : Int) - n) then (0 : Int)
                      else IntKind.wrap IntKind.i64 ((3 : Int) - n)
                    else IntKind.wrap IntKind.i64 (Int.tmod b (3 : Int))) -
                  (0 : Nat))
                (List.drop (0 : Nat) [(48 : UInt8), (48 : UInt8)])) +
            List.length f ≤
          (9223372036854775807 : Nat) ∧
        (↑(List.length
                  (List.take
                      (Int.toNat
                          (if
                              (if (0 : Int) > IntKind.wrap IntKind.i64 ((3 : Int) - n) then (0 : Int)
                                else IntKind.wrap IntKind.i64 ((3 : Int) - n)) <
                                IntKind.wrap IntKind.i64 (Int.tmod b (3 : Int)) then
                            if (0 : Int) > IntKind.wrap IntKind.i64 ((3 : Int) - n) then (0 : Int)
                            else IntKind.wrap IntKind.i64 ((3 : Int) - n)
                          else IntKind.wrap IntKind.i64 (Int.tmod b (3 : Int))) -
                        (0 : Nat))
                      (List.drop (0 : Nat) [(48 : UInt8), (48 : UInt8)]) ++
                    f)) :
              Int) ≤
            big ∧
          List.length [(43 : UInt8)] +
                List.length
                  (List.take
                    (Int.toNat
                        (if
                            (if (0 : Int) > IntKind.wrap IntKind.i64 ((3 : Int) - n) then (0 : Int)
                              else IntKind.wrap IntKind.i64 ((3 : Int) - n)) <
                              IntKind.wrap IntKind.i64 (Int.tmod b (3 : Int)) then
                          if (0 : Int) > IntKind.wrap IntKind.i64 ((3 : Int) - n) then (0 : Int)
                          else IntKind.wrap IntKind.i64 ((3 : Int) - n)
                        else IntKind.wrap IntKind.i64 (Int.tmod b (3 : Int))) -
                      (0 : Nat))
                    (List.drop (0 : Nat) [(48 : UInt8), (48 : UInt8)])) ≤
              (9223372036854775807 : Nat) ∧
            List.length
                    ([(43 : UInt8)] ++
                      List.take
                        (Int.toNat
                            (if
                                (if (0 : Int) > IntKind.wrap IntKind.i64 ((3 : Int) - n) then (0 : Int)
                                  else IntKind.wrap IntKind.i64 ((3 : Int) - n)) <
                                  IntKind.wrap IntKind.i64 (Int.tmod b (3 : Int)) then
                              if (0 : Int) > IntKind.wrap IntKind.i64 ((3 : Int) - n) then (0 : Int)
                              else IntKind.wrap IntKind.i64 ((3 : Int) - n)
                            else IntKind.wrap IntKind.i64 (Int.tmod b (3 : Int))) -
                          (0 : Nat))
                        (List.drop (0 : Nat) [(48 : UInt8), (48 : UInt8)])) +
                  List.length f ≤
                (9223372036854775807 : Nat) ∧
              (↑(List.length
                        ([(43 : UInt8)] ++
                            List.take
                              (Int.toNat
                                  (if
                                      (if (0 : Int) > IntKind.wrap IntKind.i64 ((3 : Int) - n) then (0 : Int)
                                        else IntKind.wrap IntKind.i64 ((3 : Int) - n)) <
                                        IntKind.wrap IntKind.i64 (Int.tmod b (3 : Int)) then
                                    if (0 : Int) > IntKind.wrap IntKind.i64 ((3 : Int) - n) then (0 : Int)
                                    else IntKind.wrap IntKind.i64 ((3 : Int) - n)
                                  else IntKind.wrap IntKind.i64 (Int.tmod b (3 : Int))) -
                                (0 : Nat))
                              (List.drop (0 : Nat) [(48 : UInt8), (48 : UInt8)]) ++
                          f)) :
                    Int) ≤
                  big ∧
                List.length [(45 : UInt8)] +
                      List.length
                        (List.take
                          (Int.toNat
                              (if
                                  (if (0 : Int) > IntKind.wrap IntKind.i64 ((3 : Int) - n) then (0 : Int)
                                    else IntKind.wrap IntKind.i64 ((3 : Int) - n)) <
                                    IntKind.wrap IntKind.i64 (Int.tmod b (3 : Int)) then
                                if (0 : Int) > IntKind.wrap IntKind.i64 ((3 : Int) - n) then (0 : Int)
                                else IntKind.wrap IntKind.i64 ((3 : Int) - n)
                              else IntKind.wrap IntKind.i64 (Int.tmod b (3 : Int))) -
                            (0 : Nat))
                          (List.drop (0 : Nat) [(48 : UInt8), (48 : UInt8)])) ≤
                    (9223372036854775807 : Nat) ∧
                  List.length
                          ([(45 : UInt8)] ++
                            List.take
                              (Int.toNat
                                  (if
                                      (if (0 : Int) > IntKind.wrap IntKind.i64 ((3 : Int) - n) then (0 : Int)
                                        else IntKind.wrap IntKind.i64 ((3 : Int) - n)) <
                                        IntKind.wrap IntKind.i64 (Int.tmod b (3 : Int)) then
                                    if (0 : Int) > IntKind.wrap IntKind.i64 ((3 : Int) - n) then (0 : Int)
                                    else IntKind.wrap IntKind.i64 ((3 : Int) - n)
                                  else IntKind.wrap IntKind.i64 (Int.tmod b (3 : Int))) -
                                (0 : Nat))
                              (List.drop (0 : Nat) [(48 : UInt8), (48 : UInt8)])) +
                        List.length f ≤
                      (9223372036854775807 : Nat) ∧
                    (↑(List.length
                              ([(45 : UInt8)] ++
                                  List.take
                                    (Int.toNat
                                        (if
                                            (if (0 : Int) > IntKind.wrap IntKind.i64 ((3 : Int) - n) then (0 : Int)
                                              else IntKind.wrap IntKind.i64 ((3 : Int) - n)) <
                                              IntKind.wrap IntKind.i64 (Int.tmod b (3 : Int)) then
                                          if (0 : Int) > IntKind.wrap IntKind.i64 ((3 : Int) - n) then (0 : Int)
                                          else IntKind.wrap IntKind.i64 ((3 : Int) - n)
                                        else IntKind.wrap IntKind.i64 (Int.tmod b (3 : Int))) -
                                      (0 : Nat))
                                    (List.drop (0 : Nat) [(48 : UInt8), (48 : UInt8)]) ++
                                f)) :
                          Int) ≤
                        big ∧
                      K
                        [AV.imm
                            (IV.bool
                              (Prod.snd
                                                (Prod.snd
                                                  (parse
                                                    (List.take
                                                        (Int.toNat
                                                            (if
                                                                (if
                                                                      (0 : Int) >
                                                                        IntKind.wrap IntKind.i64 ((3 : Int) - n) then
                                                                    (0 : Int)
                                                                  else IntKind.wrap IntKind.i64 ((3 : Int) - n)) <
                                                                  IntKind.wrap IntKind.i64 (Int.tmod b (3 : Int)) then
                                                              if
                                                                  (0 : Int) >
                                                                    IntKind.wrap IntKind.i64 ((3 : Int) - n) then
                                                                (0 : Int)
                                                              else IntKind.wrap IntKind.i64 ((3 : Int) - n)
                                                            else IntKind.wrap IntKind.i64 (Int.tmod b (3 : Int))) -
                                                          (0 : Nat))
                                                        (List.drop (0 : Nat) [(48 : UInt8), (48 : UInt8)]) ++
                                                      f))) &&
                                              Prod.fst
                                                  (parse
                                                    (List.take
                                                        (Int.toNat
                                                            (if
                                                                (if
                                                                      (0 : Int) >
                                                                        IntKind.wrap IntKind.i64 ((3 : Int) - n) then
                                                                    (0 : Int)
                                                                  else IntKind.wrap IntKind.i64 ((3 : Int) - n)) <
                                                                  IntKind.wrap IntKind.i64 (Int.tmod b (3 : Int)) then
                                                              if
                                                                  (0 : Int) >
                                                                    IntKind.wrap IntKind.i64 ((3 : Int) - n) then
                                                                (0 : Int)
                                                              else IntKind.wrap IntKind.i64 ((3 : Int) - n)
                                                            else IntKind.wrap IntKind.i64 (Int.tmod b (3 : Int))) -
                                                          (0 : Nat))
                                                        (List.drop (0 : Nat) [(48 : UInt8), (48 : UInt8)]) ++
                                                      f)) ==
                                                a &&
                                            Prod.fst
                                                (Prod.snd
                                                  (parse
                                                    (List.take
                                                        (Int.toNat
                                                            (if
                                                                (if
                                                                      (0 : Int) >
                                                                        IntKind.wrap IntKind.i64 ((3 : Int) - n) then
                                                                    (0 : Int)
                                                                  else IntKind.wrap IntKind.i64 ((3 : Int) - n)) <
                                                                  IntKind.wrap IntKind.i64 (Int.tmod b (3 : Int)) then
                                                              if
                                                                  (0 : Int) >
                                                                    IntKind.wrap IntKind.i64 ((3 : Int) - n) then
                                                                (0 : Int)
                                                              else IntKind.wrap IntKind.i64 ((3 : Int) - n)
                                                            else IntKind.wrap IntKind.i64 (Int.tmod b (3 : Int))) -
                                                          (0 : Nat))
                                                        (List.drop (0 : Nat) [(48 : UInt8), (48 : UInt8)]) ++
                                                      f))) ==
                                              IntKind.wrap IntKind.i64
                                                ((↑(List.length
                                                        (List.take
                                                          (Int.toNat
                                                              (if
                                                                  (if
                                                                        (0 : Int) >
                                                                          IntKind.wrap IntKind.i64 ((3 : Int) - n) then
                                                                      (0 : Int)
                                                                    else IntKind.wrap IntKind.i64 ((3 : Int) - n)) <
                                                                    IntKind.wrap IntKind.i64 (Int.tmod b (3 : Int)) then
                                                                if
                                                                    (0 : Int) >
                                                                      IntKind.wrap IntKind.i64 ((3 : Int) - n) then
                                                                  (0 : Int)
                                                                else IntKind.wrap IntKind.i64 ((3 : Int) - n)
                                                              else IntKind.wrap IntKind.i64 (Int.tmod b (3 : Int))) -
                                                            (0 : Nat))
                                                          (List.drop (0 : Nat) [(48 : UInt8), (48 : UInt8)]))) :
                                                    Int) +
                                                  (↑(List.length f) : Int)) &&
                                          Prod.snd
                                            (Prod.snd
                                              (parse
                                                ([(43 : UInt8)] ++
                                                    List.take
                                                      (Int.toNat
                                                          (if
                                                              (if
                                                                    (0 : Int) >
                                                                      IntKind.wrap IntKind.i64 ((3 : Int) - n) then
                                                                  (0 : Int)
                                                                else IntKind.wrap IntKind.i64 ((3 : Int) - n)) <
                                                                IntKind.wrap IntKind.i64 (Int.tmod b (3 : Int)) then
                                                            if (0 : Int) > IntKind.wrap IntKind.i64 ((3 : Int) - n) then
                                                              (0 : Int)
                                                            else IntKind.wrap IntKind.i64 ((3 : Int) - n)
                                                          else IntKind.wrap IntKind.i64 (Int.tmod b (3 : Int))) -
                                                        (0 : Nat))
                                                      (List.drop (0 : Nat) [(48 : UInt8), (48 : UInt8)]) ++
                                                  f))) &&
                                        Prod.fst
                                            (parse
                                              ([(43 : UInt8)] ++
                                                  List.take
                                                    (Int.toNat
                                                        (if
                                                            (if
                                                                  (0 : Int) >
                                                                    IntKind.wrap IntKind.i64 ((3 : Int) - n) then
                                                                (0 : Int)
                                                              else IntKind.wrap IntKind.i64 ((3 : Int) - n)) <
                                                              IntKind.wrap IntKind.i64 (Int.tmod b (3 : Int)) then
                                                          if (0 : Int) > IntKind.wrap IntKind.i64 ((3 : Int) - n) then
                                                            (0 : Int)
                                                          else IntKind.wrap IntKind.i64 ((3 : Int) - n)
                                                        else IntKind.wrap IntKind.i64 (Int.tmod b (3 : Int))) -
                                                      (0 : Nat))
                                                    (List.drop (0 : Nat) [(48 : UInt8), (48 : UInt8)]) ++
                                                f)) ==
                                          a &&
                                      Prod.fst
                                          (Prod.snd
                                            (parse
                                              ([(43 : UInt8)] ++
                                                  List.take
                                                    (Int.toNat
                                                        (if
                                                            (if
                                                                  (0 : Int) >
                                                                    IntKind.wrap IntKind.i64 ((3 : Int) - n) then
                                                                (0 : Int)
                                                              else IntKind.wrap IntKind.i64 ((3 : Int) - n)) <
                                                              IntKind.wrap IntKind.i64 (Int.tmod b (3 : Int)) then
                                                          if (0 : Int) > IntKind.wrap IntKind.i64 ((3 : Int) - n) then
                                                            (0 : Int)
                                                          else IntKind.wrap IntKind.i64 ((3 : Int) - n)
                                                        else IntKind.wrap IntKind.i64 (Int.tmod b (3 : Int))) -
                                                      (0 : Nat))
                                                    (List.drop (0 : Nat) [(48 : UInt8), (48 : UInt8)]) ++
                                                f))) ==
                                        IntKind.wrap IntKind.i64
                                          (Prod.fst
                                              (Prod.snd
                                                (parse
                                                  (List.take
                                                      (Int.toNat
                                                          (if
                                                              (if
                                                                    (0 : Int) >
                                                                      IntKind.wrap IntKind.i64 ((3 : Int) - n) then
                                                                  (0 : Int)
                                                                else IntKind.wrap IntKind.i64 ((3 : Int) - n)) <
                                                                IntKind.wrap IntKind.i64 (Int.tmod b (3 : Int)) then
                                                            if (0 : Int) > IntKind.wrap IntKind.i64 ((3 : Int) - n) then
                                                              (0 : Int)
                                                            else IntKind.wrap IntKind.i64 ((3 : Int) - n)
                                                          else IntKind.wrap IntKind.i64 (Int.tmod b (3 : Int))) -
                                                        (0 : Nat))
                                                      (List.drop (0 : Nat) [(48 : UInt8), (48 : UInt8)]) ++
                                                    f))) +
                                            (1 : Int)) &&
                                    Prod.snd
                                      (Prod.snd
                                        (parse
                                          ([(45 : UInt8)] ++
                                              List.take
                                                (Int.toNat
                                                    (if
                                                        (if (0 : Int) > IntKind.wrap IntKind.i64 ((3 : Int) - n) then
                                                            (0 : Int)
                                                          else IntKind.wrap IntKind.i64 ((3 : Int) - n)) <
                                                          IntKind.wrap IntKind.i64 (Int.tmod b (3 : Int)) then
                                                      if (0 : Int) > IntKind.wrap IntKind.i64 ((3 : Int) - n) then
                                                        (0 : Int)
                                                      else IntKind.wrap IntKind.i64 ((3 : Int) - n)
                                                    else IntKind.wrap IntKind.i64 (Int.tmod b (3 : Int))) -
                                                  (0 : Nat))
                                                (List.drop (0 : Nat) [(48 : UInt8), (48 : UInt8)]) ++
                                            f))) &&
                                  Prod.fst
                                      (parse
                                        ([(45 : UInt8)] ++
                                            List.take
                                              (Int.toNat
                                                  (if
                                                      (if (0 : Int) > IntKind.wrap IntKind.i64 ((3 : Int) - n) then
                                                          (0 : Int)
                                                        else IntKind.wrap IntKind.i64 ((3 : Int) - n)) <
                                                        IntKind.wrap IntKind.i64 (Int.tmod b (3 : Int)) then
                                                    if (0 : Int) > IntKind.wrap IntKind.i64 ((3 : Int) - n) then
                                                      (0 : Int)
                                                    else IntKind.wrap IntKind.i64 ((3 : Int) - n)
                                                  else IntKind.wrap IntKind.i64 (Int.tmod b (3 : Int))) -
                                                (0 : Nat))
                                              (List.drop (0 : Nat) [(48 : UInt8), (48 : UInt8)]) ++
                                          f)) ==
                                    IntKind.wrap IntKind.i64 ((0 : Int) - a) &&
                                Prod.fst
                                    (Prod.snd
                                      (parse
                                        ([(45 : UInt8)] ++
                                            List.take
                                              (Int.toNat
                                                  (if
                                                      (if (0 : Int) > IntKind.wrap IntKind.i64 ((3 : Int) - n) then
                                                          (0 : Int)
                                                        else IntKind.wrap IntKind.i64 ((3 : Int) - n)) <
                                                        IntKind.wrap IntKind.i64 (Int.tmod b (3 : Int)) then
                                                    if (0 : Int) > IntKind.wrap IntKind.i64 ((3 : Int) - n) then
                                                      (0 : Int)
                                                    else IntKind.wrap IntKind.i64 ((3 : Int) - n)
                                                  else IntKind.wrap IntKind.i64 (Int.tmod b (3 : Int))) -
                                                (0 : Nat))
                                              (List.drop (0 : Nat) [(48 : UInt8), (48 : UInt8)]) ++
                                          f))) ==
                                  IntKind.wrap IntKind.i64
                                    (Prod.fst
                                        (Prod.snd
                                          (parse
                                            (List.take
                                                (Int.toNat
                                                    (if
                                                        (if (0 : Int) > IntKind.wrap IntKind.i64 ((3 : Int) - n) then
                                                            (0 : Int)
                                                          else IntKind.wrap IntKind.i64 ((3 : Int) - n)) <
                                                          IntKind.wrap IntKind.i64 (Int.tmod b (3 : Int)) then
                                                      if (0 : Int) > IntKind.wrap IntKind.i64 ((3 : Int) - n) then
                                                        (0 : Int)
                                                      else IntKind.wrap IntKind.i64 ((3 : Int) - n)
                                                    else IntKind.wrap IntKind.i64 (Int.tmod b (3 : Int))) -
                                                  (0 : Nat))
                                                (List.drop (0 : Nat) [(48 : UInt8), (48 : UInt8)]) ++
                                              f))) +
                                      (1 : Int))))]) := by kernel_rfl
end Z08

set_option maxRecDepth 100000
namespace Z08
open Go Go.AE Go.Proofs
attribute [local irreducible] loopK evCode evSpec loopB norm finK c14 c6

theorem isdig_eq (s : List UInt8) (i : Nat) : (decide ((i : Int) < (s.length : Int)) && decide (((s.getD i 0).toNat : Int) ≥ 48) && decide (((s.getD i 0).toNat : Int) ≤ 57)) = (digit s i).2 := by
  rw [digit_eq, Bool.eq_iff_iff]
  have hb := isD_iff (s.getD i 0)
  simp only [Bool.and_eq_true, decide_eq_true_eq]
  by_cases h1 : i < s.length
  · rw [if_pos h1]
    by_cases h2 : isD (s.getD i 0) = true
    · rw [if_pos h2]; simp only [iff_true]; have := hb.1 h2; omega
    · rw [if_neg h2]; simp only [Bool.false_eq_true, iff_false]; rw [hb] at h2; omega
  · rw [if_neg h1]; simp only [Bool.false_eq_true, iff_false]; omega
theorem run_fmtN (N : Nat) (hN : N ≤ 604799) : runD (fmtN N) = dd (N / 3600) := by
  rw [fmtN_eq]
  exact runD_app (dd_ok (show N / 3600 < 1000 by omega)).1 (tl_head N)
theorem num_pad (k : Nat) (ds : List UInt8) : num (List.replicate k 48 ++ ds) = num ds := by
  unfold num
  rw [List.foldl_append]
  have : List.foldl (fun v b => v * 10 + dv b) 0 (List.replicate k 48) = 0 := by
    induction k with
    | zero => rfl
    | succ k ih => rw [List.replicate_succ, List.foldl_cons]; exact ih
  rw [this]
theorem parse_pad {p : List UInt8} (hp : p = [] ∨ p = [43] ∨ p = [45]) {N k : Nat} (hN : N ≤ 604799) (hk : k + (dd (N / 3600)).length ≤ 3) :
    parse (p ++ (List.replicate k 48 ++ fmtN N)) = ((if p = [45] then -1 else 1) * (N : Int), ((p.length + k + (fmtN N).length : Nat) : Int), true) := by
  obtain ⟨hd, hn⟩ := dd_ok (show N / 3600 < 1000 by omega)
  have hl := dd_len (N / 3600)
  rw [fmtN_eq, ← List.append_assoc (List.replicate k 48)]
  have hd' : ∀ b ∈ List.replicate k 48 ++ dd (N / 3600), isD b = true := by
    intro b hb
    rcases List.mem_append.1 hb with h | h
    · rw [List.eq_of_mem_replicate h]; rfl
    · exact hd b h
  rw [parse_comp hp hd' (by rw [List.length_append]; omega) (by rw [List.length_append, List.length_replicate]; exact hk) (by rw [num_pad, hn]; omega) (tl_head N), fl_tl, num_pad, hn, List.length_append, List.length_append, List.length_replicate]
  have e : ((N / 3600 : Nat) : Int) * 3600 + ((N % 3600 : Nat) : Int) = (N : Int) := by omega
  rw [e]
  simp only [Nat.add_assoc]
def p7 : Plan := ⟨[], [true, true, false, false, true, true, true], []⟩
theorem f7_ev (a b : Int) (hb0 : 0 ≤ b) (hb1 : b ≤ 255) (K : List AV → Prop) (hK : K [bo true]) : evSpec C6 Tryd.f7 [.imm (.int .i64 a), .imm (.int .u8 b)] K := by
  rw [f7_in]
  refine brn_intro (fun h => hK) (fun h => ?_)
  simp only [Bool.not_true, Bool.false_or, Bool.or_eq_false_iff, Bool.not_eq_false', inRange_iff, decide_eq_false_iff_not] at h
  obtain ⟨h0, _, h1⟩ := h
  refine ⟨by omega, h1, ?_⟩
  obtain ⟨N, rfl⟩ := nat_of (show 0 ≤ a by omega)
  have hN : N ≤ 604799 := by omega
  have ef : fmt (N : Int) = fmtN N := by unfold fmt; rw [if_neg (by omega), Int.natAbs_natCast]
  have hfl := fmtN_len N hN
  have hdl := dd_len (N / 3600)
  have hrun := run_fmtN N hN
  unfold LoopI
  rw [ef]
  refine loop_rule (fun j : Nat => h7 N b (fmtN N) (j : Int)) (fun j => j ≤ (runD (fmtN N)).length) (fun j => (runD (fmtN N)).length - j)
    (fun j hP K' hnorm hexit => ?_) rfl 0 p7 _ (by omega) (by kernel_rfl)
  have hd := run_digit (fmtN N) j hP
  have ej : IntKind.wrap .i64 ((j : Int) + 1) = ((j + 1 : Nat) : Int) := by rw [hrun] at hP; rw [wrap64 (by omega) (by omega)]; omega
  rw [f7_lp]
  refine ⟨fun h => by omega, fun h => by simpa using h, fun h => by omega, fun h => ?_, brn_intro (fun h => ?_) (fun h => ?_)⟩
  · rw [Bool.and_eq_true] at h; simpa using h.1
  · have h' : (digit (fmtN N) j).2 = true := by rw [← isdig_eq]; exact h
    have hlt : j < (runD (fmtN N)).length := by
      by_cases hlt : j < (runD (fmtN N)).length
      · exact hlt
      · rw [hd, if_neg hlt] at h'; cases h'
    refine hnorm (j + 1) p7 _ hlt (by omega) ?_
    rw [← ej]
    show _ = _
    kernel_rfl
  · have h' : (digit (fmtN N) j).2 = false := by rw [← isdig_eq]; exact h
    have hj : j = (dd (N / 3600)).length := by
      rw [← hrun]
      by_cases hlt : j < (runD (fmtN N)).length
      · rw [hd, if_pos hlt] at h'; cases h'
      · omega
    refine hexit _ _ (by simp) ?_
    refine Eq.mpr (f7_out (N : Int) b (fmtN N) (j : Int) K) ?_
    obtain ⟨k, ek, hk2, hk3⟩ : ∃ k : Nat, (if (if (0 : Int) > IntKind.wrap .i64 (3 - (j : Int)) then (0 : Int) else IntKind.wrap .i64 (3 - (j : Int))) < IntKind.wrap .i64 (Int.tmod b 3) then (if (0 : Int) > IntKind.wrap .i64 (3 - (j : Int)) then (0 : Int) else IntKind.wrap .i64 (3 - (j : Int))) else IntKind.wrap .i64 (Int.tmod b 3)) = (k : Int) ∧ k ≤ 2 ∧ k + j ≤ 3 := by
      have m0 : 0 ≤ Int.tmod b 3 := Int.tmod_nonneg _ hb0
      have m1 : Int.tmod b 3 < 3 := Int.tmod_lt_of_pos _ (by omega)
      have w1 : IntKind.wrap .i64 (Int.tmod b 3) = Int.tmod b 3 := wrap64 (by omega) (by omega)
      have w2 : IntKind.wrap .i64 (3 - (j : Int)) = 3 - (j : Int) := wrap64 (by omega) (by omega)
      rw [w1, w2, if_neg (show ¬ (0 : Int) > 3 - (j : Int) by omega)]
      split
      · exact ⟨3 - j, by omega, by omega, by omega⟩
      · exact ⟨(Int.tmod b 3).toNat, by omega, by omega, by omega⟩
    have hpad : List.take k ([48, 48] : List UInt8) = List.replicate k 48 := by
      have : k = 0 ∨ k = 1 ∨ k = 2 := by omega
      rcases this with rfl | rfl | rfl <;> rfl
    rw [ek]
    simp only [Int.toNat_natCast, Nat.sub_zero, List.drop_zero, hpad]
    have hk4 : k + (dd (N / 3600)).length ≤ 3 := by omega
    have e1 := parse_pad (p := []) (Or.inl rfl) hN hk4
    have e2 := parse_pad (p := [43]) (Or.inr (Or.inl rfl)) hN hk4
    have e3 := parse_pad (p := [45]) (Or.inr (Or.inr rfl)) hN hk4
    rw [if_neg (by simp), List.nil_append] at e1
    rw [if_neg (by simp)] at e2
    rw [if_pos rfl] at e3
    simp only [List.append_assoc, e1, e2, e3]
    have hbig : ∀ x : Nat, x ≤ 1000 → (x : Int) ≤ big := fun x hx => by unfold big; omega
    have hrl : (List.replicate k (48 : UInt8)).length = k := List.length_replicate
    have s1 : ([43] : List UInt8).length = 1 := rfl
    have s2 : ([45] : List UInt8).length = 1 := rfl
    have s3 : ([48, 48] : List UInt8).length = 2 := rfl
    have s4 : ([] : List UInt8).length = 0 := rfl
    simp only [List.length_append, hrl, s1, s2, s3, s4]
    refine ⟨by decide, by omega, by omega, by omega, hbig _ (by omega), by omega, by omega, hbig _ (by omega), by omega, by omega, hbig _ (by omega), ?_⟩
    have v1 : IntKind.wrap .i64 ((k : Int) + (((fmtN N).length : Nat) : Int)) = ((k + (fmtN N).length : Nat) : Int) := by rw [wrap64 (by omega) (by omega)]; omega
    have v2 : IntKind.wrap .i64 (((0 + k + (fmtN N).length : Nat) : Int) + 1) = ((1 + k + (fmtN N).length : Nat) : Int) := by rw [wrap64 (by omega) (by omega)]; omega
    have v3 : IntKind.wrap .i64 (0 - (N : Int)) = -1 * (N : Int) := by rw [wrap64 (by omega) (by omega)]; omega
    have v4 : (1 * (N : Int)) = (N : Int) := by omega
    have v5 : ((0 + k + (fmtN N).length : Nat) : Int) = ((k + (fmtN N).length : Nat) : Int) := by omega
    rw [v1, v2, v3, v4, v5]
    simp only [beq_self_eq_true, Bool.and_self]
    exact hK
/-! ### HmsFields -/
theorem f6_rest (a b c : Nat) (ha : a ≤ 167) (hb : b ≤ 59) (hc : c ≤ 59) (st' : St) (hst : st' = S6 a b c (bo false) (.fn 15 [] []) (st [dg (a / 100), dg (a % 100 / 10), dg (a % 100 % 10)]) (fun j => nth .dead st'.tmps j)) (K : List AV → Prop) (hK : K [bo true]) :
    evCode C6 (c6 [.r, .r, .r, .r]) st' (finK C6 Tryd.f6 K) := by
  rw [hst]
  generalize (fun j => nth .dead st'.tmps j) = t
  rw [f6_c]
  have hdig : ∀ x ∈ [dg (a / 100), dg (a % 100 / 10), dg (a % 100 % 10)], isD x = true := by
    intro x hx
    simp only [List.mem_cons, List.not_mem_nil, or_false] at hx
    rcases hx with rfl | rfl | rfl <;> exact dg_D (by omega)
  have hnum : num [dg (a / 100), dg (a % 100 / 10), dg (a % 100 % 10)] = a := by
    show ((0 * 10 + dv (dg (a / 100))) * 10 + dv (dg (a % 100 / 10))) * 10 + dv (dg (a % 100 % 10)) = a
    rw [dg_v (show a / 100 < 10 by omega), dg_v (show a % 100 / 10 < 10 by omega), dg_v (show a % 100 % 10 < 10 by omega)]
    omega
  have key : ∀ r : List UInt8, (r = [] ∨ isD (r.getD 0 0) = false) → parse ([dg (a / 100), dg (a % 100 / 10), dg (a % 100 % 10)] ++ r) = ((a : Int) * 3600 + (fl r).1, ((3 + (fl r).2 : Nat) : Int), true) := by
    intro r hr
    have := parse_comp (p := []) (Or.inl rfl) hdig (by simp) (by simp) (by rw [hnum]; exact ha) hr
    rw [if_neg (by simp), List.nil_append, hnum] at this
    rw [this]
    simp
  have f0 : fl [] = (0, 0) := rfl
  have f1 : fl (two b) = (60 * (b : Int), 3) := by
    unfold fl
    have := field_two (show b < 60 by omega) []
    rw [List.append_nil] at this
    rw [this]
    rfl
  have f2 : fl (two b ++ two c) = (60 * (b : Int) + c, 6) := by
    unfold fl
    rw [field_two (show b < 60 by omega)]
    have h1 : (two b ++ two c).drop 3 = two c := List.drop_left' (two_len _)
    have h2 := field_two (show c < 60 by omega) []
    rw [List.append_nil] at h2
    rw [h1, h2]
  have hh : ∀ x r, two x ++ r = [] ∨ isD ((two x ++ r).getD 0 0) = false := fun x r => Or.inr rfl
  have k0 := key [] (Or.inl rfl)
  have k1 := key (two b) (by have := hh b []; rwa [List.append_nil] at this)
  have k2 := key (two b ++ two c) (hh b _)
  rw [f0, List.append_nil] at k0
  rw [f1] at k1
  rw [f2] at k2
  have hl : ([dg (a / 100), dg (a % 100 / 10), dg (a % 100 % 10)] : List UInt8).length = 3 := rfl
  generalize ([dg (a / 100), dg (a % 100 / 10), dg (a % 100 % 10)] : List UInt8) = h at k0 k1 k2 hl ⊢
  simp only [Int.toNat_natCast, two_app]
  rw [← List.append_assoc] at k2
  rw [k0, k1, k2]
  have w1 : IntKind.wrap .i64 (a : Int) = (a : Int) := wrap64 (by omega) (by omega)
  have w2 : IntKind.wrap .i64 (b : Int) = (b : Int) := wrap64 (by omega) (by omega)
  have w3 : IntKind.wrap .i64 (c : Int) = (c : Int) := wrap64 (by omega) (by omega)
  have w4 : IntKind.wrap .i64 (3600 * (a : Int)) = (a : Int) * 3600 + 0 := by rw [wrap64 (by omega) (by omega)]; omega
  have w5 : IntKind.wrap .i64 (60 * (b : Int)) = 60 * (b : Int) := wrap64 (by omega) (by omega)
  have w6 : IntKind.wrap .i64 ((a : Int) * 3600 + 0 + 60 * (b : Int)) = (a : Int) * 3600 + 60 * (b : Int) := by rw [wrap64 (by omega) (by omega)]; omega
  have w7 : IntKind.wrap .i64 ((a : Int) * 3600 + 60 * (b : Int) + (c : Int)) = (a : Int) * 3600 + (60 * (b : Int) + (c : Int)) := by rw [wrap64 (by omega) (by omega)]; omega
  have w8 : IntKind.wrap .i64 ((a : Int) * 3600 + (60 * (b : Int) + (c : Int)) - (c : Int)) = (a : Int) * 3600 + 60 * (b : Int) := by rw [wrap64 (by omega) (by omega)]; omega
  have hbig : ∀ x : Nat, x ≤ 1000 → (x : Int) ≤ big := fun x hx => by unfold big; omega
  rw [w1, w2, w3, w4, w5, w6, w7, w8]
  simp only [List.length_append, two_len, hl, List.length_cons, List.length_nil]
  refine ⟨by omega, by omega, by omega, by omega, by omega, by omega, by omega, by omega, hbig _ (by omega), by omega, by omega, by omega, by omega, hbig _ (by omega), hbig _ (by omega), ?_⟩
  have e9 : (((3 + 6 : Nat) : Int) == 9) = true := rfl
  have e6 : (((3 + 3 : Nat) : Int) == 6) = true := rfl
  have e3 : (((3 + 0 : Nat) : Int) == 3) = true := rfl
  simp only [e9, e6, e3, beq_self_eq_true, Bool.and_self]
  exact hK
theorem tdiv100 (n : Nat) : Int.tdiv (n : Int) 100 = ((n / 100 : Nat) : Int) := by simp [Int.tdiv]
theorem tmod100 (n : Nat) : Int.tmod (n : Int) 100 = ((n % 100 : Nat) : Int) := by simp [Int.tmod]
theorem f6_mid (a b c : Nat) (ha : a ≤ 167) (hb : b ≤ 59) (hc : c ≤ 59) (st' : St) (hst : st' = S6 a b c (bo false) .dead .dead (fun j => nth .dead st'.tmps j)) (K : List AV → Prop) (hK : K [bo true]) :
    evCode C6 (c6 [.r, .r]) st' (finK C6 Tryd.f6 K) := by
  have cut : ∀ st', evCode C6 (c6 [.r, .r]) st' (finK C6 Tryd.f6 K) = evCode C6 b6 st' (fun x st => match x with
    | .normal => evCode C6 (c6 [.r, .r, .r, .r]) st (finK C6 Tryd.f6 K)
    | x => finK C6 Tryd.f6 K x st) := fun st' => by kernel_rfl
  rw [cut, hst]
  generalize (fun j => nth .dead st'.tmps j) = t
  rw [f6_b]
  have e1 : IntKind.wrap .u8 ((a / 100 : Nat) : Int) = ((a / 100 : Nat) : Int) := wrap8 (by omega) (by omega)
  have e2 : IntKind.wrap .u8 (48 + ((a / 100 : Nat) : Int)) = ((48 + a / 100 : Nat) : Int) := by rw [wrap8 (by omega) (by omega)]; omega
  simp only [tdiv100, tmod100, e1, e2, Int.toNat_natCast, List.map_cons, List.map_nil, u8_dg (show a / 100 < 10 by omega)]
  have fin : ∀ st' : St, st' = S6 a b c (bo false) (.fn 15 [] []) (st ([dg (a / 100)] ++ [dg (a % 100 / 10), dg (a % 100 % 10)])) (fun j => nth .dead st'.tmps j) → evCode C6 (c6 [.r, .r, .r, .r]) st' (finK C6 Tryd.f6 K) := fun st' h => f6_rest a b c ha hb hc st' h K hK
  repeat' refine And.intro ?_ ?_
  all_goals first | decide | omega | exact fin _ (by kernel_rfl) | simp
theorem f6_ev (a b c : Int) (ha : 0 ≤ a) (hb : 0 ≤ b) (hc : 0 ≤ c) (K : List AV → Prop) (hK : K [bo true]) : evSpec C6 Tryd.f6 [.imm (.int .u8 a), .imm (.int .u8 b), .imm (.int .u8 c)] K := by
  have cut : evSpec C6 Tryd.f6 [.imm (.int .u8 a), .imm (.int .u8 b), .imm (.int .u8 c)] K = evCode C6 a6 (S6 a b c .dead .dead .dead (fun _ => .dead)) (fun x st => match x with
    | .normal => evCode C6 (c6 [.r, .r]) st (finK C6 Tryd.f6 K)
    | x => finK C6 Tryd.f6 K x st) := by kernel_rfl
  rw [cut, f6_a]
  refine brn_intro (fun h => ?_) (fun h => ?_)
  · exact Eq.mp (by kernel_rfl) hK
  · simp only [Bool.not_true, Bool.false_or, Bool.or_eq_false_iff, decide_eq_false_iff_not] at h
    obtain ⟨a', rfl⟩ := nat_of ha
    obtain ⟨b', rfl⟩ := nat_of hb
    obtain ⟨c', rfl⟩ := nat_of hc
    exact f6_mid a' b' c' (by omega) (by omega) (by omega) _ (by kernel_rfl) K hK
end Z08

namespace Z08
open Go Go.AE Go.Proofs
/-- What a contract with one Boolean result says. -/
theorem bool_calls {P : Program} {G : Nat → Option (List AV)} {f : FuncId} {args : List AV} {pres : List Prop} {b : Bool} (h : SpecOK P G f args pres [bo b]) (hp : ∀ p, p ∈ pres → p) (w : World) (vals : Array Value) (hs : vals.size = args.length)
    (ha : ∀ (j : Nat) c, args[j]? = some c → ARep (zeroGh w (fun _ => False)) c (vals.getD j undef)) (hG : GOK G w (fun _ => False)) : Calls P f vals w fun e w' => e = .returned (.bool b) ∧ RowKit.Below w.heap.size w w' := by
  refine (h.calls hp w (fun _ => False) vals (fun _ h => h.elim) hs ha hG).mono ?_
  rintro e w' ⟨Vs, bs, rfl, hb, hr, _⟩
  refine ⟨?_, hb⟩
  cases hr with
  | one _ h1 _ h2 =>
    cases h2
    cases h1 with
    | imm h3 _ =>
      have := rep_bool h3
      subst this
      rfl

open Go.ChangeShapes Go.WideShapes Go.ChangeAt Go.RowKit in
/-- What a row asks at the end, where memory has only grown. -/
theorem post_of_below {H : Type} {enc : TypeId × Value → H} {P : Program} {f : Func} {s : ChangeSpec} {apart fresh handsOn again : Bool} {W W' : World} {args : Array Value} {v : Value} {ds gs : List (DataW H)} {before pa pv : List MemPlace}
    (hW : DataW.Whole enc P f.params.toList s.vars apart W args.toList ds gs before)
    (hres : ∀ (b : Nat) (sp : Nat → Bool) (hd : Bool), DataW.TrodAll enc P W' b sp hd f.resultTypes.toList (v.resultList f.resultTypes.size) (s.fn H (ds ++ gs)).results [])
    (hargs : ∀ sp : Nat → Bool, (∀ p ∈ before, sp p.block = true) → DataW.TrodAll enc P W' 0 sp true f.params.toList args.toList (s.fn H (ds ++ gs)).args pa)
    (hvars : ∀ sp : Nat → Bool, (∀ p ∈ before, sp p.block = true) → DataW.TrodVars enc P W' sp s.vars (s.fn H (ds ++ gs)).vars pv)
    (hps : before = pa ++ pv) (hb : Below W.heap.size W W')
    (hok : ∀ (j : Nat) (t : TypeId) (r : Value), f.resultTypes[j]? = some t → (v.resultList f.resultTypes.size)[j]? = some r → Value.okWide P W' .any 0 t r) :
    s.post enc P f apart fresh handsOn again W args v W' := by
  have hold : ∀ p ∈ before, (fun b => decide (b < W.heap.size)) p.block = true := fun p hp => by simpa using hW.lt p hp
  have hlt : ∀ p ∈ before, p.block < W.heap.size := fun p hp => hW.lt p hp
  refine ⟨ds, gs, before, [], pa, pv, hW, hres _ _ _, hargs _ hold, hvars _ hold, World.keptBut_mono (fun p hp => ⟨hp, ?_⟩) (hb.frame (· ∈ before)), fun _ => ?_⟩
  · rw [hps, List.mem_append] at hp
    exact Or.inr hp
  · obtain ⟨_, _, _, _, _, hz, hn⟩ := hW
    refine ⟨hok, _, _, ([] ++ pa) ++ pv, ⟨[] ++ pa, pv, trodAll_append (hargs _ (fun _ _ => rfl)) (hres _ _ _), hvars _ (fun _ _ => rfl), rfl, ?_, ?_⟩, ?_⟩
    · intro b off hp
      have hp' : MemPlace.cell b off ∈ before := by rw [hps]; simpa using hp
      rw [World.frozen?_of_block (hb.block _ (hlt _ hp'))]
      exact hz b off hp'
    · intro ha
      have := hn ha
      rw [hps] at this
      simpa using this
    · intro p hp _
      rw [hps]
      simpa using hp
/-- The table, from what the row lists. -/
theorem gok_of_laid {W : World} (h : laidMetH Tryd.prog YtkhbbbcgndmmjaaDoor.Rows.hmsMatchesReferenceRow.laid W) : GOK G8 W (fun _ => False) := by
  rw [MakeChecks.laidMetH_plain _ _ _ (by kernel_rfl)] at h
  have h3 := laidMet.tail (laidMet.tail h)
  have ht : Lib.TabIs Tryd.prog W "internal/strconv.uint64pow10" .u64 [1, 10, 100, 1000, 10000, 100000, 1000000, 10000000, 100000000, 1000000000, 10000000000, 100000000000, 1000000000000, 10000000000000, 100000000000000, 1000000000000000, 10000000000000000, 100000000000000000, 1000000000000000000, 10000000000000000000] :=
    Lib.tabIs_of_head gName (by kernel_rfl) Tryd.underlying51 Tryd.underlying44 (by kernel_rfl) (by kernel_rfl) h3
  unfold Lib.TabIs World.var? at ht
  rw [gName] at ht
  simp only [Option.bind_some] at ht
  intro n l hl
  unfold G8 at hl
  cases hn : Nat.beq n gTab with
  | false => rw [hn] at hl; cases hl
  | true =>
    rw [hn, cond_true] at hl
    cases hl
    have := nbeq hn
    subst this
    refine ⟨fun h => h, ?_⟩
    split at ht
    case h_2 => cases ht
    rename_i cs T fr hc
    simp only [Option.some.injEq] at ht
    refine ⟨cs, T, fr, hc, by rw [ht]; rfl, fun j v hv => ?_, fun j hj => ?_⟩
    · rw [ht]
      unfold tab10 at hv
      rw [List.getElem?_map] at hv
      have : ∀ (zs : List Int), (∀ z ∈ zs, 0 ≤ z ∧ z ≤ 18446744073709551615) → ∀ j v, (zs[j]?).map (fun n => (AV.imm (.int .u64 n))) = some v → GRep W (fun _ => False) v ((zs.map fun z => Value.int .u64 z).toArray.getD j undef) := by
        intro zs hz j v hv
        cases hj : zs[j]? with
        | none => rw [hj] at hv; cases hv
        | some z =>
          rw [hj] at hv
          simp only [Option.map_some, Option.some.injEq] at hv
          subst hv
          have e : (zs.map fun z => Value.int .u64 z).toArray.getD j undef = .int .u64 z := by
            simp [Array.getD_eq_getD_getElem?, hj]
          rw [e]
          have := hz z (List.mem_of_getElem? hj)
          exact .int ⟨this.1, this.2⟩
      exact this _ (by decide) j v hv
    · rw [ht] at hj ⊢
      have : ∀ (zs : List Int) (j : Nat), j < zs.length → ((zs.map fun z => Value.int .u64 z).toArray.getD j undef).oneCell' = true := by
        intro zs j hj
        have : (zs.map fun z => Value.int .u64 z).toArray.getD j undef = .int .u64 zs[j] := by simp [Array.getD_eq_getD_getElem?, hj]
        rw [this]; rfl
      exact this _ j (by simpa using hj)
theorem door_met (os : Os) (args : Array Value) : laidMetH Tryd.prog YtkhbbbcgndmmjaaDoor.Rows.hmsMatchesReferenceRow.laid ((World.doorLaid Tryd.prog 400 os).forCall (fun _ _ => 0) ⟨#[], args, []⟩).memory :=
  laidMetH_of_parts3 (fuel := 8) (laidMet_of_run' 8 (by kernel_rfl) (by kernel_rfl)) (by kernel_rfl) (by kernel_rfl)
end Z08

namespace Go.Proofs.YtkhbbbcgndmmjaaDoor
open Go Go.AE Go.Proofs Z08
open Go.ChangeShapes Go.WideShapes Go.ChangeAt Go.WideMaps Go.WideElems Go.RowKit Go.ChangeMaps
attribute [local irreducible] evSpec evCode loopK loopB norm
theorem Tryd.own : ownKnob Tryd.prog.godebug = none := by kernel_rfl

set_option maxRecDepth 100000 in
theorem f7_lifted (os : Os) (started : os.Started) (H : Type) (enc : TypeId × Value → H) :
    ReturnsInHanded {} Tryd.checked os 7 .any (fun w args => (Rows.hmsSignsSpec.pre enc Tryd.prog Tryd.f7 [] false w args ∧ laidMetH Tryd.prog Rows.hmsMatchesReferenceRow.laid w) ∧ sizedMet enc Tryd.prog Tryd.f7 (OpenSpec.ofChange Rows.hmsSignsSpec) false w args)
      (Rows.hmsSignsSpec.post enc Tryd.prog Tryd.f7 false true false false) := by
  refine returnsInHanded_of_change_and (C := Tryd.checked) (X := fun w _ => laidMetH Tryd.prog Rows.hmsMatchesReferenceRow.laid w) (fun _ _ _ hh h => h.of_heap hh) Tryd.own started (by kernel_rfl) Tryd.func7
    (ChangeSpec.witness_shaped (enc := enc) (C := Tryd.checked) (os := os) (X := fun w _ => laidMetH Tryd.prog Rows.hmsMatchesReferenceRow.laid w) false (World.doorLaid Tryd.prog 400 os) #[.int .i64 0, .int .u8 0] 8 rfl (World.shaped_of_RefB (by kernel_rfl) (by kernel_rfl)) (by kernel_rfl) (by kernel_rfl) (by kernel_rfl) (door_met os _)) ?_
  intro W base args ds gs before hval0 hW _ _ hL _
  have hval : ∀ (j : Nat) t v, Tryd.f7.params[j]? = some t → args[j]? = some v → Value.okWide Tryd.prog W .any base t v := hval0
  have hW' := hW
  obtain ⟨p, q, hA0, hV, rfl, hfz, hnd⟩ := hW
  have hA : DataW.TrodAll enc Tryd.prog W 0 (fun _ => true) true Tryd.f7.params.toList args.toList ds p := hA0
  rw [Tryd.params7] at hA hval
  obtain ⟨v0, v1, d0, d1, p0, p1, rfl, rfl, rfl, h0, h1⟩ := trodAll_two hA
  obtain ⟨rfl, rfl⟩ := trodVars_none hV
  obtain ⟨a0, rfl, rfl, rfl, w0⟩ := open_int Tryd.underlying3 (hval 0 3 v0 rfl rfl) h0
  obtain ⟨a1, rfl, rfl, rfl, w1⟩ := open_int Tryd.underlying5 (hval 1 5 v1 rfl rfl) h1
  clear hA0 hval0
  simp only [List.append_nil] at hW'
  have m0 : InR .i64 a0 := by
    simp only [Lit.wf, Bool.and_eq_true, decide_eq_true_eq] at w0
    exact ⟨by have := w0.1; omega, by have := w0.2; omega⟩
  have m1 : InR .u8 a1 := by
    simp only [Lit.wf, Bool.and_eq_true, decide_eq_true_eq] at w1
    exact ⟨by have := w1.1; omega, by have := w1.2; omega⟩
  have hspec := mk (pres := []) (args := [.imm (.int .i64 a0), .imm (.int .u8 a1)]) (res := [bo true]) okE6 at7 (by decide) rfl (fun _ K hK => f7_ev a0 a1 m1.1 m1.2 K hK)
  refine (bool_calls hspec (fun p h => by cases h) W _ rfl (fun j c hc => ?_) (gok_of_laid hL)).mono fun e W' ⟨he, hw⟩ => ?_
  · match j with
    | 0 => simp only [List.getElem?_cons_zero, Option.some.injEq] at hc; subst hc; exact .imm (.int m0)
    | 1 => simp only [List.getElem?_cons_succ, List.getElem?_cons_zero, Option.some.injEq] at hc; subst hc; exact .imm (.int m1)
    | j + 2 => simp at hc
  subst he
  exact ⟨_, rfl, post_of_below (pa := []) (pv := []) hW' (fun _ _ _ => trodAll_mk1 (shut_bool Tryd.underlying4 true)) (fun sp _ => trodAll_mk2 (shut_int Tryd.underlying3 w0) (shut_int Tryd.underlying5 w1)) (fun _ _ => rfl) rfl
    hw (ok_one (by kernel_rfl) rfl (okWide_bool_mk Tryd.underlying4 true))⟩
theorem f7_row : Rows.HmsSignsSaid :=
  OpenClaim.holds_of_wide 7 Tryd.f7 rfl rfl rfl rfl rfl rfl rfl ⟨rfl, rfl, rfl, rfl, rfl⟩ rfl rfl rfl rfl rfl (by kernel_rfl) Tryd.func7 (by kernel_rfl)
    (of_decide_eq_true (by kernel_rfl)) (by unfold Func.isWrapper; first | (rw [if_pos (by decide +kernel)]; kernel_rfl) | (rw [if_neg (by decide +kernel)]; exact ⟨rfl, rfl⟩))
    (fun os started H enc _ => f7_lifted os started H enc)
theorem f7_holds : Rows.HmsSignsCardSaid :=
  Claim7.holds_tied_plain_at .later [] [.data,.data,.data] true Rows.hmsSignsCard.stood.harness false
    f7_row (fun _ h => by cases h) (by kernel_rfl) (fun _ h => by cases h) hmsSigns_row_tie rfl ⟨rfl, rfl⟩ (by kernel_rfl) rfl
    (fun f fn hf hfn => by
      obtain rfl : f = 7 := Option.some.inj ((show Tryd.prog.funcNamed "zoneinfo/zoneinfolaw08.HmsSigns" = some 7 by kernel_rfl).symm.trans hf) |>.symm
      obtain rfl : fn = Tryd.f7 := (Option.some.inj (Tryd.func7.symm.trans hfn)).symm
      exact ⟨by kernel_rfl, fun j t ht => by
        rw [Tryd.params7] at ht
        have hm : t ∈ [3, 5] := by simpa using Array.mem_of_getElem? ht
        have hall : ([3, 5].all fun u => !Tryd.prog.wantsStandIn u) = true := by kernel_rfl
        exact (show Tryd.prog.wantsStandIn t = false by simpa using List.all_eq_true.1 hall t hm)⟩)
    (by kernel_rfl)
end Go.Proofs.YtkhbbbcgndmmjaaDoor

