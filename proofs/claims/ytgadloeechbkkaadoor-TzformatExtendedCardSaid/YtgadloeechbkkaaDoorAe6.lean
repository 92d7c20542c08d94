/- For every rule and pair of numbers the law TzformatExtended returns true and its arguments read as before. No further condition. -/
import Derived.Test.YtgadloeechbkkaaDoorAe5
import Derived.KernelRfl
import Derived.Test.YtgadloeechbkkaaDoorRows
import Derived.Test.YtgadloeechbkkaaDoorTie
import Derived.Test.YtgadloeechbkkaaDoorCards
import Derived.ProofKit
import Derived.LaidMore
import Derived.Stop.LaidErr
import Derived.Lib.LaidTab
import Derived.OpenShut
import Derived.Stop.Joined
import Derived.SevenTiedAt
set_option linter.all false
set_option maxRecDepth 100000
namespace Z10
open Go Go.AE Go.Proofs B9
attribute [local irreducible] loopK evCode evSpec loopB norm c15 q15 a15
theorem iv0 {k d m w e t : Int} : ivInt (ivNth (dcs k d m w e t) 0) = k := rfl
theorem iv1 {k d m w e t : Int} : ivInt (ivNth (dcs k d m w e t) (0 + 1)) = d := rfl
theorem iv2 {k d m w e t : Int} : ivInt (ivNth (dcs k d m w e t) (0 + 1 + 1)) = m := rfl
theorem iv3 {k d m w e t : Int} : ivInt (ivNth (dcs k d m w e t) (0 + 1 + 1 + 1)) = w := rfl
theorem iv4 {k d m w e t : Int} : ivInt (ivNth (dcs k d m w e t) (0 + 1 + 1 + 1 + 1)) = e := rfl
theorem iv5 {k d m w e t : Int} : ivInt (ivNth (dcs k d m w e t) (0 + 1 + 1 + 1 + 1 + 1)) = t := rfl
def m15 : List Bool := lapp [false, false, true, true] (lapp (lrepl 38 false) [true, true, true])
def p15 : Plan := ⟨[], m15, [1, 2]⟩
def r15 : Plan := ⟨[], m15, [0, 1]⟩
def pre15 (l D E : List UInt8) : Nat → List UInt8
  | 0 => l
  | 1 => l ++ ([44] ++ D)
  | _ => l ++ ([44] ++ D) ++ ([44] ++ E)
theorem l15 {k d m w e t k' d' m' w' e' t' : Int} (hv : validDay k d m w e t = true) (hv' : validDay k' d' m' w' e' t' = true) (l : List UInt8) (hl : l.length ≤ 1000) (hne : l ≠ []) (st0 : St)
    (hn0 : norm p15 st0 = some (h15 [dcs k d m w e t, dcs k' d' m' w' e' t'] l 0)) (K : List AV → Prop) (hK : K [st (l ++ ([44] ++ dayS k d m w e t) ++ ([44] ++ dayS k' d' m' w' e' t'))]) :
    LoopI W1 (bodyOf Tryd.f15) 0 st0 (finK W1 Tryd.f15 K) := by
  have z1 := validDay_b hv
  have z2 := validDay_b hv'
  have y1 := dayS_len (k := k) (d := d) (m := m) (w := w) (e := e) z1.1 z1.2.1
  unfold LoopI
  refine loop_rule (fun j : Nat => h15 [dcs k d m w e t, dcs k' d' m' w' e' t'] (pre15 l (dayS k d m w e t) (dayS k' d' m' w' e' t') j) (j : Int)) (fun j => j ≤ 2) (fun j => 2 - j)
    (fun j hP K' hnorm hexit => ?_) rfl 0 p15 _ (by omega) hn0
  rw [f15_lp]
  refine brn_intro (fun h => ?_) (fun h => ?_)
  · have hj : j < 2 := by simp only [decide_eq_true_eq] at h; omega
    have hlen : (pre15 l (dayS k d m w e t) (dayS k' d' m' w' e' t') j).length ≤ 1024 := by
      match j, hj with
      | 0, _ => simp only [pre15]; omega
      | 1, _ => simp only [pre15, List.length_append, List.length_cons, List.length_nil]; omega
    obtain ⟨kk, dd, mm, ww, ee, tt, hEL, hvv, hpre⟩ : ∃ kk dd mm ww ee tt, List.getD [dcs k d m w e t, dcs k' d' m' w' e' t'] (Int.toNat (j : Int)) [] = dcs kk dd mm ww ee tt ∧ validDay kk dd mm ww ee tt = true ∧
        pre15 l (dayS k d m w e t) (dayS k' d' m' w' e' t') (j + 1) = pre15 l (dayS k d m w e t) (dayS k' d' m' w' e' t') j ++ ([44] ++ dayS kk dd mm ww ee tt) := by
      match j, hj with
      | 0, _ => exact ⟨_, _, _, _, _, _, rfl, hv, rfl⟩
      | 1, _ => exact ⟨_, _, _, _, _, _, rfl, hv', rfl⟩
    rw [hEL]
    generalize pre15 l (dayS k d m w e t) (dayS k' d' m' w' e' t') j = L at hlen hpre ⊢
    rw [iv0, iv1, iv2, iv3, iv4, iv5]
    have ej : IntKind.wrap .i64 ((j : Int) + 1) = ((j + 1 : Nat) : Int) := by rw [wrap64 (by omega) (by omega)]; omega
    have l1 := dd_len dd.toNat
    have l2 := dd_len mm.toNat
    have l3 := dd_len ww.toNat
    have l4 := dd_len ee.toNat
    obtain ⟨t0, t1, d0, d1, m0, m1, w0, w1, e0, e1, _⟩ := validDay_b hvv
    have l5 := fmt8_len t0 t1
    refine ⟨by omega, ?_, rfl, ?_, ?_, ?_⟩
    · simp only [List.length_cons, List.length_nil]; omega
    · simp only [List.length_cons, List.length_nil]; omega
    · simp only [List.length_cons, List.length_nil]; omega
    have fin : ∀ (x : List UInt8), x = L ++ ([44] ++ dayS kk dd mm ww ee tt) → x = pre15 l (dayS k d m w e t) (dayS k' d' m' w' e' t') (j + 1) := fun x hx => hx.trans hpre.symm
    rcases valid_cases hvv with ⟨rfl, rfl, rfl, rfl, _, _⟩ | ⟨rfl, rfl, rfl, rfl, _, _⟩ | ⟨rfl, rfl, _, _, _, _, _, _⟩
    · refine brn_intro (fun _ => ?_) (fun h => absurd h (by decide))
      by_cases ht : tt = 7200
      · subst ht
        have e1 : ((7200 : Int) != 7200) = false := rfl
        rw [e1]
        simp only [brn_f]
        have := fin (L ++ [44] ++ [74] ++ B8.dd dd.toNat) (by unfold dayS dspell; rw [if_pos rfl, if_pos rfl]; simp [B9.dd])
        refine ⟨?_, ?_, ?_, ?_, ?_, ?_, hnorm (j + 1) r15 _ (by omega) (by omega) (by rw [← this, ← ej]; show _ = _; kernel_rfl)⟩
        all_goals first | omega | (simp only [List.length_append, List.length_cons, List.length_nil]; omega)
      · have e1 : (tt != (7200 : Int)) = true := by simpa using ht
        rw [e1]
        simp only [brn_t]
        have := fin (L ++ [44] ++ [74] ++ B8.dd dd.toNat ++ ([47] ++ B8.fmt tt)) (by unfold dayS dspell; rw [if_neg ht, if_pos rfl]; simp [B9.dd])
        refine ⟨?_, ?_, ?_, ?_, ?_, ?_, ?_, ?_, ?_, ?_, ?_, hnorm (j + 1) r15 _ (by omega) (by omega) (by rw [← this, ← ej]; show _ = _; kernel_rfl)⟩
        all_goals first | omega | (simp only [List.length_append, List.length_cons, List.length_nil]; omega)
    · refine brn_intro (fun h => absurd h (by decide)) (fun _ => brn_intro (fun _ => ?_) (fun h => absurd h (by decide)))
      by_cases ht : tt = 7200
      · subst ht
        have e1 : ((7200 : Int) != 7200) = false := rfl
        rw [e1]
        simp only [brn_f]
        have := fin (L ++ [44] ++ [] ++ B8.dd dd.toNat) (by unfold dayS dspell; rw [if_pos rfl, if_neg (by decide), if_neg (by decide)]; simp [B9.dd])
        refine ⟨?_, ?_, ?_, ?_, ?_, ?_, hnorm (j + 1) r15 _ (by omega) (by omega) (by rw [← this, ← ej]; show _ = _; kernel_rfl)⟩
        all_goals first | omega | (simp only [List.length_append, List.length_cons, List.length_nil]; omega)
      · have e1 : (tt != (7200 : Int)) = true := by simpa using ht
        rw [e1]
        simp only [brn_t]
        have := fin (L ++ [44] ++ [] ++ B8.dd dd.toNat ++ ([47] ++ B8.fmt tt)) (by unfold dayS dspell; rw [if_neg ht, if_neg (by decide), if_neg (by decide)]; simp [B9.dd])
        refine ⟨?_, ?_, ?_, ?_, ?_, ?_, ?_, ?_, ?_, ?_, ?_, hnorm (j + 1) r15 _ (by omega) (by omega) (by rw [← this, ← ej]; show _ = _; kernel_rfl)⟩
        all_goals first | omega | (simp only [List.length_append, List.length_cons, List.length_nil]; omega)
    · refine brn_intro (fun h => absurd h (by decide)) (fun _ => brn_intro (fun h => absurd h (by decide)) (fun _ => ?_))
      by_cases ht : tt = 7200
      · subst ht
        have e1 : ((7200 : Int) != 7200) = false := rfl
        rw [e1]
        simp only [brn_f]
        have := fin (L ++ [44] ++ [77] ++ B8.dd mm.toNat ++ [46] ++ B8.dd ww.toNat ++ [46] ++ B8.dd ee.toNat) (by unfold dayS dspell; rw [if_pos rfl, if_neg (by decide), if_pos rfl]; simp [B9.dd])
        repeat' first
          | refine hnorm (j + 1) r15 _ (by omega) (by omega) (by rw [← this, ← ej]; show _ = _; kernel_rfl)
          | refine And.intro ?_ ?_
        all_goals first | omega | (simp only [List.length_append, List.length_cons, List.length_nil]; omega)
      · have e1 : (tt != (7200 : Int)) = true := by simpa using ht
        rw [e1]
        simp only [brn_t]
        have := fin (L ++ [44] ++ [77] ++ B8.dd mm.toNat ++ [46] ++ B8.dd ww.toNat ++ [46] ++ B8.dd ee.toNat ++ ([47] ++ B8.fmt tt)) (by unfold dayS dspell; rw [if_neg ht, if_neg (by decide), if_pos rfl]; simp [B9.dd])
        repeat' first
          | refine hnorm (j + 1) r15 _ (by omega) (by omega) (by rw [← this, ← ej]; show _ = _; kernel_rfl)
          | refine And.intro ?_ ?_
        all_goals first | omega | (simp only [List.length_append, List.length_cons, List.length_nil]; omega)
  · have hj : j = 2 := by simp only [decide_eq_false_iff_not] at h; omega
    subst hj
    refine hexit _ _ (by simp) ?_
    refine Eq.mpr (f15_out k d m w e t k' d' m' w' e' t' _ _ K) ⟨?_, hK⟩
    intro e
    simp [pre15] at e
theorem cut15 (a : List UInt8) (o : Int) (h : Bool) (b : List UInt8) (p k d m w e t k' d' m' w' e' t' : Int) (K : List AV → Prop) : evSpec W1 Tryd.f15 [ruleAV a o h b p k d m w e t k' d' m' w' e' t'] K = evCode W1 a15 (e15 (R17 a o h b p k d m w e t k' d' m' w' e' t')) (fun x st => match x with
    | .normal => evCode W1 (c15 (lrepl 3 .r)) st (finK W1 Tryd.f15 K)
    | x => finK W1 Tryd.f15 K x st) := by kernel_rfl
theorem cut15h (st : St) (K : AX → St → Prop) : evCode W1 (c15 (lrepl 3 .r)) st K = evCode W1 (q15 3) st (fun x st => match x with
    | .normal => evCode W1 (c15 (lrepl 4 .r)) st K
    | x => K x st) := by kernel_rfl
theorem cut15b (st : St) (K : AX → St → Prop) : evCode W1 (c15 (lrepl 4 .r)) st K = evCode W1 (.seq (q15 4) (q15 5)) st (fun x st => match x with
    | .normal => evCode W1 (c15 (lrepl 6 .r)) st K
    | x => K x st) := by kernel_rfl
theorem go15 {R : List AV} {l : List UInt8} {v : Nat} {c : Code} {K : AX → St → Prop} {st' : St} (h : st' = S15 R l v (fun j => nth .dead st'.tmps j)) (H : ∀ T, evCode W1 c (S15 R l v T) K) : evCode W1 c st' K :=
  (congrArg (fun x => evCode W1 c x K) h).mpr (H _)
theorem f15_ev (a : List UInt8) (o : Int) (h : Bool) (b : List UInt8) (p k d m w e t k' d' m' w' e' t' : Int) (hv : validRule a o h b p k d m w e t k' d' m' w' e' t' = true) (K : List AV → Prop)
    (hK : K [st (ruleS a o h b p k d m w e t k' d' m' w' e' t')]) : evSpec W1 Tryd.f15 [ruleAV a o h b p k d m w e t k' d' m' w' e' t'] K := by
  obtain ⟨ha, o0, o1, hT, hF⟩ := rule_parts hv
  have hal := B7.valid_len ha
  have la := B7.fmt_len (s := a)
  have w1 : IntKind.wrap .i64 (0 - o) = 0 - o := wrap64 (by omega) (by omega)
  have l1 := fmt8_len (t := 0 - o) (by omega) (by omega)
  have l2 := (B8.fmt_len (n := 0 - o) (by omega) (by omega)).1
  rw [cut15]
  refine Eq.mpr (f15_a a o h b p k d m w e t k' d' m' w' e' t' _) ?_
  unfold ruleS dstS at hK
  simp only [w1]
  have hl : (B7.fmt a ++ B8.fmt (0 - o)).length ≤ 300 := by rw [List.length_append]; omega
  have hl' : (B7.fmt a).length + (B8.fmt (0 - o)).length ≤ 300 := by omega
  have main : ∀ T, evCode W1 (c15 (lrepl 3 .r)) (S15 (R17 a o h b p k d m w e t k' d' m' w' e' t') (B7.fmt a ++ B8.fmt (0 - o)) 0 T) (finK W1 Tryd.f15 K) := by
    intro T
    have hne : B7.fmt a ++ B8.fmt (0 - o) ≠ [] := fun e => by rw [List.append_eq_nil_iff] at e; rw [e.2] at l2; simp at l2
    rw [← List.append_assoc] at hK
    generalize B7.fmt a ++ B8.fmt (0 - o) = L at hl hne hK ⊢
    rw [cut15h]
    refine Eq.mpr (f15_h a o h b p k d m w e t k' d' m' w' e' t' L T _) ?_
    refine brn_intro (fun hh => ⟨hne, ?_⟩) (fun hh => ?_)
    · simp only [Bool.not_eq_true'] at hh
      rw [hh, if_neg (by simp), List.append_nil] at hK
      exact Eq.mp (by kernel_rfl) hK
    · simp only [Bool.not_eq_false'] at hh
      obtain ⟨hb, p0, p1, hs, he⟩ := hT hh
      rw [if_pos hh] at hK
      have hbl := B7.valid_len hb
      have lb := B7.fmt_len (s := b)
      have w2 : IntKind.wrap .i64 (0 - p) = 0 - p := wrap64 (by omega) (by omega)
      have w3 : IntKind.wrap .i64 (o + 3600) = o + 3600 := wrap64 (by omega) (by omega)
      have l3 := fmt8_len (t := 0 - p) (by omega) (by omega)
      refine go15 (R := R17 a o h b p k d m w e t k' d' m' w' e' t') (l := L) (v := 0) (by kernel_rfl) (fun T => ?_)
      rw [cut15b]
      refine Eq.mpr (f15_b a o h b p k d m w e t k' d' m' w' e' t' L T _) ?_
      rw [w3]
      simp only [w2]
      refine ⟨by omega, by omega, by omega, brn_intro (fun hp => ?_) (fun hp => ?_)⟩
      · have hp' : p ≠ o + 3600 := by simpa using hp
        rw [if_neg hp'] at hK
        refine ⟨by omega, by omega, by rw [List.length_append]; omega, by rw [List.length_append]; omega, ?_⟩
        refine go15 (R := R17 a o h b p k d m w e t k' d' m' w' e' t') (l := L ++ B7.fmt b ++ B8.fmt (0 - p)) (v := 2) (by kernel_rfl) (fun T => ?_)
        refine Eq.mpr (f15_d a o h b p k d m w e t k' d' m' w' e' t' _ T _) ?_
        refine l15 hs he (L ++ B7.fmt b ++ B8.fmt (0 - p)) (by simp only [List.length_append]; omega) (fun e => hne (by simp only [List.append_eq_nil_iff] at e; exact e.1.1)) _ (by kernel_rfl) K ?_
        have e1 : L ++ B7.fmt b ++ B8.fmt (0 - p) ++ ([44] ++ dayS k d m w e t) ++ ([44] ++ dayS k' d' m' w' e' t') = L ++ (B7.fmt b ++ (B8.fmt (0 - p) ++ ([44] ++ (dayS k d m w e t ++ ([44] ++ dayS k' d' m' w' e' t'))))) := by simp only [List.append_assoc]
        rw [e1]; exact hK
      · have hp' : p = o + 3600 := by simpa using hp
        rw [if_pos hp'] at hK
        refine go15 (R := R17 a o h b p k d m w e t k' d' m' w' e' t') (l := L ++ B7.fmt b) (v := 1) (by kernel_rfl) (fun T => ?_)
        refine Eq.mpr (f15_c a o h b p k d m w e t k' d' m' w' e' t' _ T _) ?_
        refine l15 hs he (L ++ B7.fmt b) (by simp only [List.length_append]; omega) (fun e => hne (by simp only [List.append_eq_nil_iff] at e; exact e.1)) _ (by kernel_rfl) K ?_
        have e1 : L ++ B7.fmt b ++ ([44] ++ dayS k d m w e t) ++ ([44] ++ dayS k' d' m' w' e' t') = L ++ (B7.fmt b ++ ([] ++ ([44] ++ (dayS k d m w e t ++ ([44] ++ dayS k' d' m' w' e' t'))))) := by simp only [List.append_assoc, List.nil_append]
        rw [e1]; exact hK
  have leaf : ∀ st', st' = S15 (R17 a o h b p k d m w e t k' d' m' w' e' t') (B7.fmt a ++ B8.fmt (0 - o)) 0 (fun j => nth .dead st'.tmps j) → evCode W1 (c15 (lrepl 3 .r)) st' (finK W1 Tryd.f15 K) := fun st' hst => go15 hst main
  repeat' first
    | exact leaf _ (by kernel_rfl)
    | refine And.intro ?_ ?_
  all_goals first | omega | (simp only [List.length_append, List.length_nil]; omega)
theorem okCb1 {E : FuncId → List AV → Option (List Prop × List AV)} (hE : EOK Tryd.prog E B8.G8) : CallOK ⟨Tryd.prog, E, inlX xBld inlB Tryd.prog E B8.G8 0 4, B8.G8, 0⟩ := inlX_ok hE (fun _ => xBld_ok) inlB_ok 4
theorem ok15 : ∀ args pres res, sRuleS args = some (pres, res) → SpecOK Tryd.prog B8.G8 15 args pres res := by
  intro args pres res h
  unfold sRuleS at h
  split at h
  case h_2 => cases h
  cases h
  rename_i a o h b p k d m w e t k' d' m' w' e' t'
  exact spec_ok (C := W1) okB0 (okCb1 okB0) Tryd.func15 (by kernel_rfl) (by kernel_rfl) (fun hp => f15_ev a o h b p k d m w e t k' d' m' w' e' t' (hp _ (List.mem_cons_self ..)) _ rfl)
end Z10
namespace Z10
open Go Go.AE Go.Proofs B9
noncomputable def P0 := addE (addE (addE R3 12 sDayS) 15 sRuleS) 17 sExt
noncomputable def P1 := addE P0 9 sCanon
noncomputable def P2 := addE P1 8 sAwake
noncomputable def V0 : Cx := cx P0
noncomputable def V1 : Cx := cx P1
noncomputable def V2 : Cx := cx P2
end Z10
set_option maxRecDepth 100000
namespace Z10
open Go Go.AE Go.Proofs B9
attribute [local irreducible] loopK evCode evSpec loopB norm
theorem f9_in (s : List UInt8) (K : List AV → Prop) : evSpec V0 Tryd.f9 [st s] K =
  ((↑(List.length s) : Int) ≤ (1000000000000000000 : Int) ∧
  brn (whyP s != (0 : Int)) (K [AV.imm (IV.str []), AV.imm (IV.bool false)])
    (validRule (Ru.a (ruP s)) (Ru.o (ruP s)) (Ru.h (ruP s)) (Ru.b (ruP s)) (Ru.p (ruP s)) (Dv.k (Ru.S (ruP s)))
          (Dv.d (Ru.S (ruP s))) (Dv.m (Ru.S (ruP s))) (Dv.w (Ru.S (ruP s))) (Dv.e (Ru.S (ruP s))) (Dv.t (Ru.S (ruP s)))
          (Dv.k (Ru.E (ruP s))) (Dv.d (Ru.E (ruP s))) (Dv.m (Ru.E (ruP s))) (Dv.w (Ru.E (ruP s))) (Dv.e (Ru.E (ruP s)))
          (Dv.t (Ru.E (ruP s))) =
        true ∧
      K
        [AV.imm
            (IV.str
              (ruleS (Ru.a (ruP s)) (Ru.o (ruP s)) (Ru.h (ruP s)) (Ru.b (ruP s)) (Ru.p (ruP s)) (Dv.k (Ru.S (ruP s)))
                (Dv.d (Ru.S (ruP s))) (Dv.m (Ru.S (ruP s))) (Dv.w (Ru.S (ruP s))) (Dv.e (Ru.S (ruP s)))
                (Dv.t (Ru.S (ruP s))) (Dv.k (Ru.E (ruP s))) (Dv.d (Ru.E (ruP s))) (Dv.m (Ru.E (ruP s)))
                (Dv.w (Ru.E (ruP s))) (Dv.e (Ru.E (ruP s))) (Dv.t (Ru.E (ruP s))))),
          AV.imm (IV.bool true)])) := by kernel_rfl
theorem f8_in (K : List AV → Prop) : evSpec V1 Tryd.f8 [] K = ((↑(List.length [(69 : UInt8), (83 : UInt8), (84 : UInt8), (43 : UInt8), (53 : UInt8), (58 : UInt8), (48 : UInt8), (48 : UInt8), (69 : UInt8), (68 : UInt8), (84 : UInt8), (52 : UInt8), (44 : UInt8), (77 : UInt8), (48 : UInt8), (51 : UInt8), (46 : UInt8), (50 : UInt8), (46 : UInt8), (48 : UInt8), (47 : UInt8), (48 : UInt8), (50 : UInt8), (44 : UInt8), (77 : UInt8), (49 : UInt8), (49 : UInt8), (46 : UInt8), (49 : UInt8), (46 : UInt8), (48 : UInt8)]) : Int) ≤ 1000000000000000000 ∧ (↑(List.length [(69 : UInt8), (83 : UInt8), (84 : UInt8), (53 : UInt8), (69 : UInt8), (68 : UInt8), (84 : UInt8)]) : Int) ≤ 1000000000000000000 ∧ ((decide (canon [(69 : UInt8), (83 : UInt8), (84 : UInt8), (43 : UInt8), (53 : UInt8), (58 : UInt8), (48 : UInt8), (48 : UInt8), (69 : UInt8), (68 : UInt8), (84 : UInt8), (52 : UInt8), (44 : UInt8), (77 : UInt8), (48 : UInt8), (51 : UInt8), (46 : UInt8), (50 : UInt8), (46 : UInt8), (48 : UInt8), (47 : UInt8), (48 : UInt8), (50 : UInt8), (44 : UInt8), (77 : UInt8), (49 : UInt8), (49 : UInt8), (46 : UInt8), (49 : UInt8), (46 : UInt8), (48 : UInt8)] = [(69 : UInt8), (83 : UInt8), (84 : UInt8), (53 : UInt8),
 (69 : UInt8), (68 : UInt8), (84 : UInt8), (44 : UInt8), (77 : UInt8), (51 : UInt8), (46 : UInt8), (50 : UInt8), (46 : UInt8), (48 : UInt8), (44 : UInt8), (77 : UInt8), (49 : UInt8), (49 : UInt8), (46 : UInt8), (49 : UInt8), (46 : UInt8), (48 : UInt8)]) && okP [(69 : UInt8), (83 : UInt8), (84 : UInt8), (43 : UInt8), (53 : UInt8), (58 : UInt8), (48 : UInt8), (48 : UInt8), (69 : UInt8), (68 : UInt8), (84 : UInt8), (52 : UInt8), (44 : UInt8), (77 : UInt8), (48 : UInt8), (51 : UInt8), (46 : UInt8), (50 : UInt8), (46 : UInt8), (48 : UInt8), (47 : UInt8), (48 : UInt8), (50 : UInt8), (44 : UInt8), (77 : UInt8), (49 : UInt8), (49 : UInt8), (46 : UInt8), (49 : UInt8), (46 : UInt8), (48 : UInt8)] && !okP [(69 : UInt8), (83 : UInt8), (84 : UInt8), (53 : UInt8), (69 : UInt8), (68 : UInt8), (84 : UInt8)]) = true → validDay (1 : Int) (60 : Int) (0 : Int) (0 : Int) (0 : Int) (90000 : Int) = true) ∧ ((decide (canon [(69 : UInt8), (83 : UInt8), (84 : UInt8), (43 : UInt8), (53 : UInt8), (58 : UInt8), (48 : UInt8), (48 : UInt8), (69 : UInt8), (68 : UInt8), (84 : UInt8), (52 : UInt8), (44 : UInt8), (77 : UInt8), (48 : UInt8), (51 : UInt8), (46 : UInt8), (50 : UInt8), (46 : UInt8), (48 : UInt8), (47 :
 UInt8), (48 : UInt8), (50 : UInt8), (44 : UInt8), (77 : UInt8), (49 : UInt8), (49 : UInt8), (46 : UInt8), (49 : UInt8), (46 : UInt8), (48 : UInt8)] = [(69 : UInt8), (83 : UInt8), (84 : UInt8), (53 : UInt8), (69 : UInt8), (68 : UInt8), (84 : UInt8), (44 : UInt8), (77 : UInt8), (51 : UInt8), (46 : UInt8), (50 : UInt8), (46 : UInt8), (48 : UInt8), (44 : UInt8), (77 : UInt8), (49 : UInt8), (49 : UInt8), (46 : UInt8), (49 : UInt8), (46 : UInt8), (48 : UInt8)]) && okP [(69 : UInt8), (83 : UInt8), (84 : UInt8), (43 : UInt8), (53 : UInt8), (58 : UInt8), (48 : UInt8), (48 : UInt8), (69 : UInt8), (68 : UInt8), (84 : UInt8), (52 : UInt8), (44 : UInt8), (77 : UInt8), (48 : UInt8), (51 : UInt8), (46 : UInt8), (50 : UInt8), (46 : UInt8), (48 : UInt8), (47 : UInt8), (48 : UInt8), (50 : UInt8), (44 : UInt8), (77 : UInt8), (49 : UInt8), (49 : UInt8), (46 : UInt8), (49 : UInt8), (46 : UInt8), (48 : UInt8)] && !okP [(69 : UInt8), (83 : UInt8), (84 : UInt8), (53 : UInt8), (69 : UInt8), (68 : UInt8), (84 : UInt8)] && decide (dayS (1 : Int) (60 : Int) (0 : Int) (0 : Int) (0 : Int) (90000 : Int) = [(74 : UInt8), (54 : UInt8), (48 : UInt8), (47 : UInt8), (50 : UInt8), (53 : UInt8)])) = true → validRule
 [(45 : UInt8), (48 : UInt8), (51 : UInt8)] (-10800 : Int) false [] (0 : Int) (0 : Int) (0 : Int) (0 : Int) (0 : Int) (0 : Int) (0 : Int) (0 : Int) (0 : Int) (0 : Int) (0 : Int) (0 : Int) (0 : Int) = true) ∧ ((decide (canon [(69 : UInt8), (83 : UInt8), (84 : UInt8), (43 : UInt8), (53 : UInt8), (58 : UInt8), (48 : UInt8), (48 : UInt8), (69 : UInt8), (68 : UInt8), (84 : UInt8), (52 : UInt8), (44 : UInt8), (77 : UInt8), (48 : UInt8), (51 : UInt8), (46 : UInt8), (50 : UInt8), (46 : UInt8), (48 : UInt8), (47 : UInt8), (48 : UInt8), (50 : UInt8), (44 : UInt8), (77 : UInt8), (49 : UInt8), (49 : UInt8), (46 : UInt8), (49 : UInt8), (46 : UInt8), (48 : UInt8)] = [(69 : UInt8), (83 : UInt8), (84 : UInt8), (53 : UInt8), (69 : UInt8), (68 : UInt8), (84 : UInt8), (44 : UInt8), (77 : UInt8), (51 : UInt8), (46 : UInt8), (50 : UInt8), (46 : UInt8), (48 : UInt8), (44 : UInt8), (77 : UInt8), (49 : UInt8), (49 : UInt8), (46 : UInt8), (49 : UInt8), (46 : UInt8), (48 : UInt8)]) && okP [(69 : UInt8), (83 : UInt8), (84 : UInt8), (43 : UInt8), (53 : UInt8), (58 : UInt8), (48 : UInt8), (48 : UInt8), (69 : UInt8), (68 : UInt8), (84 : UInt8), (52 : UInt8), (44 : UInt8), (77 : UInt8), (48 : UInt8), (51 : UInt8),
 (46 : UInt8), (50 : UInt8), (46 : UInt8), (48 : UInt8), (47 : UInt8), (48 : UInt8), (50 : UInt8), (44 : UInt8), (77 : UInt8), (49 : UInt8), (49 : UInt8), (46 : UInt8), (49 : UInt8), (46 : UInt8), (48 : UInt8)] && !okP [(69 : UInt8), (83 : UInt8), (84 : UInt8), (53 : UInt8), (69 : UInt8), (68 : UInt8), (84 : UInt8)] && decide (dayS (1 : Int) (60 : Int) (0 : Int) (0 : Int) (0 : Int) (90000 : Int) = [(74 : UInt8), (54 : UInt8), (48 : UInt8), (47 : UInt8), (50 : UInt8), (53 : UInt8)]) && decide (ruleS [(45 : UInt8), (48 : UInt8), (51 : UInt8)] (-10800 : Int) false [] (0 : Int) (0 : Int) (0 : Int) (0 : Int) (0 : Int) (0 : Int) (0 : Int) (0 : Int) (0 : Int) (0 : Int) (0 : Int) (0 : Int) (0 : Int) = [(60 : UInt8), (45 : UInt8), (48 : UInt8), (51 : UInt8), (62 : UInt8), (51 : UInt8)])) = true → validRule [(65 : UInt8), (65 : UInt8), (65 : UInt8)] (0 : Int) true [(66 : UInt8), (66 : UInt8), (66 : UInt8)] (3600 : Int) (1 : Int) (60 : Int) (0 : Int) (0 : Int) (0 : Int) (90000 : Int) (2 : Int) (0 : Int) (0 : Int) (0 : Int) (0 : Int) (7200 : Int) = true) ∧ K [.imm (.bool (decide (canon [(69 : UInt8), (83 : UInt8), (84 : UInt8), (43 : UInt8), (53 : UInt8), (58 : UInt8), (48 : UInt8), (48 :
 UInt8), (69 : UInt8), (68 : UInt8), (84 : UInt8), (52 : UInt8), (44 : UInt8), (77 : UInt8), (48 : UInt8), (51 : UInt8), (46 : UInt8), (50 : UInt8), (46 : UInt8), (48 : UInt8), (47 : UInt8), (48 : UInt8), (50 : UInt8), (44 : UInt8), (77 : UInt8), (49 : UInt8), (49 : UInt8), (46 : UInt8), (49 : UInt8), (46 : UInt8), (48 : UInt8)] = [(69 : UInt8), (83 : UInt8), (84 : UInt8), (53 : UInt8), (69 : UInt8), (68 : UInt8), (84 : UInt8), (44 : UInt8), (77 : UInt8), (51 : UInt8), (46 : UInt8), (50 : UInt8), (46 : UInt8), (48 : UInt8), (44 : UInt8), (77 : UInt8), (49 : UInt8), (49 : UInt8), (46 : UInt8), (49 : UInt8), (46 : UInt8), (48 : UInt8)]) && okP [(69 : UInt8), (83 : UInt8), (84 : UInt8), (43 : UInt8), (53 : UInt8), (58 : UInt8), (48 : UInt8), (48 : UInt8), (69 : UInt8), (68 : UInt8), (84 : UInt8), (52 : UInt8), (44 : UInt8), (77 : UInt8), (48 : UInt8), (51 : UInt8), (46 : UInt8), (50 : UInt8), (46 : UInt8), (48 : UInt8), (47 : UInt8), (48 : UInt8), (50 : UInt8), (44 : UInt8), (77 : UInt8), (49 : UInt8), (49 : UInt8), (46 : UInt8), (49 : UInt8), (46 : UInt8), (48 : UInt8)] && !okP [(69 : UInt8), (83 : UInt8), (84 : UInt8), (53 : UInt8), (69 : UInt8), (68 : UInt8), (84 : UInt8)] && decide
 (dayS (1 : Int) (60 : Int) (0 : Int) (0 : Int) (0 : Int) (90000 : Int) = [(74 : UInt8), (54 : UInt8), (48 : UInt8), (47 : UInt8), (50 : UInt8), (53 : UInt8)]) && decide (ruleS [(45 : UInt8), (48 : UInt8), (51 : UInt8)] (-10800 : Int) false [] (0 : Int) (0 : Int) (0 : Int) (0 : Int) (0 : Int) (0 : Int) (0 : Int) (0 : Int) (0 : Int) (0 : Int) (0 : Int) (0 : Int) (0 : Int) = [(60 : UInt8), (45 : UInt8), (48 : UInt8), (51 : UInt8), (62 : UInt8), (51 : UInt8)]) && decide (ruleS [(65 : UInt8), (65 : UInt8), (65 : UInt8)] (0 : Int) true [(66 : UInt8), (66 : UInt8), (66 : UInt8)] (3600 : Int) (1 : Int) (60 : Int) (0 : Int) (0 : Int) (0 : Int) (90000 : Int) (2 : Int) (0 : Int) (0 : Int) (0 : Int) (0 : Int) (7200 : Int) = [(65 : UInt8), (65 : UInt8), (65 : UInt8), (48 : UInt8), (66 : UInt8), (66 : UInt8), (66 : UInt8), (44 : UInt8), (74 : UInt8), (54 : UInt8), (48 : UInt8), (47 : UInt8), (50 : UInt8), (53 : UInt8), (44 : UInt8), (48 : UInt8)]) && (true && (late (90000 : Int) || late (7200 : Int))) && !(false && (late (0 : Int) || late (0 : Int)))))]) := by kernel_rfl
theorem f6_in (a : List UInt8) (o : Int) (h : Bool) (b : List UInt8) (p : Int) (k : Int) (d : Int) (m : Int) (w : Int) (e : Int) (t : Int) (k' : Int) (d' : Int) (m' : Int) (w' : Int) (e' : Int) (t' : Int) (x : Int) (y : Int) (K : List AV → Prop) : evSpec V2 Tryd.f6 [ruleAV a o h b p k d m w e t k' d' m' w' e' t', .imm (.int IntKind.u16 x), .imm (.int IntKind.u32 y)] K = (((!true) = false → a.length ≤ 9223372036854775807) ∧ ((!true) = false → b.length ≤ 9223372036854775807) ∧ brn (!true || !validRule a o h b p k d m w e t k' d' m' w' e' t' || !h) (K [.imm (.bool true)]) ((86401 : Int) ≠ 0 ∧ (7 : Int) ≠ 0 ∧ (86401 : Int) ≠ 0 ∧ (518399 : Int) ≠ 0 ∧ K [.imm (.bool (!(h && (late (IntKind.wrap .i64 (Int.tmod y (86401 : Int))) || late (IntKind.wrap .i64 (Int.tmod (IntKind.wrap IntKind.u32 (Int.tdiv y (7 : Int))) (86401 : Int))))) && (h && (late (IntKind.wrap .i64 ((-1 : Int) - IntKind.wrap .i64 x)) || late (IntKind.wrap .i64 (Int.tmod (IntKind.wrap IntKind.u32 (Int.tdiv y (7 : Int))) (86401 : Int))))) && (h && (late (IntKind.wrap .i64 (Int.tmod y (86401 : Int))) || late (IntKind.wrap .i64 ((86401 : Int) + IntKind.wrap .i64 (Int.tmod y (518399 : Int)))))) && !(false && (late (0 : Int) ||
 late (0 : Int)))))])) := by kernel_rfl
theorem f3_in (a : List UInt8) (o : Int) (h : Bool) (b : List UInt8) (p : Int) (k : Int) (d : Int) (m : Int) (w : Int) (e : Int) (t : Int) (k' : Int) (d' : Int) (m' : Int) (w' : Int) (e' : Int) (t' : Int) (q1 : Int) (q2 : Int) (q3 : Int) (q4 : Int) (q5 : Int) (q6 : Int) (s : List UInt8) (K : List AV → Prop) : evSpec V2 Tryd.f3 [ruleAV a o h b p k d m w e t k' d' m' w' e' t', dayAV q1 q2 q3 q4 q5 q6, st s] K = (brn (!true || decide ((s.length : Int) > 1000)) (K [.imm (.bool true)]) ((s.length : Int) ≤ 1000000000000000000 ∧ (s.length : Int) ≤ 1000000000000000000 ∧ brn (!decide (canon s = canon s)) (K [.imm (.bool false)]) (brn (!okP s == okP s) (K [.imm (.bool false)]) (brn (validDay q1 q2 q3 q4 q5 q6) ((validDay q1 q2 q3 q4 q5 q6 = true ∧ validDay q1 q2 q3 q4 q5 q6 = true ∧ brn (!decide (dayS q1 q2 q3 q4 q5 q6 = dayS q1 q2 q3 q4 q5 q6)) (K [.imm (.bool false)]) (a.length ≤ 9223372036854775807 ∧ b.length ≤ 9223372036854775807 ∧ brn (!validRule a o h b p k d m w e t k' d' m' w' e' t') (K [.imm (.bool true)]) ((validRule a o h b p k d m w e t k' d' m' w' e' t' = true ∧ validRule a o h b p k d m w e t k' d' m' w' e' t' = true ∧ brn (decide (ruleS a o h b p k d m w e t k' d' m' w' e' t' =
 ruleS a o h b p k d m w e t k' d' m' w' e' t')) (K [.imm (.bool ((h && (late t || late t')) == (h && (late t || late t'))))] ∧ K [.imm (.bool ((h && (late t || late t')) == (h && (late t || late t'))))]) (K [.imm (.bool false)])) ∧ validRule a o h b p k d m w e t k' d' m' w' e' t' = true ∧ validRule a o h b p k d m w e t k' d' m' w' e' t' = true ∧ brn (decide (ruleS a o h b p k d m w e t k' d' m' w' e' t' = ruleS a o h b p k d m w e t k' d' m' w' e' t')) (K [.imm (.bool ((h && (late t || late t')) == (h && (late t || late t'))))] ∧ K [.imm (.bool ((h && (late t || late t')) == (h && (late t || late t'))))]) (K [.imm (.bool false)])))) ∧ validDay q1 q2 q3 q4 q5 q6 = true ∧ validDay q1 q2 q3 q4 q5 q6 = true ∧ brn (!decide (dayS q1 q2 q3 q4 q5 q6 = dayS q1 q2 q3 q4 q5 q6)) (K [.imm (.bool false)]) (a.length ≤ 9223372036854775807 ∧ b.length ≤ 9223372036854775807 ∧ brn (!validRule a o h b p k d m w e t k' d' m' w' e' t') (K [.imm (.bool true)]) ((validRule a o h b p k d m w e t k' d' m' w' e' t' = true ∧ validRule a o h b p k d m w e t k' d' m' w' e' t' = true ∧ brn (decide (ruleS a o h b p k d m w e t k' d' m' w' e' t' = ruleS a o h b p k d m w e t k' d' m' w' e' t')) (K [.imm (.bool
 ((h && (late t || late t')) == (h && (late t || late t'))))] ∧ K [.imm (.bool ((h && (late t || late t')) == (h && (late t || late t'))))]) (K [.imm (.bool false)])) ∧ validRule a o h b p k d m w e t k' d' m' w' e' t' = true ∧ validRule a o h b p k d m w e t k' d' m' w' e' t' = true ∧ brn (decide (ruleS a o h b p k d m w e t k' d' m' w' e' t' = ruleS a o h b p k d m w e t k' d' m' w' e' t')) (K [.imm (.bool ((h && (late t || late t')) == (h && (late t || late t'))))] ∧ K [.imm (.bool ((h && (late t || late t')) == (h && (late t || late t'))))]) (K [.imm (.bool false)])))) (a.length ≤ 9223372036854775807 ∧ b.length ≤ 9223372036854775807 ∧ brn (!validRule a o h b p k d m w e t k' d' m' w' e' t') (K [.imm (.bool true)]) ((validRule a o h b p k d m w e t k' d' m' w' e' t' = true ∧ validRule a o h b p k d m w e t k' d' m' w' e' t' = true ∧ brn (decide (ruleS a o h b p k d m w e t k' d' m' w' e' t' = ruleS a o h b p k d m w e t k' d' m' w' e' t')) (K [.imm (.bool ((h && (late t || late t')) == (h && (late t || late t'))))] ∧ K [.imm (.bool ((h && (late t || late t')) == (h && (late t || late t'))))]) (K [.imm (.bool false)])) ∧ validRule a o h b p k d m w e t k' d' m' w' e' t' = true ∧
 validRule a o h b p k d m w e t k' d' m' w' e' t' = true ∧ brn (decide (ruleS a o h b p k d m w e t k' d' m' w' e' t' = ruleS a o h b p k d m w e t k' d' m' w' e' t')) (K [.imm (.bool ((h && (late t || late t')) == (h && (late t || late t'))))] ∧ K [.imm (.bool ((h && (late t || late t')) == (h && (late t || late t'))))]) (K [.imm (.bool false)]))))))) := by kernel_rfl
theorem f4_in (a : List UInt8) (o : Int) (h : Bool) (b : List UInt8) (p : Int) (k : Int) (d : Int) (m : Int) (w : Int) (e : Int) (t : Int) (k' : Int) (d' : Int) (m' : Int) (w' : Int) (e' : Int) (t' : Int) (A : List UInt8) (O : Int) (H : Bool) (B : List UInt8) (P : Int) (q1 : Int) (q2 : Int) (q3 : Int) (q4 : Int) (q5 : Int) (q6 : Int) (u1 : Int) (u2 : Int) (u3 : Int) (u4 : Int) (u5 : Int) (u6 : Int) (K : List AV → Prop) : evSpec V2 Tryd.f4 [ruleAV a o h b p k d m w e t k' d' m' w' e' t', ruleAV A O H B P q1 q2 q3 q4 q5 q6 u1 u2 u3 u4 u5 u6] K = (((!true) = false → a.length ≤ 9223372036854775807) ∧ ((!true) = false → b.length ≤ 9223372036854775807) ∧ ((!true || !validRule a o h b p k d m w e t k' d' m' w' e' t') = false → List.length A ≤ 9223372036854775807) ∧ ((!true || !validRule a o h b p k d m w e t k' d' m' w' e' t') = false → List.length B ≤ 9223372036854775807) ∧ brn (!true || !validRule a o h b p k d m w e t k' d' m' w' e' t' || !validRule A O H B P q1 q2 q3 q4 q5 q6 u1 u2 u3 u4 u5 u6) (K [.imm (.bool true)]) (validRule a o h b p k d m w e t k' d' m' w' e' t' = true ∧ (↑(ruleS a o h b p k d m w e t k' d' m' w' e' t').length : Int) ≤ 1000000000000000000 ∧ brn (whyP (ruleS a o h
 b p k d m w e t k' d' m' w' e' t') != 0) (K [.imm (.bool false)]) (brn (!(decide (Ru.a (ruP (ruleS a o h b p k d m w e t k' d' m' w' e' t')) = a) && (Ru.o (ruP (ruleS a o h b p k d m w e t k' d' m' w' e' t')) == o && (Ru.h (ruP (ruleS a o h b p k d m w e t k' d' m' w' e' t')) == h && (decide (Ru.b (ruP (ruleS a o h b p k d m w e t k' d' m' w' e' t')) = b) && (Ru.p (ruP (ruleS a o h b p k d m w e t k' d' m' w' e' t')) == p && (Dv.k (Ru.S (ruP (ruleS a o h b p k d m w e t k' d' m' w' e' t'))) == k && (Dv.d (Ru.S (ruP (ruleS a o h b p k d m w e t k' d' m' w' e' t'))) == d && (Dv.m (Ru.S (ruP (ruleS a o h b p k d m w e t k' d' m' w' e' t'))) == m && (Dv.w (Ru.S (ruP (ruleS a o h b p k d m w e t k' d' m' w' e' t'))) == w && (Dv.e (Ru.S (ruP (ruleS a o h b p k d m w e t k' d' m' w' e' t'))) == e && (Dv.t (Ru.S (ruP (ruleS a o h b p k d m w e t k' d' m' w' e' t'))) == t && true))))) && (Dv.k (Ru.E (ruP (ruleS a o h b p k d m w e t k' d' m' w' e' t'))) == k' && (Dv.d (Ru.E (ruP (ruleS a o h b p k d m w e t k' d' m' w' e' t'))) == d' && (Dv.m (Ru.E (ruP (ruleS a o h b p k d m w e t k' d' m' w' e' t'))) == m' && (Dv.w (Ru.E (ruP (ruleS a o h b p k d m w e t k' d' m' w' e' t'))) == w' && (Dv.e
 (Ru.E (ruP (ruleS a o h b p k d m w e t k' d' m' w' e' t'))) == e' && (Dv.t (Ru.E (ruP (ruleS a o h b p k d m w e t k' d' m' w' e' t'))) == t' && true))))) && true)))))))) (K [.imm (.bool false)]) (((validRule A O H B P q1 q2 q3 q4 q5 q6 u1 u2 u3 u4 u5 u6 = true ∧ brn (!decide (ruleS a o h b p k d m w e t k' d' m' w' e' t' = ruleS A O H B P q1 q2 q3 q4 q5 q6 u1 u2 u3 u4 u5 u6) == (decide (a = A) && (o == O && (h == H && (decide (b = B) && (p == P && (k == q1 && (d == q2 && (m == q3 && (w == q4 && (e == q5 && (t == q6 && true))))) && (k' == u1 && (d' == u2 && (m' == u3 && (w' == u4 && (e' == u5 && (t' == u6 && true))))) && true)))))))) (K [.imm (.bool false)]) (brn (!h) (K [.imm (.bool true)]) (validDay k d m w e t = true ∧ (↑(dayS k d m w e t).length : Int) ≤ big - 20 ∧ K [.imm (.bool (Dy.ok (day (dayS k d m w e t)) && (Dy.k (day (dayS k d m w e t)) == k && (Dy.d (day (dayS k d m w e t)) == d && (Dy.m (day (dayS k d m w e t)) == m && (Dy.w (day (dayS k d m w e t)) == w && (Dy.e (day (dayS k d m w e t)) == e && (Dy.t (day (dayS k d m w e t)) == t && true)))))) && Dy.n (day (dayS k d m w e t)) == (↑(dayS k d m w e t).length : Int)))]))) ∧ ((validRule A O H B P q1 q2 q3 q4 q5 q6 u1 u2
 u3 u4 u5 u6 = true ∧ brn (!decide (ruleS a o h b p k d m w e t k' d' m' w' e' t' = ruleS A O H B P q1 q2 q3 q4 q5 q6 u1 u2 u3 u4 u5 u6) == (decide (a = A) && (o == O && (h == H && (decide (b = B) && (p == P && (k == q1 && (d == q2 && (m == q3 && (w == q4 && (e == q5 && (t == q6 && true))))) && (k' == u1 && (d' == u2 && (m' == u3 && (w' == u4 && (e' == u5 && (t' == u6 && true))))) && true)))))))) (K [.imm (.bool false)]) (brn (!h) (K [.imm (.bool true)]) (validDay k d m w e t = true ∧ (↑(dayS k d m w e t).length : Int) ≤ big - 20 ∧ K [.imm (.bool (Dy.ok (day (dayS k d m w e t)) && (Dy.k (day (dayS k d m w e t)) == k && (Dy.d (day (dayS k d m w e t)) == d && (Dy.m (day (dayS k d m w e t)) == m && (Dy.w (day (dayS k d m w e t)) == w && (Dy.e (day (dayS k d m w e t)) == e && (Dy.t (day (dayS k d m w e t)) == t && true)))))) && Dy.n (day (dayS k d m w e t)) == (↑(dayS k d m w e t).length : Int)))]))) ∧ (validRule A O H B P q1 q2 q3 q4 q5 q6 u1 u2 u3 u4 u5 u6 = true ∧ brn (!decide (ruleS a o h b p k d m w e t k' d' m' w' e' t' = ruleS A O H B P q1 q2 q3 q4 q5 q6 u1 u2 u3 u4 u5 u6) == (decide (a = A) && (o == O && (h == H && (decide (b = B) && (p == P && (k == q1 && (d == q2 && (m == q3 &&
 (w == q4 && (e == q5 && (t == q6 && true))))) && (k' == u1 && (d' == u2 && (m' == u3 && (w' == u4 && (e' == u5 && (t' == u6 && true))))) && true)))))))) (K [.imm (.bool false)]) (brn (!h) (K [.imm (.bool true)]) (validDay k d m w e t = true ∧ (↑(dayS k d m w e t).length : Int) ≤ big - 20 ∧ K [.imm (.bool (Dy.ok (day (dayS k d m w e t)) && (Dy.k (day (dayS k d m w e t)) == k && (Dy.d (day (dayS k d m w e t)) == d && (Dy.m (day (dayS k d m w e t)) == m && (Dy.w (day (dayS k d m w e t)) == w && (Dy.e (day (dayS k d m w e t)) == e && (Dy.t (day (dayS k d m w e t)) == t && true)))))) && Dy.n (day (dayS k d m w e t)) == (↑(dayS k d m w e t).length : Int)))]))) ∧ validRule A O H B P q1 q2 q3 q4 q5 q6 u1 u2 u3 u4 u5 u6 = true ∧ brn (!decide (ruleS a o h b p k d m w e t k' d' m' w' e' t' = ruleS A O H B P q1 q2 q3 q4 q5 q6 u1 u2 u3 u4 u5 u6) == (decide (a = A) && (o == O && (h == H && (decide (b = B) && (p == P && (k == q1 && (d == q2 && (m == q3 && (w == q4 && (e == q5 && (t == q6 && true))))) && (k' == u1 && (d' == u2 && (m' == u3 && (w' == u4 && (e' == u5 && (t' == u6 && true))))) && true)))))))) (K [.imm (.bool false)]) (brn (!h) (K [.imm (.bool true)]) (validDay k d m w e t = true ∧
 (↑(dayS k d m w e t).length : Int) ≤ big - 20 ∧ K [.imm (.bool (Dy.ok (day (dayS k d m w e t)) && (Dy.k (day (dayS k d m w e t)) == k && (Dy.d (day (dayS k d m w e t)) == d && (Dy.m (day (dayS k d m w e t)) == m && (Dy.w (day (dayS k d m w e t)) == w && (Dy.e (day (dayS k d m w e t)) == e && (Dy.t (day (dayS k d m w e t)) == t && true)))))) && Dy.n (day (dayS k d m w e t)) == (↑(dayS k d m w e t).length : Int)))]))) ∧ (validRule A O H B P q1 q2 q3 q4 q5 q6 u1 u2 u3 u4 u5 u6 = true ∧ brn (!decide (ruleS a o h b p k d m w e t k' d' m' w' e' t' = ruleS A O H B P q1 q2 q3 q4 q5 q6 u1 u2 u3 u4 u5 u6) == (decide (a = A) && (o == O && (h == H && (decide (b = B) && (p == P && (k == q1 && (d == q2 && (m == q3 && (w == q4 && (e == q5 && (t == q6 && true))))) && (k' == u1 && (d' == u2 && (m' == u3 && (w' == u4 && (e' == u5 && (t' == u6 && true))))) && true)))))))) (K [.imm (.bool false)]) (brn (!h) (K [.imm (.bool true)]) (validDay k d m w e t = true ∧ (↑(dayS k d m w e t).length : Int) ≤ big - 20 ∧ K [.imm (.bool (Dy.ok (day (dayS k d m w e t)) && (Dy.k (day (dayS k d m w e t)) == k && (Dy.d (day (dayS k d m w e t)) == d && (Dy.m (day (dayS k d m w e t)) == m && (Dy.w (day (dayS k d m w e t))
 == w && (Dy.e (day (dayS k d m w e t)) == e && (Dy.t (day (dayS k d m w e t)) == t && true)))))) && Dy.n (day (dayS k d m w e t)) == (↑(dayS k d m w e t).length : Int)))]))) ∧ (validRule A O H B P q1 q2 q3 q4 q5 q6 u1 u2 u3 u4 u5 u6 = true ∧ brn (!decide (ruleS a o h b p k d m w e t k' d' m' w' e' t' = ruleS A O H B P q1 q2 q3 q4 q5 q6 u1 u2 u3 u4 u5 u6) == (decide (a = A) && (o == O && (h == H && (decide (b = B) && (p == P && (k == q1 && (d == q2 && (m == q3 && (w == q4 && (e == q5 && (t == q6 && true))))) && (k' == u1 && (d' == u2 && (m' == u3 && (w' == u4 && (e' == u5 && (t' == u6 && true))))) && true)))))))) (K [.imm (.bool false)]) (brn (!h) (K [.imm (.bool true)]) (validDay k d m w e t = true ∧ (↑(dayS k d m w e t).length : Int) ≤ big - 20 ∧ K [.imm (.bool (Dy.ok (day (dayS k d m w e t)) && (Dy.k (day (dayS k d m w e t)) == k && (Dy.d (day (dayS k d m w e t)) == d && (Dy.m (day (dayS k d m w e t)) == m && (Dy.w (day (dayS k d m w e t)) == w && (Dy.e (day (dayS k d m w e t)) == e && (Dy.t (day (dayS k d m w e t)) == t && true)))))) && Dy.n (day (dayS k d m w e t)) == (↑(dayS k d m w e t).length : Int)))]))) ∧ validRule A O H B P q1 q2 q3 q4 q5 q6 u1 u2 u3 u4 u5 u6 = true ∧ brn
 (!decide (ruleS a o h b p k d m w e t k' d' m' w' e' t' = ruleS A O H B P q1 q2 q3 q4 q5 q6 u1 u2 u3 u4 u5 u6) == (decide (a = A) && (o == O && (h == H && (decide (b = B) && (p == P && (k == q1 && (d == q2 && (m == q3 && (w == q4 && (e == q5 && (t == q6 && true))))) && (k' == u1 && (d' == u2 && (m' == u3 && (w' == u4 && (e' == u5 && (t' == u6 && true))))) && true)))))))) (K [.imm (.bool false)]) (brn (!h) (K [.imm (.bool true)]) (validDay k d m w e t = true ∧ (↑(dayS k d m w e t).length : Int) ≤ big - 20 ∧ K [.imm (.bool (Dy.ok (day (dayS k d m w e t)) && (Dy.k (day (dayS k d m w e t)) == k && (Dy.d (day (dayS k d m w e t)) == d && (Dy.m (day (dayS k d m w e t)) == m && (Dy.w (day (dayS k d m w e t)) == w && (Dy.e (day (dayS k d m w e t)) == e && (Dy.t (day (dayS k d m w e t)) == t && true)))))) && Dy.n (day (dayS k d m w e t)) == (↑(dayS k d m w e t).length : Int)))]))) ∧ (((validRule A O H B P q1 q2 q3 q4 q5 q6 u1 u2 u3 u4 u5 u6 = true ∧ brn (!decide (ruleS a o h b p k d m w e t k' d' m' w' e' t' = ruleS A O H B P q1 q2 q3 q4 q5 q6 u1 u2 u3 u4 u5 u6) == (decide (a = A) && (o == O && (h == H && (decide (b = B) && (p == P && (k == q1 && (d == q2 && (m == q3 && (w == q4 && (e == q5
 && (t == q6 && true))))) && (k' == u1 && (d' == u2 && (m' == u3 && (w' == u4 && (e' == u5 && (t' == u6 && true))))) && true)))))))) (K [.imm (.bool false)]) (brn (!h) (K [.imm (.bool true)]) (validDay k d m w e t = true ∧ (↑(dayS k d m w e t).length : Int) ≤ big - 20 ∧ K [.imm (.bool (Dy.ok (day (dayS k d m w e t)) && (Dy.k (day (dayS k d m w e t)) == k && (Dy.d (day (dayS k d m w e t)) == d && (Dy.m (day (dayS k d m w e t)) == m && (Dy.w (day (dayS k d m w e t)) == w && (Dy.e (day (dayS k d m w e t)) == e && (Dy.t (day (dayS k d m w e t)) == t && true)))))) && Dy.n (day (dayS k d m w e t)) == (↑(dayS k d m w e t).length : Int)))]))) ∧ (validRule A O H B P q1 q2 q3 q4 q5 q6 u1 u2 u3 u4 u5 u6 = true ∧ brn (!decide (ruleS a o h b p k d m w e t k' d' m' w' e' t' = ruleS A O H B P q1 q2 q3 q4 q5 q6 u1 u2 u3 u4 u5 u6) == (decide (a = A) && (o == O && (h == H && (decide (b = B) && (p == P && (k == q1 && (d == q2 && (m == q3 && (w == q4 && (e == q5 && (t == q6 && true))))) && (k' == u1 && (d' == u2 && (m' == u3 && (w' == u4 && (e' == u5 && (t' == u6 && true))))) && true)))))))) (K [.imm (.bool false)]) (brn (!h) (K [.imm (.bool true)]) (validDay k d m w e t = true ∧ (↑(dayS k d m w e
 t).length : Int) ≤ big - 20 ∧ K [.imm (.bool (Dy.ok (day (dayS k d m w e t)) && (Dy.k (day (dayS k d m w e t)) == k && (Dy.d (day (dayS k d m w e t)) == d && (Dy.m (day (dayS k d m w e t)) == m && (Dy.w (day (dayS k d m w e t)) == w && (Dy.e (day (dayS k d m w e t)) == e && (Dy.t (day (dayS k d m w e t)) == t && true)))))) && Dy.n (day (dayS k d m w e t)) == (↑(dayS k d m w e t).length : Int)))]))) ∧ validRule A O H B P q1 q2 q3 q4 q5 q6 u1 u2 u3 u4 u5 u6 = true ∧ brn (!decide (ruleS a o h b p k d m w e t k' d' m' w' e' t' = ruleS A O H B P q1 q2 q3 q4 q5 q6 u1 u2 u3 u4 u5 u6) == (decide (a = A) && (o == O && (h == H && (decide (b = B) && (p == P && (k == q1 && (d == q2 && (m == q3 && (w == q4 && (e == q5 && (t == q6 && true))))) && (k' == u1 && (d' == u2 && (m' == u3 && (w' == u4 && (e' == u5 && (t' == u6 && true))))) && true)))))))) (K [.imm (.bool false)]) (brn (!h) (K [.imm (.bool true)]) (validDay k d m w e t = true ∧ (↑(dayS k d m w e t).length : Int) ≤ big - 20 ∧ K [.imm (.bool (Dy.ok (day (dayS k d m w e t)) && (Dy.k (day (dayS k d m w e t)) == k && (Dy.d (day (dayS k d m w e t)) == d && (Dy.m (day (dayS k d m w e t)) == m && (Dy.w (day (dayS k d m w e t)) == w && (Dy.e (day
 (dayS k d m w e t)) == e && (Dy.t (day (dayS k d m w e t)) == t && true)))))) && Dy.n (day (dayS k d m w e t)) == (↑(dayS k d m w e t).length : Int)))]))) ∧ ((validRule A O H B P q1 q2 q3 q4 q5 q6 u1 u2 u3 u4 u5 u6 = true ∧ brn (!decide (ruleS a o h b p k d m w e t k' d' m' w' e' t' = ruleS A O H B P q1 q2 q3 q4 q5 q6 u1 u2 u3 u4 u5 u6) == (decide (a = A) && (o == O && (h == H && (decide (b = B) && (p == P && (k == q1 && (d == q2 && (m == q3 && (w == q4 && (e == q5 && (t == q6 && true))))) && (k' == u1 && (d' == u2 && (m' == u3 && (w' == u4 && (e' == u5 && (t' == u6 && true))))) && true)))))))) (K [.imm (.bool false)]) (brn (!h) (K [.imm (.bool true)]) (validDay k d m w e t = true ∧ (↑(dayS k d m w e t).length : Int) ≤ big - 20 ∧ K [.imm (.bool (Dy.ok (day (dayS k d m w e t)) && (Dy.k (day (dayS k d m w e t)) == k && (Dy.d (day (dayS k d m w e t)) == d && (Dy.m (day (dayS k d m w e t)) == m && (Dy.w (day (dayS k d m w e t)) == w && (Dy.e (day (dayS k d m w e t)) == e && (Dy.t (day (dayS k d m w e t)) == t && true)))))) && Dy.n (day (dayS k d m w e t)) == (↑(dayS k d m w e t).length : Int)))]))) ∧ validRule A O H B P q1 q2 q3 q4 q5 q6 u1 u2 u3 u4 u5 u6 = true ∧ brn (!decide (ruleS a
 o h b p k d m w e t k' d' m' w' e' t' = ruleS A O H B P q1 q2 q3 q4 q5 q6 u1 u2 u3 u4 u5 u6) == (decide (a = A) && (o == O && (h == H && (decide (b = B) && (p == P && (k == q1 && (d == q2 && (m == q3 && (w == q4 && (e == q5 && (t == q6 && true))))) && (k' == u1 && (d' == u2 && (m' == u3 && (w' == u4 && (e' == u5 && (t' == u6 && true))))) && true)))))))) (K [.imm (.bool false)]) (brn (!h) (K [.imm (.bool true)]) (validDay k d m w e t = true ∧ (↑(dayS k d m w e t).length : Int) ≤ big - 20 ∧ K [.imm (.bool (Dy.ok (day (dayS k d m w e t)) && (Dy.k (day (dayS k d m w e t)) == k && (Dy.d (day (dayS k d m w e t)) == d && (Dy.m (day (dayS k d m w e t)) == m && (Dy.w (day (dayS k d m w e t)) == w && (Dy.e (day (dayS k d m w e t)) == e && (Dy.t (day (dayS k d m w e t)) == t && true)))))) && Dy.n (day (dayS k d m w e t)) == (↑(dayS k d m w e t).length : Int)))]))) ∧ validRule A O H B P q1 q2 q3 q4 q5 q6 u1 u2 u3 u4 u5 u6 = true ∧ brn (!decide (ruleS a o h b p k d m w e t k' d' m' w' e' t' = ruleS A O H B P q1 q2 q3 q4 q5 q6 u1 u2 u3 u4 u5 u6) == (decide (a = A) && (o == O && (h == H && (decide (b = B) && (p == P && (k == q1 && (d == q2 && (m == q3 && (w == q4 && (e == q5 && (t == q6 &&
 true))))) && (k' == u1 && (d' == u2 && (m' == u3 && (w' == u4 && (e' == u5 && (t' == u6 && true))))) && true)))))))) (K [.imm (.bool false)]) (brn (!h) (K [.imm (.bool true)]) (validDay k d m w e t = true ∧ (↑(dayS k d m w e t).length : Int) ≤ big - 20 ∧ K [.imm (.bool (Dy.ok (day (dayS k d m w e t)) && (Dy.k (day (dayS k d m w e t)) == k && (Dy.d (day (dayS k d m w e t)) == d && (Dy.m (day (dayS k d m w e t)) == m && (Dy.w (day (dayS k d m w e t)) == w && (Dy.e (day (dayS k d m w e t)) == e && (Dy.t (day (dayS k d m w e t)) == t && true)))))) && Dy.n (day (dayS k d m w e t)) == (↑(dayS k d m w e t).length : Int)))]))) ∧ ((validRule A O H B P q1 q2 q3 q4 q5 q6 u1 u2 u3 u4 u5 u6 = true ∧ brn (!decide (ruleS a o h b p k d m w e t k' d' m' w' e' t' = ruleS A O H B P q1 q2 q3 q4 q5 q6 u1 u2 u3 u4 u5 u6) == (decide (a = A) && (o == O && (h == H && (decide (b = B) && (p == P && (k == q1 && (d == q2 && (m == q3 && (w == q4 && (e == q5 && (t == q6 && true))))) && (k' == u1 && (d' == u2 && (m' == u3 && (w' == u4 && (e' == u5 && (t' == u6 && true))))) && true)))))))) (K [.imm (.bool false)]) (brn (!h) (K [.imm (.bool true)]) (validDay k d m w e t = true ∧ (↑(dayS k d m w e t).length : Int) ≤
 big - 20 ∧ K [.imm (.bool (Dy.ok (day (dayS k d m w e t)) && (Dy.k (day (dayS k d m w e t)) == k && (Dy.d (day (dayS k d m w e t)) == d && (Dy.m (day (dayS k d m w e t)) == m && (Dy.w (day (dayS k d m w e t)) == w && (Dy.e (day (dayS k d m w e t)) == e && (Dy.t (day (dayS k d m w e t)) == t && true)))))) && Dy.n (day (dayS k d m w e t)) == (↑(dayS k d m w e t).length : Int)))]))) ∧ (validRule A O H B P q1 q2 q3 q4 q5 q6 u1 u2 u3 u4 u5 u6 = true ∧ brn (!decide (ruleS a o h b p k d m w e t k' d' m' w' e' t' = ruleS A O H B P q1 q2 q3 q4 q5 q6 u1 u2 u3 u4 u5 u6) == (decide (a = A) && (o == O && (h == H && (decide (b = B) && (p == P && (k == q1 && (d == q2 && (m == q3 && (w == q4 && (e == q5 && (t == q6 && true))))) && (k' == u1 && (d' == u2 && (m' == u3 && (w' == u4 && (e' == u5 && (t' == u6 && true))))) && true)))))))) (K [.imm (.bool false)]) (brn (!h) (K [.imm (.bool true)]) (validDay k d m w e t = true ∧ (↑(dayS k d m w e t).length : Int) ≤ big - 20 ∧ K [.imm (.bool (Dy.ok (day (dayS k d m w e t)) && (Dy.k (day (dayS k d m w e t)) == k && (Dy.d (day (dayS k d m w e t)) == d && (Dy.m (day (dayS k d m w e t)) == m && (Dy.w (day (dayS k d m w e t)) == w && (Dy.e (day (dayS k d m w e
 t)) == e && (Dy.t (day (dayS k d m w e t)) == t && true)))))) && Dy.n (day (dayS k d m w e t)) == (↑(dayS k d m w e t).length : Int)))]))) ∧ validRule A O H B P q1 q2 q3 q4 q5 q6 u1 u2 u3 u4 u5 u6 = true ∧ brn (!decide (ruleS a o h b p k d m w e t k' d' m' w' e' t' = ruleS A O H B P q1 q2 q3 q4 q5 q6 u1 u2 u3 u4 u5 u6) == (decide (a = A) && (o == O && (h == H && (decide (b = B) && (p == P && (k == q1 && (d == q2 && (m == q3 && (w == q4 && (e == q5 && (t == q6 && true))))) && (k' == u1 && (d' == u2 && (m' == u3 && (w' == u4 && (e' == u5 && (t' == u6 && true))))) && true)))))))) (K [.imm (.bool false)]) (brn (!h) (K [.imm (.bool true)]) (validDay k d m w e t = true ∧ (↑(dayS k d m w e t).length : Int) ≤ big - 20 ∧ K [.imm (.bool (Dy.ok (day (dayS k d m w e t)) && (Dy.k (day (dayS k d m w e t)) == k && (Dy.d (day (dayS k d m w e t)) == d && (Dy.m (day (dayS k d m w e t)) == m && (Dy.w (day (dayS k d m w e t)) == w && (Dy.e (day (dayS k d m w e t)) == e && (Dy.t (day (dayS k d m w e t)) == t && true)))))) && Dy.n (day (dayS k d m w e t)) == (↑(dayS k d m w e t).length : Int)))]))) ∧ ((validRule A O H B P q1 q2 q3 q4 q5 q6 u1 u2 u3 u4 u5 u6 = true ∧ brn (!decide (ruleS a o h b p k d m w
 e t k' d' m' w' e' t' = ruleS A O H B P q1 q2 q3 q4 q5 q6 u1 u2 u3 u4 u5 u6) == (decide (a = A) && (o == O && (h == H && (decide (b = B) && (p == P && (k == q1 && (d == q2 && (m == q3 && (w == q4 && (e == q5 && (t == q6 && true))))) && (k' == u1 && (d' == u2 && (m' == u3 && (w' == u4 && (e' == u5 && (t' == u6 && true))))) && true)))))))) (K [.imm (.bool false)]) (brn (!h) (K [.imm (.bool true)]) (validDay k d m w e t = true ∧ (↑(dayS k d m w e t).length : Int) ≤ big - 20 ∧ K [.imm (.bool (Dy.ok (day (dayS k d m w e t)) && (Dy.k (day (dayS k d m w e t)) == k && (Dy.d (day (dayS k d m w e t)) == d && (Dy.m (day (dayS k d m w e t)) == m && (Dy.w (day (dayS k d m w e t)) == w && (Dy.e (day (dayS k d m w e t)) == e && (Dy.t (day (dayS k d m w e t)) == t && true)))))) && Dy.n (day (dayS k d m w e t)) == (↑(dayS k d m w e t).length : Int)))]))) ∧ validRule A O H B P q1 q2 q3 q4 q5 q6 u1 u2 u3 u4 u5 u6 = true ∧ brn (!decide (ruleS a o h b p k d m w e t k' d' m' w' e' t' = ruleS A O H B P q1 q2 q3 q4 q5 q6 u1 u2 u3 u4 u5 u6) == (decide (a = A) && (o == O && (h == H && (decide (b = B) && (p == P && (k == q1 && (d == q2 && (m == q3 && (w == q4 && (e == q5 && (t == q6 && true))))) && (k' == u1
 && (d' == u2 && (m' == u3 && (w' == u4 && (e' == u5 && (t' == u6 && true))))) && true)))))))) (K [.imm (.bool false)]) (brn (!h) (K [.imm (.bool true)]) (validDay k d m w e t = true ∧ (↑(dayS k d m w e t).length : Int) ≤ big - 20 ∧ K [.imm (.bool (Dy.ok (day (dayS k d m w e t)) && (Dy.k (day (dayS k d m w e t)) == k && (Dy.d (day (dayS k d m w e t)) == d && (Dy.m (day (dayS k d m w e t)) == m && (Dy.w (day (dayS k d m w e t)) == w && (Dy.e (day (dayS k d m w e t)) == e && (Dy.t (day (dayS k d m w e t)) == t && true)))))) && Dy.n (day (dayS k d m w e t)) == (↑(dayS k d m w e t).length : Int)))]))) ∧ validRule A O H B P q1 q2 q3 q4 q5 q6 u1 u2 u3 u4 u5 u6 = true ∧ brn (!decide (ruleS a o h b p k d m w e t k' d' m' w' e' t' = ruleS A O H B P q1 q2 q3 q4 q5 q6 u1 u2 u3 u4 u5 u6) == (decide (a = A) && (o == O && (h == H && (decide (b = B) && (p == P && (k == q1 && (d == q2 && (m == q3 && (w == q4 && (e == q5 && (t == q6 && true))))) && (k' == u1 && (d' == u2 && (m' == u3 && (w' == u4 && (e' == u5 && (t' == u6 && true))))) && true)))))))) (K [.imm (.bool false)]) (brn (!h) (K [.imm (.bool true)]) (validDay k d m w e t = true ∧ (↑(dayS k d m w e t).length : Int) ≤ big - 20 ∧ K [.imm (.bool
 (Dy.ok (day (dayS k d m w e t)) && (Dy.k (day (dayS k d m w e t)) == k && (Dy.d (day (dayS k d m w e t)) == d && (Dy.m (day (dayS k d m w e t)) == m && (Dy.w (day (dayS k d m w e t)) == w && (Dy.e (day (dayS k d m w e t)) == e && (Dy.t (day (dayS k d m w e t)) == t && true)))))) && Dy.n (day (dayS k d m w e t)) == (↑(dayS k d m w e t).length : Int)))])))))) := by kernel_rfl
end Z10
set_option maxRecDepth 100000
namespace Z10
open Go Go.AE Go.Proofs B9
attribute [local irreducible] loopK evCode evSpec loopB norm
theorem okP0 : EOK Tryd.prog P0 B8.G8 := addE_ok (addE_ok (addE_ok okR3 ok12) ok15) ok17
theorem ok9 : ∀ args pres res, sCanon args = some (pres, res) → SpecOK Tryd.prog B8.G8 9 args pres res := by
  intro args pres res h
  unfold sCanon at h
  split at h
  case h_2 => cases h
  cases h
  rename_i s
  exact mk okP0 Tryd.func9 (by kernel_rfl) (by kernel_rfl) (fun hp K hK => Eq.mpr (f9_in s K) (canon_ev (hp _ (List.mem_cons_self ..)) hK))
theorem okP1 : EOK Tryd.prog P1 B8.G8 := addE_ok okP0 ok9
theorem ok8 : ∀ args pres res, sAwake args = some (pres, res) → SpecOK Tryd.prog B8.G8 8 args pres res := by
  intro args pres res h
  unfold sAwake at h
  split at h
  case h_2 => cases h
  cases h
  refine mk okP1 Tryd.func8 (by kernel_rfl) (by kernel_rfl) (fun hp K hK => ?_)
  refine Eq.mpr (f8_in K) ⟨by decide, by decide, fun _ => by kernel_rfl, fun _ => by kernel_rfl, fun _ => by kernel_rfl, ?_⟩
  refine (congrArg (fun b => K [AV.imm (IV.bool b)]) (?_ : _ = true)).mpr hK
  kernel_rfl
theorem okP2 : EOK Tryd.prog P2 B8.G8 := addE_ok okP1 ok8
theorem day_S {k d m w e t : Int} (hv : validDay k d m w e t = true) {u : List UInt8} (hu : u = [] ∨ ∃ Z, u = 44 :: Z) : day (dayS k d m w e t ++ u) = ⟨k, d, m, w, e, t, ((dayS k d m w e t).length : Int), true⟩ := by
  have hEnd : End u := by
    rcases hu with rfl | ⟨Z, rfl⟩
    · exact .inl rfl
    · exact .inr ⟨44, Z, rfl, .inr rfl⟩
  by_cases ht : t = 7200
  · subst ht
    have e0 : dayS k d m w e 7200 = dspell k d m w e := by unfold dayS; rw [if_pos rfl, List.append_nil]
    rw [e0]
    rcases hu with rfl | ⟨Z, rfl⟩
    · have hd := date_spell hv (u := []) (.inl rfl)
      unfold day
      have hsl : slash (dspell k d m w e ++ []) (date (dspell k d m w e ++ [])) = false := by
        unfold slash
        rw [hd]
        simp
      rw [if_neg (by rw [hsl]; simp), hd]
      unfold dayT
      rw [if_pos (by rw [hv]; rfl)]
    · exact day_short hv Z (.inr rfl)
  · have e0 : dayS k d m w e t = dayF k d m w e t := by unfold dayS; rw [if_neg ht, dayF_eq]
    rw [e0]
    exact day_form hv hEnd
theorem parse_S (r : Ru) (hv : validRu r = true) : parse9 (ruS r) = .rule r := by
  obtain ⟨a, o, h, b, p, ⟨k, d, m, w, e, t⟩, ⟨k', d', m', w', e', t'⟩⟩ := r
  have hv' : validRule a o h b p k d m w e t k' d' m' w' e' t' = true := hv
  obtain ⟨ha, o0, o1, hT, hF⟩ := rule_parts hv'
  show parse9 (ruleS a o h b p k d m w e t k' d' m' w' e' t') = _
  unfold ruleS dstS
  cases h with
  | false =>
    obtain ⟨rfl, rfl, rfl, rfl, rfl, rfl, rfl, rfl, rfl, rfl, rfl, rfl, rfl, rfl⟩ := hF rfl
    rw [if_neg (by simp)]
    generalize hS : B7.fmt a ++ (B8.fmt (0 - o) ++ []) = S
    have d0 : S.drop 0 = B7.fmt a ++ (B8.fmt (0 - o) ++ []) := by rw [← hS]; rfl
    have d1 := drop_at d0
    have hlen : S.length = 0 + (B7.fmt a).length + (B8.fmt (0 - o)).length := by rw [← hS]; simp
    unfold parse9
    rw [nameQ_at d0 (parse7_fmt ha (notA_fmt8 (by omega) (by omega) _)), offQ_at d1 (parse8_fa (by omega) (by omega) (.inl rfl)) (side_of (by omega) (by omega)), if_neg (by rw [hlen]; omega)]
    unfold endP
    have e1 : 0 - (0 - o) = o := by omega
    rw [if_pos (by rw [hlen]), e1]
    have e2 : validRu (stdR a o) = true := hv
    rw [e2]
    rfl
  | true =>
    obtain ⟨hb, p0, p1, hs, he⟩ := hT rfl
    rw [if_pos rfl]
    have hday : day (dayS k' d' m' w' e' t') = ⟨k', d', m', w', e', t', ((dayS k' d' m' w' e' t').length : Int), true⟩ := by
      have := day_S he (u := []) (.inl rfl)
      rw [List.append_nil] at this
      exact this
    have hY : ∀ Z, day (dayS k d m w e t ++ ([44] ++ Z)) = ⟨k, d, m, w, e, t, ((dayS k d m w e t).length : Int), true⟩ := fun Z => day_S hs (.inr ⟨Z, rfl⟩)
    generalize dayS k' d' m' w' e' t' = D at hday ⊢
    generalize dayS k d m w e t = Y at hY ⊢
    have e1 : 0 - (0 - o) = o := by omega
    by_cases hp : p = o + 3600
    · rw [if_pos hp, List.nil_append]
      generalize hS : B7.fmt a ++ (B8.fmt (0 - o) ++ (B7.fmt b ++ ([44] ++ (Y ++ ([44] ++ D))))) = S
      have d0 : S.drop 0 = B7.fmt a ++ (B8.fmt (0 - o) ++ (B7.fmt b ++ ([44] ++ (Y ++ ([44] ++ D))))) := by rw [← hS]; rfl
      have d1 := drop_at d0
      have d2 := drop_at d1
      have d3 := drop_at d2
      have hlen : S.length = 0 + (B7.fmt a).length + (B8.fmt (0 - o)).length + (B7.fmt b).length + (1 + (Y.length + (1 + D.length))) := by
        rw [← hS]; simp only [List.length_append, List.length_cons, List.length_nil]; omega
      unfold parse9
      rw [nameQ_at d0 (parse7_fmt ha (notA_fmt8 (by omega) (by omega) _)), offQ_at d1 (parse8_fa (by omega) (by omega) (aft_fmt7 hb _)) (side_of (by omega) (by omega)), if_pos (by rw [hlen]; omega)]
      unfold dstQ dstOffQ
      rw [nameQ_at d2 (parse7_fmt hb (Or.inr (show B7.alphaB 44 = false by decide)))]
      have hp8 : (B8.parse ([44] ++ (Y ++ ([44] ++ D)))).2.2 = false := by
        have : B8.parse ([44] ++ (Y ++ ([44] ++ D))) = B8.parse [] := parse8_c (c := 44) (Or.inr rfl) _ []
        rw [this]; decide
      rw [d3, hp8, if_neg (by decide), e1, ← hp]
      exact days_at (by rw [hlen]; omega) d3 (hY _) hday hv
    · rw [if_neg hp]
      generalize hS : B7.fmt a ++ (B8.fmt (0 - o) ++ (B7.fmt b ++ (B8.fmt (0 - p) ++ ([44] ++ (Y ++ ([44] ++ D)))))) = S
      have d0 : S.drop 0 = B7.fmt a ++ (B8.fmt (0 - o) ++ (B7.fmt b ++ (B8.fmt (0 - p) ++ ([44] ++ (Y ++ ([44] ++ D)))))) := by rw [← hS]; rfl
      have d1 := drop_at d0
      have d2 := drop_at d1
      have d3 := drop_at d2
      have d4 := drop_at d3
      have hlen : S.length = 0 + (B7.fmt a).length + (B8.fmt (0 - o)).length + (B7.fmt b).length + (B8.fmt (0 - p)).length + (1 + (Y.length + (1 + D.length))) := by
        rw [← hS]; simp only [List.length_append, List.length_cons, List.length_nil]; omega
      unfold parse9
      rw [nameQ_at d0 (parse7_fmt ha (notA_fmt8 (by omega) (by omega) _)), offQ_at d1 (parse8_fa (by omega) (by omega) (aft_fmt7 hb _)) (side_of (by omega) (by omega)), if_pos (by rw [hlen]; omega)]
      unfold dstQ dstOffQ
      rw [nameQ_at d2 (parse7_fmt hb (notA_fmt8 (by omega) (by omega) _))]
      have hp8 := parse8_fa (t := 0 - p) (by omega) (by omega) (aft44 (Y ++ ([44] ++ D)))
      have e2 : 0 - (0 - p) = p := by omega
      rw [d3, hp8, if_pos rfl, offQ_at d3 hp8 (side_of (by omega) (by omega)), e1, e2]
      exact days_at (by rw [hlen]; omega) d4 (hY _) hday hv
theorem ruP_S {r : Ru} (hv : validRu r = true) : ruP (ruS r) = r ∧ whyP (ruS r) = 0 ∧ okP (ruS r) = true := by
  have h := parse_S r hv
  unfold okP whyP ruP
  rw [h]
  exact ⟨rfl, rfl, rfl⟩
theorem ruS_inj {r u : Ru} (hr : validRu r = true) (hu : validRu u = true) (h : ruS r = ruS u) : r = u := by
  have h1 := (ruP_S hr).1
  rw [h, (ruP_S hu).1] at h1
  exact h1.symm
end Z10
set_option maxRecDepth 100000
namespace Z10
open Go Go.AE Go.Proofs B9
attribute [local irreducible] loopK evCode evSpec loopB norm canon
theorem f3_ev (a : List UInt8) (o : Int) (h : Bool) (b : List UInt8) (p k d m w e t k' d' m' w' e' t' q1 q2 q3 q4 q5 q6 : Int) (s : List UInt8) (ha : a.length ≤ 9223372036854775807) (hb : b.length ≤ 9223372036854775807) (K : List AV → Prop) (hK : K [bo true]) :
    evSpec V2 Tryd.f3 [ruleAV a o h b p k d m w e t k' d' m' w' e' t', dayAV q1 q2 q3 q4 q5 q6, st s] K := by
  refine Eq.mpr (f3_in a o h b p k d m w e t k' d' m' w' e' t' q1 q2 q3 q4 q5 q6 s K) ?_
  have e1 : decide (canon s = canon s) = true := by simp
  have e2 : decide (dayS q1 q2 q3 q4 q5 q6 = dayS q1 q2 q3 q4 q5 q6) = true := by simp
  have e3 : decide (ruleS a o h b p k d m w e t k' d' m' w' e' t' = ruleS a o h b p k d m w e t k' d' m' w' e' t') = true := by simp
  have e4 : ∀ x : Bool, (x == x) = true := fun x => by cases x <;> rfl
  simp only [e1, e2, e3, e4, Bool.not_true, Bool.not_false]
  refine brn_intro (fun _ => hK) (fun h1 => ?_)
  simp only [Bool.false_or, decide_eq_false_iff_not] at h1
  refine ⟨by omega, by omega, ?_⟩
  have e5 : (!okP s == okP s) = false := by cases okP s <;> rfl
  simp only [e5, brn_f]
  cases hd : validDay q1 q2 q3 q4 q5 q6 <;> cases hr : validRule a o h b p k d m w e t k' d' m' w' e' t' <;> simp only [Bool.not_true, Bool.not_false, brn_t, brn_f] <;>
    (repeat' first
      | exact hK
      | exact ha
      | exact hb
      | exact trivial
      | rfl
      | refine And.intro ?_ ?_)
theorem f6_ev (a : List UInt8) (o : Int) (h : Bool) (b : List UInt8) (p k d m w e t k' d' m' w' e' t' x y : Int) (ha : a.length ≤ 9223372036854775807) (hb : b.length ≤ 9223372036854775807) (x0 : 0 ≤ x) (x1 : x ≤ 65535) (y0 : 0 ≤ y) (y1 : y ≤ 4294967295) (K : List AV → Prop) (hK : K [bo true]) :
    evSpec V2 Tryd.f6 [ruleAV a o h b p k d m w e t k' d' m' w' e' t', .imm (.int .u16 x), .imm (.int .u32 y)] K := by
  refine Eq.mpr (f6_in a o h b p k d m w e t k' d' m' w' e' t' x y K) ?_
  refine ⟨fun _ => ha, fun _ => hb, brn_intro (fun _ => hK) (fun h1 => ⟨by decide, by decide, by decide, by decide, ?_⟩)⟩
  simp only [Bool.not_true, Bool.false_or, Bool.or_eq_false_iff, Bool.not_eq_false'] at h1
  rw [h1.2]
  obtain ⟨yn, rfl⟩ := B9.nat_of y0
  obtain ⟨xn, rfl⟩ := B9.nat_of x0
  have m1 : Int.tmod (yn : Int) 86401 = ((yn % 86401 : Nat) : Int) := B8.tmodN yn 86401
  have m2 : Int.tdiv (yn : Int) 7 = ((yn / 7 : Nat) : Int) := B8.tdivN yn 7
  have m3 : Int.tmod (yn : Int) 518399 = ((yn % 518399 : Nat) : Int) := B8.tmodN yn 518399
  have w32 : IntKind.wrap .u32 ((yn / 7 : Nat) : Int) = ((yn / 7 : Nat) : Int) := by
    have := IntKind.wrap_u32 ((yn / 7 : Nat) : Int)
    rw [show IntKind.wrap .u32 ((yn / 7 : Nat) : Int) = IntKind.u32.wrap ((yn / 7 : Nat) : Int) from rfl, this]; omega
  have m4 : Int.tmod ((yn / 7 : Nat) : Int) 86401 = ((yn / 7 % 86401 : Nat) : Int) := B8.tmodN (yn / 7) 86401
  rw [m1, m2, m3, w32, m4]
  have e0 : late 0 = false := rfl
  have l0 : late (IntKind.wrap .i64 ((yn % 86401 : Nat) : Int)) = false := by rw [wrap64 (by omega) (by omega)]; unfold late; simp; omega
  have l1 : late (IntKind.wrap .i64 ((yn / 7 % 86401 : Nat) : Int)) = false := by rw [wrap64 (by omega) (by omega)]; unfold late; simp; omega
  have l2 : late (IntKind.wrap .i64 (-1 - IntKind.wrap .i64 (xn : Int))) = true := by rw [wrap64 (n := (xn : Int)) (by omega) (by omega), wrap64 (by omega) (by omega)]; unfold late; simp; omega
  have l3 : late (IntKind.wrap .i64 (86401 + IntKind.wrap .i64 ((yn % 518399 : Nat) : Int))) = true := by rw [wrap64 (n := ((yn % 518399 : Nat) : Int)) (by omega) (by omega), wrap64 (by omega) (by omega)]; unfold late; simp; omega
  rw [l0, l1, l2, l3, e0]
  exact hK
end Z10
set_option maxRecDepth 100000
namespace Z10
open Go Go.AE Go.Proofs B9
attribute [local irreducible] loopK evCode evSpec loopB norm canon
theorem f4_ev (a : List UInt8) (o : Int) (h : Bool) (b : List UInt8) (p k d m w e t k' d' m' w' e' t' : Int) (A : List UInt8) (O : Int) (H : Bool) (B : List UInt8) (P q1 q2 q3 q4 q5 q6 u1 u2 u3 u4 u5 u6 : Int) (ha : a.length ≤ 9223372036854775807) (hb : b.length ≤ 9223372036854775807)
    (hA : A.length ≤ 9223372036854775807) (hB : B.length ≤ 9223372036854775807) (K : List AV → Prop) (hK : K [bo true]) :
    evSpec V2 Tryd.f4 [ruleAV a o h b p k d m w e t k' d' m' w' e' t', ruleAV A O H B P q1 q2 q3 q4 q5 q6 u1 u2 u3 u4 u5 u6] K := by
  refine Eq.mpr (f4_in a o h b p k d m w e t k' d' m' w' e' t' A O H B P q1 q2 q3 q4 q5 q6 u1 u2 u3 u4 u5 u6 K) ?_
  refine ⟨fun _ => ha, fun _ => hb, fun _ => hA, fun _ => hB, brn_intro (fun _ => hK) (fun h1 => ?_)⟩
  simp only [Bool.not_true, Bool.false_or, Bool.or_eq_false_iff, Bool.not_eq_false'] at h1
  obtain ⟨hr, hu⟩ := h1
  have g1 := ruP_S (r := ⟨a, o, h, b, p, ⟨k, d, m, w, e, t⟩, ⟨k', d', m', w', e', t'⟩⟩) hr
  have g2 : ruP (ruleS a o h b p k d m w e t k' d' m' w' e' t') = ⟨a, o, h, b, p, ⟨k, d, m, w, e, t⟩, ⟨k', d', m', w', e', t'⟩⟩ := g1.1
  have g3 : whyP (ruleS a o h b p k d m w e t k' d' m' w' e' t') = 0 := g1.2.1
  have hEq : decide (ruleS a o h b p k d m w e t k' d' m' w' e' t' = ruleS A O H B P q1 q2 q3 q4 q5 q6 u1 u2 u3 u4 u5 u6) =
      (decide (a = A) && (o == O && (h == H && (decide (b = B) && (p == P && (k == q1 && (d == q2 && (m == q3 && (w == q4 && (e == q5 && (t == q6 && true))))) && (k' == u1 && (d' == u2 && (m' == u3 && (w' == u4 && (e' == u5 && (t' == u6 && true))))) && true))))))) := by
    rw [Bool.eq_iff_iff]
    simp only [decide_eq_true_eq, Bool.and_eq_true, beq_iff_eq, and_true]
    constructor
    · intro hh
      have := ruS_inj (r := ⟨a, o, h, b, p, ⟨k, d, m, w, e, t⟩, ⟨k', d', m', w', e', t'⟩⟩) (u := ⟨A, O, H, B, P, ⟨q1, q2, q3, q4, q5, q6⟩, ⟨u1, u2, u3, u4, u5, u6⟩⟩) hr hu hh
      injection this with e1 e2 e3 e4 e5 e6 e7
      injection e6 with f1 f2 f3 f4 f5 f6
      injection e7 with f7 f8 f9 f10 f11 f12
      exact ⟨e1, e2, e3, e4, e5, ⟨f1, f2, f3, f4, f5, f6⟩, f7, f8, f9, f10, f11, f12⟩
    · rintro ⟨rfl, rfl, rfl, rfl, rfl, ⟨rfl, rfl, rfl, rfl, rfl, rfl⟩, rfl, rfl, rfl, rfl, rfl, rfl⟩
      rfl
  obtain ⟨va, o0, o1, hT, hF⟩ := rule_parts hr
  have hlen : ((ruleS a o h b p k d m w e t k' d' m' w' e' t').length : Int) ≤ 1000000000000000000 := by
    have hal := B7.valid_len va
    have la := B7.fmt_len (s := a)
    have l1 := fmt8_len (t := 0 - o) (by omega) (by omega)
    unfold ruleS dstS
    cases h with
    | false => simp only [List.length_append, Bool.false_eq_true, if_false, List.length_nil]; omega
    | true =>
      obtain ⟨vb, p0, p1, vs, ve⟩ := hT rfl
      have hbl := B7.valid_len vb
      have lb := B7.fmt_len (s := b)
      have l2 := fmt8_len (t := 0 - p) (by omega) (by omega)
      have z1 := validDay_b vs
      have z2 := validDay_b ve
      have l3 := dayS_len (k := k) (d := d) (m := m) (w := w) (e := e) z1.1 z1.2.1
      have l4 := dayS_len (k := k') (d := d') (m := m') (w := w') (e := e') z2.1 z2.2.1
      simp only [List.length_append, if_true, List.length_cons, List.length_nil]
      split <;> (try simp only [List.length_nil]) <;> omega
  have e4 : ∀ x : Bool, ((!x) == x) = false := fun x => by cases x <;> rfl
  refine ⟨hr, hlen, ?_⟩
  simp only [g2, g3, hEq, e4, decide_true, BEq.rfl, Bool.and_true, Bool.true_and, Bool.not_true, bne_self_eq_false, brn_f]
  cases h with
  | false =>
    simp only [Bool.not_false, brn_t]
    repeat' first
      | exact hK
      | exact hu
      | exact trivial
      | refine And.intro ?_ ?_
  | true =>
    obtain ⟨vb, p0, p1, vs, ve⟩ := hT rfl
    have hday : day (dayS k d m w e t) = ⟨k, d, m, w, e, t, ((dayS k d m w e t).length : Int), true⟩ := by
      have := day_S vs (u := []) (.inl rfl)
      rw [List.append_nil] at this
      exact this
    have z1 := validDay_b vs
    have l3 := dayS_len (k := k) (d := d) (m := m) (w := w) (e := e) z1.1 z1.2.1
    have hbig : B9.big = 9223372036854774000 := rfl
    simp only [Bool.not_true, brn_f, hday, BEq.rfl, Bool.and_true, Bool.true_and]
    repeat' first
      | exact hK
      | exact hu
      | exact vs
      | exact trivial
      | refine And.intro ?_ ?_
    all_goals omega
end Z10
set_option maxRecDepth 100000
namespace Z10
open Go Go.AE Go.Proofs B9
attribute [local irreducible] loopK evCode evSpec loopB norm canon
theorem parts7 {L M D : List UInt8} (hL : L.length ≤ 1000) (hM : M.length ≤ 1000) (hM1 : 1 ≤ M.length) (hD : D.length ≤ 1000) (K : List AV → Prop) (hK : K [bo true]) :
    brn (decide (((L ++ (M ++ D)).length : Int) ≤ IntKind.wrap .i64 ((L.length : Int) + (D.length : Int)))) (K [bo false])
      ((0 : Int) ≤ (L.length : Int) ∧ (L.length : Int) ≤ ((L ++ (M ++ D)).length : Int) ∧
        (decide (List.take (Int.toNat (L.length : Int) - 0) (List.drop 0 (L ++ (M ++ D))) = L) = true → (0 : Int) ≤ IntKind.wrap .i64 (((L ++ (M ++ D)).length : Int) - (D.length : Int))) ∧
        (decide (List.take (Int.toNat (L.length : Int) - 0) (List.drop 0 (L ++ (M ++ D))) = L) = true → IntKind.wrap .i64 (((L ++ (M ++ D)).length : Int) - (D.length : Int)) ≤ ((L ++ (M ++ D)).length : Int)) ∧
        K [bo (decide (List.take (Int.toNat (L.length : Int) - 0) (List.drop 0 (L ++ (M ++ D))) = L) &&
          decide (List.take ((L ++ (M ++ D)).length - Int.toNat (IntKind.wrap .i64 (((L ++ (M ++ D)).length : Int) - (D.length : Int)))) (List.drop (Int.toNat (IntKind.wrap .i64 (((L ++ (M ++ D)).length : Int) - (D.length : Int)))) (L ++ (M ++ D))) = D))]) := by
  have hl : (L ++ (M ++ D)).length = L.length + M.length + D.length := by simp only [List.length_append]; omega
  have w1 : IntKind.wrap .i64 ((L.length : Int) + (D.length : Int)) = (L.length : Int) + (D.length : Int) := wrap64 (by omega) (by omega)
  have w2 : IntKind.wrap .i64 (((L ++ (M ++ D)).length : Int) - (D.length : Int)) = ((L.length + M.length : Nat) : Int) := by rw [hl, wrap64 (by omega) (by omega)]; omega
  rw [w1, w2]
  have e1 : List.take (Int.toNat (L.length : Int) - 0) (List.drop 0 (L ++ (M ++ D))) = L := by
    rw [List.drop_zero, Int.toNat_natCast, Nat.sub_zero, List.take_left]
  have e2 : List.take ((L ++ (M ++ D)).length - Int.toNat ((L.length + M.length : Nat) : Int)) (List.drop (Int.toNat ((L.length + M.length : Nat) : Int)) (L ++ (M ++ D))) = D := by
    have : List.drop (L.length + M.length) (L ++ (M ++ D)) = D := by rw [← List.append_assoc, show L.length + M.length = (L ++ M).length by simp, List.drop_left]
    rw [Int.toNat_natCast, this, List.take_of_length_le (by rw [hl]; omega)]
  rw [e1, e2]
  refine brn_intro (fun h => ?_) (fun h => ⟨by omega, by rw [hl]; omega, fun _ => by omega, fun _ => by rw [hl]; omega, ?_⟩)
  · simp only [decide_eq_true_eq] at h
    rw [hl] at h
    omega
  · have e3 : (decide (L = L) && decide (D = D)) = true := by simp
    rw [e3]; exact hK
end Z10
namespace Z10
open Go Go.AE Go.Proofs
theorem gok_of_laid {W : World} (h : laidMetH Tryd.prog YtgadloeechbkkaaDoor.Rows.tzformatMatchesReferenceRow.laid W) : GOK B8.G8 W (fun _ => False) := by
  rw [MakeChecks.laidMetH_plain _ _ _ (by kernel_rfl)] at h
  have h3 := laidMet.tail (laidMet.tail h)
  have ht : Lib.TabIs Tryd.prog W "internal/strconv.uint64pow10" .u64 [1, 10, 100, 1000, 10000, 100000, 1000000, 10000000, 100000000, 1000000000, 10000000000, 100000000000, 1000000000000, 10000000000000, 100000000000000, 1000000000000000, 10000000000000000, 100000000000000000, 1000000000000000000, 10000000000000000000] :=
    Lib.tabIs_of_head B8.gName (by kernel_rfl) Tryd.underlying107 Tryd.underlying100 (by kernel_rfl) (by kernel_rfl) h3
  unfold Lib.TabIs World.var? at ht
  rw [B8.gName] at ht
  simp only [Option.bind_some] at ht
  intro n l hl
  unfold B8.G8 at hl
  cases hn : Nat.beq n B8.gTab with
  | false => rw [hn] at hl; cases hl
  | true =>
    rw [hn, cond_true] at hl
    cases hl
    have := nbeq hn
    subst this
    refine ⟨fun h => h, ?_⟩
    split at ht
    case h_2 => cases ht
    rename_i cs T fr hc
    simp only [Option.some.injEq] at ht
    refine ⟨cs, T, fr, hc, by rw [ht]; rfl, fun j v hv => ?_, fun j hj => ?_⟩
    · rw [ht]
      unfold B8.tab10 at hv
      rw [List.getElem?_map] at hv
      have : ∀ (zs : List Int), (∀ z ∈ zs, 0 ≤ z ∧ z ≤ 18446744073709551615) → ∀ j v, (zs[j]?).map (fun n => (AV.imm (.int .u64 n))) = some v → GRep W (fun _ => False) v ((zs.map fun z => Value.int .u64 z).toArray.getD j undef) := by
        intro zs hz j v hv
        cases hj : zs[j]? with
        | none => rw [hj] at hv; cases hv
        | some z =>
          rw [hj] at hv
          simp only [Option.map_some, Option.some.injEq] at hv
          subst hv
          have e : (zs.map fun z => Value.int .u64 z).toArray.getD j undef = .int .u64 z := by
            simp [Array.getD_eq_getD_getElem?, hj]
          rw [e]
          have := hz z (List.mem_of_getElem? hj)
          exact .int ⟨this.1, this.2⟩
      exact this _ (by decide) j v hv
    · rw [ht] at hj ⊢
      have : ∀ (zs : List Int) (j : Nat), j < zs.length → ((zs.map fun z => Value.int .u64 z).toArray.getD j undef).oneCell' = true := by
        intro zs j hj
        have : (zs.map fun z => Value.int .u64 z).toArray.getD j undef = .int .u64 zs[j] := by simp [Array.getD_eq_getD_getElem?, hj]
        rw [this]; rfl
      exact this _ j (by simpa using hj)
theorem door_met (os : Os) (args : Array Value) : laidMetH Tryd.prog YtgadloeechbkkaaDoor.Rows.tzformatMatchesReferenceRow.laid ((World.doorLaid Tryd.prog 400 os).forCall (fun _ _ => 0) ⟨#[], args, []⟩).memory :=
  laidMetH_of_parts3 (fuel := 8) (laidMet_of_run' 8 (by kernel_rfl) (by kernel_rfl)) (by kernel_rfl) (by kernel_rfl)
end Z10

namespace Go.Proofs.YtgadloeechbkkaaDoor
open Go Go.AE Go.Proofs Z10
open Go.ChangeShapes Go.WideShapes Go.ChangeAt Go.RowKit Go.ChangeMaps
attribute [local irreducible] loopK evCode evSpec loopB norm evFunc
theorem Tryd.own : ownKnob Tryd.prog.godebug = none := by kernel_rfl
set_option maxRecDepth 100000 in
theorem f6_lifted (os : Os) (started : os.Started) (H : Type) (enc : TypeId × Value → H) :
    ReturnsInHanded {} Tryd.checked os 6 .any (fun w args => (Rows.tzformatExtendedSpec.pre enc Tryd.prog Tryd.f6 [] false w args ∧ laidMetH Tryd.prog Rows.tzformatMatchesReferenceRow.laid w) ∧ sizedMet enc Tryd.prog Tryd.f6 (OpenSpec.ofChange Rows.tzformatExtendedSpec) false w args)
      (Rows.tzformatExtendedSpec.post enc Tryd.prog Tryd.f6 false true false false) := by
  refine returnsInHanded_of_change_and (C := Tryd.checked) (X := fun w _ => laidMetH Tryd.prog Rows.tzformatMatchesReferenceRow.laid w) (fun _ _ _ hh h => h.of_heap hh) Tryd.own started (by kernel_rfl) Tryd.func6
    (ChangeSpec.witness_shaped (enc := enc) (C := Tryd.checked) (os := os) (X := fun w _ => laidMetH Tryd.prog Rows.tzformatMatchesReferenceRow.laid w) false (World.doorLaid Tryd.prog 400 os) #[.agg #[.string ⟨#[]⟩, .int .i64 0, .bool false, .string ⟨#[]⟩, .int .i64 0, .int .i64 0, .int .i64 0, .int .i64 0, .int .i64 0, .int .i64 0, .int .i64 0, .int .i64 0, .int .i64 0, .int .i64 0, .int .i64 0, .int .i64 0, .int .i64 0], .int .u16 0, .int .u32 0] 8 rfl (World.shaped_of_RefB (by kernel_rfl) (by kernel_rfl)) (by kernel_rfl) (by kernel_rfl) (by kernel_rfl) (door_met os _)) ?_
  intro W base args ds gs before hval0 hW _ hsz hL _
  obtain ⟨l⟩ := args
  have hval : ∀ (j : Nat) t v, Tryd.f6.params[j]? = some t → l[j]? = some v → Value.okWide Tryd.prog W .any base t v := fun j t v h1 h2 => hval0 j t v h1 (by simpa using h2)
  have hW' := hW
  obtain ⟨p, q, hB, hV, rfl, hfz, hnd⟩ := hW
  obtain ⟨rfl, rfl⟩ := trodVars_none hV
  have hA0 : DataW.TrodAll enc Tryd.prog W 0 (fun _ => true) true [25, 41, 42] l ds p := by have h := hB; rw [Tryd.params6] at h; exact h
  rw [Tryd.params6] at hval
  clear hB hval0
  obtain ⟨v0, l, d0, ds, p0, p, rfl, rfl, h0, hA1, rfl⟩ := all_cons hA0
  obtain ⟨v1, l, d1, ds, p1, p, rfl, rfl, h1, hA2, rfl⟩ := all_cons hA1
  obtain ⟨v2, l, d2, ds, p2, p, rfl, rfl, h2, hA3, rfl⟩ := all_cons hA2
  obtain ⟨rfl, rfl, rfl⟩ := all_nil hA3
  obtain ⟨i0, l0, rfl, k0⟩ := open_flat Tryd.underlying25 (by kernel_rfl : flatK Tryd.prog false 40 25 = some [.str, (.int .i64), .bool, .str, (.int .i64), (.int .i64), (.int .i64), (.int .i64), (.int .i64), (.int .i64), (.int .i64), (.int .i64), (.int .i64), (.int .i64), (.int .i64), (.int .i64), (.int .i64)]) (hval 0 25 v0 rfl rfl) h0
  have K0 := k0
  obtain ⟨n0a, i0, l0, rfl, rfl, m0a, k0_1⟩ := k0.cons_str
  obtain ⟨n0b, i0, l0, rfl, rfl, m0b, k0_2⟩ := k0_1.cons_int
  obtain ⟨n0c, i0, l0, rfl, rfl, k0_3⟩ := k0_2.cons_bool
  obtain ⟨n0d, i0, l0, rfl, rfl, m0d, k0_4⟩ := k0_3.cons_str
  obtain ⟨n0e, i0, l0, rfl, rfl, m0e, k0_5⟩ := k0_4.cons_int
  obtain ⟨n0f, i0, l0, rfl, rfl, m0f, k0_6⟩ := k0_5.cons_int
  obtain ⟨n0g, i0, l0, rfl, rfl, m0g, k0_7⟩ := k0_6.cons_int
  obtain ⟨n0h, i0, l0, rfl, rfl, m0h, k0_8⟩ := k0_7.cons_int
  obtain ⟨n0i, i0, l0, rfl, rfl, m0i, k0_9⟩ := k0_8.cons_int
  obtain ⟨n0j, i0, l0, rfl, rfl, m0j, k0_10⟩ := k0_9.cons_int
  obtain ⟨n0k, i0, l0, rfl, rfl, m0k, k0_11⟩ := k0_10.cons_int
  obtain ⟨n0l, i0, l0, rfl, rfl, m0l, k0_12⟩ := k0_11.cons_int
  obtain ⟨n0m, i0, l0, rfl, rfl, m0m, k0_13⟩ := k0_12.cons_int
  obtain ⟨n0n, i0, l0, rfl, rfl, m0n, k0_14⟩ := k0_13.cons_int
  obtain ⟨n0o, i0, l0, rfl, rfl, m0o, k0_15⟩ := k0_14.cons_int
  obtain ⟨n0p, i0, l0, rfl, rfl, m0p, k0_16⟩ := k0_15.cons_int
  obtain ⟨n0q, i0, l0, rfl, rfl, m0q, k0_17⟩ := k0_16.cons_int
  obtain ⟨rfl, rfl⟩ := k0_17.end
  obtain ⟨a1, rfl, rfl, rfl, w1⟩ := open_int Tryd.underlying41 (hval 1 41 v1 rfl rfl) h1
  have m1 := inR_wf w1
  obtain ⟨a2, rfl, rfl, rfl, w2⟩ := open_int Tryd.underlying42 (hval 2 42 v2 rfl rfl) h2
  have m2 := inR_wf w2
  have hspec := mk (pres := []) (args := [.agg [.imm (.str (bytesOf n0a)), .imm (.int .i64 n0b), .imm (.bool n0c), .imm (.str (bytesOf n0d)), .imm (.int .i64 n0e), .imm (.int .i64 n0f), .imm (.int .i64 n0g), .imm (.int .i64 n0h), .imm (.int .i64 n0i), .imm (.int .i64 n0j), .imm (.int .i64 n0k), .imm (.int .i64 n0l), .imm (.int .i64 n0m), .imm (.int .i64 n0n), .imm (.int .i64 n0o), .imm (.int .i64 n0p), .imm (.int .i64 n0q)], .imm (.int .u16 a1), .imm (.int .u32 a2)]) (res := [.imm (.bool true)]) okP2 Tryd.func6 (by kernel_rfl) (by kernel_rfl) (fun _ K hK => f6_ev (bytesOf n0a) n0b n0c (bytesOf n0d) n0e n0f n0g n0h n0i n0j n0k n0l n0m n0n n0o n0p n0q a1 a2 m0a m0d m1.1 m1.2 m2.1 m2.2 K hK)
  refine (bool_calls hspec (fun p h => by cases h) W _ rfl (fun j c hc => ?_) (gok_of_laid hL)).mono fun e W' ⟨he, hw⟩ => ?_
  · match j with
    | 0 => simp only [List.getElem?_cons_zero, Option.some.injEq] at hc; subst hc; exact K0.arep
    | 1 => simp only [List.getElem?_cons_succ, List.getElem?_cons_zero, Option.some.injEq] at hc; subst hc; exact .imm (.int m1)
    | 2 => simp only [List.getElem?_cons_succ, List.getElem?_cons_zero, Option.some.injEq] at hc; subst hc; exact .imm (.int m2)
    | j + 3 => simp at hc
  subst he
  exact ⟨_, rfl, row_post hW' rfl (by kernel_rfl) (by kernel_rfl) rfl rfl Tryd.underlying4 hw⟩
theorem f6_row : Rows.TzformatExtendedSaid :=
  OpenClaim.holds_of_wide 6 Tryd.f6 rfl rfl rfl rfl rfl rfl rfl ⟨rfl, rfl, rfl, rfl, rfl⟩ rfl rfl rfl rfl rfl (by kernel_rfl) Tryd.func6 (by kernel_rfl)
    (of_decide_eq_true (by kernel_rfl)) (by unfold Func.isWrapper; first | (rw [if_pos (by decide +kernel)]; kernel_rfl) | (rw [if_neg (by decide +kernel)]; exact ⟨rfl, rfl⟩))
    (fun os started H enc _ => f6_lifted os started H enc)
theorem f6_holds : Rows.TzformatExtendedCardSaid :=
  Claim7.holds_tied_plain_at .later [] [.data, .data, .data] true Rows.tzformatExtendedCard.stood.harness true
    f6_row (fun _ h => by cases h) (by kernel_rfl) (fun _ h => by cases h) tzformatExtended_row_tie rfl ⟨rfl, rfl⟩ (by kernel_rfl) rfl
    (fun f fn hf hfn => by
      obtain rfl : f = 6 := Option.some.inj ((show Tryd.prog.funcNamed "zoneinfo/zoneinfolaw10.TzformatExtended" = some 6 by kernel_rfl).symm.trans hf) |>.symm
      obtain rfl : fn = Tryd.f6 := (Option.some.inj (Tryd.func6.symm.trans hfn)).symm
      exact ⟨by kernel_rfl, fun j t ht => by
        rw [Tryd.params6] at ht
        have hm : t ∈ [25, 41, 42] := by simpa using Array.mem_of_getElem? ht
        have hall : ([25, 41, 42].all fun u => !Tryd.prog.wantsStandIn u) = true := by kernel_rfl
        exact (show Tryd.prog.wantsStandIn t = false by simpa using List.all_eq_true.1 hall t hm)⟩)
    (by kernel_rfl)
end Go.Proofs.YtgadloeechbkkaaDoor
