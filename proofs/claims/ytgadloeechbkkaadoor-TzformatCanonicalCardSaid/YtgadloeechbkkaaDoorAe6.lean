/- For every string the law TzformatCanonical returns true and its argument reads as before. No further condition. -/
import Derived.Test.YtgadloeechbkkaaDoorAe5
import Derived.KernelRfl
import Derived.Test.YtgadloeechbkkaaDoorRows
import Derived.Test.YtgadloeechbkkaaDoorTie
import Derived.Test.YtgadloeechbkkaaDoorCards
import Derived.ProofKit
import Derived.LaidMore
import Derived.Stop.LaidErr
import Derived.Lib.LaidTab
import Derived.OpenShut
import Derived.Stop.Joined
import Derived.SevenTiedAt
set_option linter.all false
set_option maxRecDepth 100000
namespace Z10
open Go Go.AE Go.Proofs B9
attribute [local irreducible] loopK evCode evSpec loopB norm c15 q15 a15
theorem iv0 {k d m w e t : Int} : ivInt (ivNth (dcs k d m w e t) 0) = k := rfl
theorem iv1 {k d m w e t : Int} : ivInt (ivNth (dcs k d m w e t) (0 + 1)) = d := rfl
theorem iv2 {k d m w e t : Int} : ivInt (ivNth (dcs k d m w e t) (0 + 1 + 1)) = m := rfl
theorem iv3 {k d m w e t : Int} : ivInt (ivNth (dcs k d m w e t) (0 + 1 + 1 + 1)) = w := rfl
theorem iv4 {k d m w e t : Int} : ivInt (ivNth (dcs k d m w e t) (0 + 1 + 1 + 1 + 1)) = e := rfl
theorem iv5 {k d m w e t : Int} : ivInt (ivNth (dcs k d m w e t) (0 + 1 + 1 + 1 + 1 + 1)) = t := rfl
def m15 : List Bool := lapp [false, false, true, true] (lapp (lrepl 38 false) [true, true, true])
def p15 : Plan := ⟨[], m15, [1, 2]⟩
def r15 : Plan := ⟨[], m15, [0, 1]⟩
def pre15 (l D E : List UInt8) : Nat → List UInt8
  | 0 => l
  | 1 => l ++ ([44] ++ D)
  | _ => l ++ ([44] ++ D) ++ ([44] ++ E)
theorem l15 {k d m w e t k' d' m' w' e' t' : Int} (hv : validDay k d m w e t = true) (hv' : validDay k' d' m' w' e' t' = true) (l : List UInt8) (hl : l.length ≤ 1000) (hne : l ≠ []) (st0 : St)
    (hn0 : norm p15 st0 = some (h15 [dcs k d m w e t, dcs k' d' m' w' e' t'] l 0)) (K : List AV → Prop) (hK : K [st (l ++ ([44] ++ dayS k d m w e t) ++ ([44] ++ dayS k' d' m' w' e' t'))]) :
    LoopI W1 (bodyOf Tryd.f15) 0 st0 (finK W1 Tryd.f15 K) := by
  have z1 := validDay_b hv
  have z2 := validDay_b hv'
  have y1 := dayS_len (k := k) (d := d) (m := m) (w := w) (e := e) z1.1 z1.2.1
  unfold LoopI
  refine loop_rule (fun j : Nat => h15 [dcs k d m w e t, dcs k' d' m' w' e' t'] (pre15 l (dayS k d m w e t) (dayS k' d' m' w' e' t') j) (j : Int)) (fun j => j ≤ 2) (fun j => 2 - j)
    (fun j hP K' hnorm hexit => ?_) rfl 0 p15 _ (by omega) hn0
  rw [f15_lp]
  refine brn_intro (fun h => ?_) (fun h => ?_)
  · have hj : j < 2 := by simp only [decide_eq_true_eq] at h; omega
    have hlen : (pre15 l (dayS k d m w e t) (dayS k' d' m' w' e' t') j).length ≤ 1024 := by
      match j, hj with
      | 0, _ => simp only [pre15]; omega
      | 1, _ => simp only [pre15, List.length_append, List.length_cons, List.length_nil]; omega
    obtain ⟨kk, dd, mm, ww, ee, tt, hEL, hvv, hpre⟩ : ∃ kk dd mm ww ee tt, List.getD [dcs k d m w e t, dcs k' d' m' w' e' t'] (Int.toNat (j : Int)) [] = dcs kk dd mm ww ee tt ∧ validDay kk dd mm ww ee tt = true ∧
        pre15 l (dayS k d m w e t) (dayS k' d' m' w' e' t') (j + 1) = pre15 l (dayS k d m w e t) (dayS k' d' m' w' e' t') j ++ ([44] ++ dayS kk dd mm ww ee tt) := by
      match j, hj with
      | 0, _ => exact ⟨_, _, _, _, _, _, rfl, hv, rfl⟩
      | 1, _ => exact ⟨_, _, _, _, _, _, rfl, hv', rfl⟩
    rw [hEL]
    generalize pre15 l (dayS k d m w e t) (dayS k' d' m' w' e' t') j = L at hlen hpre ⊢
    rw [iv0, iv1, iv2, iv3, iv4, iv5]
    have ej : IntKind.wrap .i64 ((j : Int) + 1) = ((j + 1 : Nat) : Int) := by rw [wrap64 (by omega) (by omega)]; omega
    have l1 := dd_len dd.toNat
    have l2 := dd_len mm.toNat
    have l3 := dd_len ww.toNat
    have l4 := dd_len ee.toNat
    obtain ⟨t0, t1, d0, d1, m0, m1, w0, w1, e0, e1, _⟩ := validDay_b hvv
    have l5 := fmt8_len t0 t1
    refine ⟨by omega, ?_, rfl, ?_, ?_, ?_⟩
    · simp only [List.length_cons, List.length_nil]; omega
    · simp only [List.length_cons, List.length_nil]; omega
    · simp only [List.length_cons, List.length_nil]; omega
    have fin : ∀ (x : List UInt8), x = L ++ ([44] ++ dayS kk dd mm ww ee tt) → x = pre15 l (dayS k d m w e t) (dayS k' d' m' w' e' t') (j + 1) := fun x hx => hx.trans hpre.symm
    rcases valid_cases hvv with ⟨rfl, rfl, rfl, rfl, _, _⟩ | ⟨rfl, rfl, rfl, rfl, _, _⟩ | ⟨rfl, rfl, _, _, _, _, _, _⟩
    · refine brn_intro (fun _ => ?_) (fun h => absurd h (by decide))
      by_cases ht : tt = 7200
      · subst ht
        have e1 : ((7200 : Int) != 7200) = false := rfl
        rw [e1]
        simp only [brn_f]
        have := fin (L ++ [44] ++ [74] ++ B8.dd dd.toNat) (by unfold dayS dspell; rw [if_pos rfl, if_pos rfl]; simp [B9.dd])
        refine ⟨?_, ?_, ?_, ?_, ?_, ?_, hnorm (j + 1) r15 _ (by omega) (by omega) (by rw [← this, ← ej]; show _ = _; kernel_rfl)⟩
        all_goals first | omega | (simp only [List.length_append, List.length_cons, List.length_nil]; omega)
      · have e1 : (tt != (7200 : Int)) = true := by simpa using ht
        rw [e1]
        simp only [brn_t]
        have := fin (L ++ [44] ++ [74] ++ B8.dd dd.toNat ++ ([47] ++ B8.fmt tt)) (by unfold dayS dspell; rw [if_neg ht, if_pos rfl]; simp [B9.dd])
        refine ⟨?_, ?_, ?_, ?_, ?_, ?_, ?_, ?_, ?_, ?_, ?_, hnorm (j + 1) r15 _ (by omega) (by omega) (by rw [← this, ← ej]; show _ = _; kernel_rfl)⟩
        all_goals first | omega | (simp only [List.length_append, List.length_cons, List.length_nil]; omega)
    · refine brn_intro (fun h => absurd h (by decide)) (fun _ => brn_intro (fun _ => ?_) (fun h => absurd h (by decide)))
      by_cases ht : tt = 7200
      · subst ht
        have e1 : ((7200 : Int) != 7200) = false := rfl
        rw [e1]
        simp only [brn_f]
        have := fin (L ++ [44] ++ [] ++ B8.dd dd.toNat) (by unfold dayS dspell; rw [if_pos rfl, if_neg (by decide), if_neg (by decide)]; simp [B9.dd])
        refine ⟨?_, ?_, ?_, ?_, ?_, ?_, hnorm (j + 1) r15 _ (by omega) (by omega) (by rw [← this, ← ej]; show _ = _; kernel_rfl)⟩
        all_goals first | omega | (simp only [List.length_append, List.length_cons, List.length_nil]; omega)
      · have e1 : (tt != (7200 : Int)) = true := by simpa using ht
        rw [e1]
        simp only [brn_t]
        have := fin (L ++ [44] ++ [] ++ B8.dd dd.toNat ++ ([47] ++ B8.fmt tt)) (by unfold dayS dspell; rw [if_neg ht, if_neg (by decide), if_neg (by decide)]; simp [B9.dd])
        refine ⟨?_, ?_, ?_, ?_, ?_, ?_, ?_, ?_, ?_, ?_, ?_, hnorm (j + 1) r15 _ (by omega) (by omega) (by rw [← this, ← ej]; show _ = _; kernel_rfl)⟩
        all_goals first | omega | (simp only [List.length_append, List.length_cons, List.length_nil]; omega)
    · refine brn_intro (fun h => absurd h (by decide)) (fun _ => brn_intro (fun h => absurd h (by decide)) (fun _ => ?_))
      by_cases ht : tt = 7200
      · subst ht
        have e1 : ((7200 : Int) != 7200) = false := rfl
        rw [e1]
        simp only [brn_f]
        have := fin (L ++ [44] ++ [77] ++ B8.dd mm.toNat ++ [46] ++ B8.dd ww.toNat ++ [46] ++ B8.dd ee.toNat) (by unfold dayS dspell; rw [if_pos rfl, if_neg (by decide), if_pos rfl]; simp [B9.dd])
        repeat' first
          | refine hnorm (j + 1) r15 _ (by omega) (by omega) (by rw [← this, ← ej]; show _ = _; kernel_rfl)
          | refine And.intro ?_ ?_
        all_goals first | omega | (simp only [List.length_append, List.length_cons, List.length_nil]; omega)
      · have e1 : (tt != (7200 : Int)) = true := by simpa using ht
        rw [e1]
        simp only [brn_t]
        have := fin (L ++ [44] ++ [77] ++ B8.dd mm.toNat ++ [46] ++ B8.dd ww.toNat ++ [46] ++ B8.dd ee.toNat ++ ([47] ++ B8.fmt tt)) (by unfold dayS dspell; rw [if_neg ht, if_neg (by decide), if_pos rfl]; simp [B9.dd])
        repeat' first
          | refine hnorm (j + 1) r15 _ (by omega) (by omega) (by rw [← this, ← ej]; show _ = _; kernel_rfl)
          | refine And.intro ?_ ?_
        all_goals first | omega | (simp only [List.length_append, List.length_cons, List.length_nil]; omega)
  · have hj : j = 2 := by simp only [decide_eq_false_iff_not] at h; omega
    subst hj
    refine hexit _ _ (by simp) ?_
    refine Eq.mpr (f15_out k d m w e t k' d' m' w' e' t' _ _ K) ⟨?_, hK⟩
    intro e
    simp [pre15] at e
theorem cut15 (a : List UInt8) (o : Int) (h : Bool) (b : List UInt8) (p k d m w e t k' d' m' w' e' t' : Int) (K : List AV → Prop) : evSpec W1 Tryd.f15 [ruleAV a o h b p k d m w e t k' d' m' w' e' t'] K = evCode W1 a15 (e15 (R17 a o h b p k d m w e t k' d' m' w' e' t')) (fun x st => match x with
    | .normal => evCode W1 (c15 (lrepl 3 .r)) st (finK W1 Tryd.f15 K)
    | x => finK W1 Tryd.f15 K x st) := by kernel_rfl
theorem cut15h (st : St) (K : AX → St → Prop) : evCode W1 (c15 (lrepl 3 .r)) st K = evCode W1 (q15 3) st (fun x st => match x with
    | .normal => evCode W1 (c15 (lrepl 4 .r)) st K
    | x => K x st) := by kernel_rfl
theorem cut15b (st : St) (K : AX → St → Prop) : evCode W1 (c15 (lrepl 4 .r)) st K = evCode W1 (.seq (q15 4) (q15 5)) st (fun x st => match x with
    | .normal => evCode W1 (c15 (lrepl 6 .r)) st K
    | x => K x st) := by kernel_rfl
theorem go15 {R : List AV} {l : List UInt8} {v : Nat} {c : Code} {K : AX → St → Prop} {st' : St} (h : st' = S15 R l v (fun j => nth .dead st'.tmps j)) (H : ∀ T, evCode W1 c (S15 R l v T) K) : evCode W1 c st' K :=
  (congrArg (fun x => evCode W1 c x K) h).mpr (H _)
theorem f15_ev (a : List UInt8) (o : Int) (h : Bool) (b : List UInt8) (p k d m w e t k' d' m' w' e' t' : Int) (hv : validRule a o h b p k d m w e t k' d' m' w' e' t' = true) (K : List AV → Prop)
    (hK : K [st (ruleS a o h b p k d m w e t k' d' m' w' e' t')]) : evSpec W1 Tryd.f15 [ruleAV a o h b p k d m w e t k' d' m' w' e' t'] K := by
  obtain ⟨ha, o0, o1, hT, hF⟩ := rule_parts hv
  have hal := B7.valid_len ha
  have la := B7.fmt_len (s := a)
  have w1 : IntKind.wrap .i64 (0 - o) = 0 - o := wrap64 (by omega) (by omega)
  have l1 := fmt8_len (t := 0 - o) (by omega) (by omega)
  have l2 := (B8.fmt_len (n := 0 - o) (by omega) (by omega)).1
  rw [cut15]
  refine Eq.mpr (f15_a a o h b p k d m w e t k' d' m' w' e' t' _) ?_
  unfold ruleS dstS at hK
  simp only [w1]
  have hl : (B7.fmt a ++ B8.fmt (0 - o)).length ≤ 300 := by rw [List.length_append]; omega
  have hl' : (B7.fmt a).length + (B8.fmt (0 - o)).length ≤ 300 := by omega
  have main : ∀ T, evCode W1 (c15 (lrepl 3 .r)) (S15 (R17 a o h b p k d m w e t k' d' m' w' e' t') (B7.fmt a ++ B8.fmt (0 - o)) 0 T) (finK W1 Tryd.f15 K) := by
    intro T
    have hne : B7.fmt a ++ B8.fmt (0 - o) ≠ [] := fun e => by rw [List.append_eq_nil_iff] at e; rw [e.2] at l2; simp at l2
    rw [← List.append_assoc] at hK
    generalize B7.fmt a ++ B8.fmt (0 - o) = L at hl hne hK ⊢
    rw [cut15h]
    refine Eq.mpr (f15_h a o h b p k d m w e t k' d' m' w' e' t' L T _) ?_
    refine brn_intro (fun hh => ⟨hne, ?_⟩) (fun hh => ?_)
    · simp only [Bool.not_eq_true'] at hh
      rw [hh, if_neg (by simp), List.append_nil] at hK
      exact Eq.mp (by kernel_rfl) hK
    · simp only [Bool.not_eq_false'] at hh
      obtain ⟨hb, p0, p1, hs, he⟩ := hT hh
      rw [if_pos hh] at hK
      have hbl := B7.valid_len hb
      have lb := B7.fmt_len (s := b)
      have w2 : IntKind.wrap .i64 (0 - p) = 0 - p := wrap64 (by omega) (by omega)
      have w3 : IntKind.wrap .i64 (o + 3600) = o + 3600 := wrap64 (by omega) (by omega)
      have l3 := fmt8_len (t := 0 - p) (by omega) (by omega)
      refine go15 (R := R17 a o h b p k d m w e t k' d' m' w' e' t') (l := L) (v := 0) (by kernel_rfl) (fun T => ?_)
      rw [cut15b]
      refine Eq.mpr (f15_b a o h b p k d m w e t k' d' m' w' e' t' L T _) ?_
      rw [w3]
      simp only [w2]
      refine ⟨by omega, by omega, by omega, brn_intro (fun hp => ?_) (fun hp => ?_)⟩
      · have hp' : p ≠ o + 3600 := by simpa using hp
        rw [if_neg hp'] at hK
        refine ⟨by omega, by omega, by rw [List.length_append]; omega, by rw [List.length_append]; omega, ?_⟩
        refine go15 (R := R17 a o h b p k d m w e t k' d' m' w' e' t') (l := L ++ B7.fmt b ++ B8.fmt (0 - p)) (v := 2) (by kernel_rfl) (fun T => ?_)
        refine Eq.mpr (f15_d a o h b p k d m w e t k' d' m' w' e' t' _ T _) ?_
        refine l15 hs he (L ++ B7.fmt b ++ B8.fmt (0 - p)) (by simp only [List.length_append]; omega) (fun e => hne (by simp only [List.append_eq_nil_iff] at e; exact e.1.1)) _ (by kernel_rfl) K ?_
        have e1 : L ++ B7.fmt b ++ B8.fmt (0 - p) ++ ([44] ++ dayS k d m w e t) ++ ([44] ++ dayS k' d' m' w' e' t') = L ++ (B7.fmt b ++ (B8.fmt (0 - p) ++ ([44] ++ (dayS k d m w e t ++ ([44] ++ dayS k' d' m' w' e' t'))))) := by simp only [List.append_assoc]
        rw [e1]; exact hK
      · have hp' : p = o + 3600 := by simpa using hp
        rw [if_pos hp'] at hK
        refine go15 (R := R17 a o h b p k d m w e t k' d' m' w' e' t') (l := L ++ B7.fmt b) (v := 1) (by kernel_rfl) (fun T => ?_)
        refine Eq.mpr (f15_c a o h b p k d m w e t k' d' m' w' e' t' _ T _) ?_
        refine l15 hs he (L ++ B7.fmt b) (by simp only [List.length_append]; omega) (fun e => hne (by simp only [List.append_eq_nil_iff] at e; exact e.1)) _ (by kernel_rfl) K ?_
        have e1 : L ++ B7.fmt b ++ ([44] ++ dayS k d m w e t) ++ ([44] ++ dayS k' d' m' w' e' t') = L ++ (B7.fmt b ++ ([] ++ ([44] ++ (dayS k d m w e t ++ ([44] ++ dayS k' d' m' w' e' t'))))) := by simp only [List.append_assoc, List.nil_append]
        rw [e1]; exact hK
  have leaf : ∀ st', st' = S15 (R17 a o h b p k d m w e t k' d' m' w' e' t') (B7.fmt a ++ B8.fmt (0 - o)) 0 (fun j => nth .dead st'.tmps j) → evCode W1 (c15 (lrepl 3 .r)) st' (finK W1 Tryd.f15 K) := fun st' hst => go15 hst main
  repeat' first
    | exact leaf _ (by kernel_rfl)
    | refine And.intro ?_ ?_
  all_goals first | omega | (simp only [List.length_append, List.length_nil]; omega)
theorem okCb1 {E : FuncId → List AV → Option (List Prop × List AV)} (hE : EOK Tryd.prog E B8.G8) : CallOK ⟨Tryd.prog, E, inlX xBld inlB Tryd.prog E B8.G8 0 4, B8.G8, 0⟩ := inlX_ok hE (fun _ => xBld_ok) inlB_ok 4
theorem ok15 : ∀ args pres res, sRuleS args = some (pres, res) → SpecOK Tryd.prog B8.G8 15 args pres res := by
  intro args pres res h
  unfold sRuleS at h
  split at h
  case h_2 => cases h
  cases h
  rename_i a o h b p k d m w e t k' d' m' w' e' t'
  exact spec_ok (C := W1) okB0 (okCb1 okB0) Tryd.func15 (by kernel_rfl) (by kernel_rfl) (fun hp => f15_ev a o h b p k d m w e t k' d' m' w' e' t' (hp _ (List.mem_cons_self ..)) _ rfl)
end Z10
namespace Z10
open Go Go.AE Go.Proofs B9
noncomputable def P0 := addE (addE (addE R3 12 sDayS) 15 sRuleS) 17 sExt
noncomputable def P1 := addE P0 9 sCanon
noncomputable def P2 := addE P1 8 sAwake
noncomputable def V0 : Cx := cx P0
noncomputable def V1 : Cx := cx P1
noncomputable def V2 : Cx := cx P2
end Z10
set_option maxRecDepth 100000
namespace Z10
open Go Go.AE Go.Proofs B9
attribute [local irreducible] loopK evCode evSpec loopB norm
theorem f9_in (s : List UInt8) (K : List AV → Prop) : evSpec V0 Tryd.f9 [st s] K =
  ((↑(List.length s) : Int) ≤ (1000000000000000000 : Int) ∧
  brn (whyP s != (0 : Int)) (K [AV.imm (IV.str []), AV.imm (IV.bool false)])
    (validRule (Ru.a (ruP s)) (Ru.o (ruP s)) (Ru.h (ruP s)) (Ru.b (ruP s)) (Ru.p (ruP s)) (Dv.k (Ru.S (ruP s)))
          (Dv.d (Ru.S (ruP s))) (Dv.m (Ru.S (ruP s))) (Dv.w (Ru.S (ruP s))) (Dv.e (Ru.S (ruP s))) (Dv.t (Ru.S (ruP s)))
          (Dv.k (Ru.E (ruP s))) (Dv.d (Ru.E (ruP s))) (Dv.m (Ru.E (ruP s))) (Dv.w (Ru.E (ruP s))) (Dv.e (Ru.E (ruP s)))
          (Dv.t (Ru.E (ruP s))) =
        true ∧
      K
        [AV.imm
            (IV.str
              (ruleS (Ru.a (ruP s)) (Ru.o (ruP s)) (Ru.h (ruP s)) (Ru.b (ruP s)) (Ru.p (ruP s)) (Dv.k (Ru.S (ruP s)))
                (Dv.d (Ru.S (ruP s))) (Dv.m (Ru.S (ruP s))) (Dv.w (Ru.S (ruP s))) (Dv.e (Ru.S (ruP s)))
                (Dv.t (Ru.S (ruP s))) (Dv.k (Ru.E (ruP s))) (Dv.d (Ru.E (ruP s))) (Dv.m (Ru.E (ruP s)))
                (Dv.w (Ru.E (ruP s))) (Dv.e (Ru.E (ruP s))) (Dv.t (Ru.E (ruP s))))),
          AV.imm (IV.bool true)])) := by kernel_rfl
theorem f8_in (K : List AV → Prop) : evSpec V1 Tryd.f8 [] K = ((↑(List.length [(69 : UInt8), (83 : UInt8), (84 : UInt8), (43 : UInt8), (53 : UInt8), (58 : UInt8), (48 : UInt8), (48 : UInt8), (69 : UInt8), (68 : UInt8), (84 : UInt8), (52 : UInt8), (44 : UInt8), (77 : UInt8), (48 : UInt8), (51 : UInt8), (46 : UInt8), (50 : UInt8), (46 : UInt8), (48 : UInt8), (47 : UInt8), (48 : UInt8), (50 : UInt8), (44 : UInt8), (77 : UInt8), (49 : UInt8), (49 : UInt8), (46 : UInt8), (49 : UInt8), (46 : UInt8), (48 : UInt8)]) : Int) ≤ 1000000000000000000 ∧ (↑(List.length [(69 : UInt8), (83 : UInt8), (84 : UInt8), (53 : UInt8), (69 : UInt8), (68 : UInt8), (84 : UInt8)]) : Int) ≤ 1000000000000000000 ∧ ((decide (canon [(69 : UInt8), (83 : UInt8), (84 : UInt8), (43 : UInt8), (53 : UInt8), (58 : UInt8), (48 : UInt8), (48 : UInt8), (69 : UInt8), (68 : UInt8), (84 : UInt8), (52 : UInt8), (44 : UInt8), (77 : UInt8), (48 : UInt8), (51 : UInt8), (46 : UInt8), (50 : UInt8), (46 : UInt8), (48 : UInt8), (47 : UInt8), (48 : UInt8), (50 : UInt8), (44 : UInt8), (77 : UInt8), (49 : UInt8), (49 : UInt8), (46 : UInt8), (49 : UInt8), (46 : UInt8), (48 : UInt8)] = [(69 : UInt8), (83 : UInt8), (84 : UInt8), (53 : UInt8),
 (69 : UInt8), (68 : UInt8), (84 : UInt8), (44 : UInt8), (77 : UInt8), (51 : UInt8), (46 : UInt8), (50 : UInt8), (46 : UInt8), (48 : UInt8), (44 : UInt8), (77 : UInt8), (49 : UInt8), (49 : UInt8), (46 : UInt8), (49 : UInt8), (46 : UInt8), (48 : UInt8)]) && okP [(69 : UInt8), (83 : UInt8), (84 : UInt8), (43 : UInt8), (53 : UInt8), (58 : UInt8), (48 : UInt8), (48 : UInt8), (69 : UInt8), (68 : UInt8), (84 : UInt8), (52 : UInt8), (44 : UInt8), (77 : UInt8), (48 : UInt8), (51 : UInt8), (46 : UInt8), (50 : UInt8), (46 : UInt8), (48 : UInt8), (47 : UInt8), (48 : UInt8), (50 : UInt8), (44 : UInt8), (77 : UInt8), (49 : UInt8), (49 : UInt8), (46 : UInt8), (49 : UInt8), (46 : UInt8), (48 : UInt8)] && !okP [(69 : UInt8), (83 : UInt8), (84 : UInt8), (53 : UInt8), (69 : UInt8), (68 : UInt8), (84 : UInt8)]) = true → validDay (1 : Int) (60 : Int) (0 : Int) (0 : Int) (0 : Int) (90000 : Int) = true) ∧ ((decide (canon [(69 : UInt8), (83 : UInt8), (84 : UInt8), (43 : UInt8), (53 : UInt8), (58 : UInt8), (48 : UInt8), (48 : UInt8), (69 : UInt8), (68 : UInt8), (84 : UInt8), (52 : UInt8), (44 : UInt8), (77 : UInt8), (48 : UInt8), (51 : UInt8), (46 : UInt8), (50 : UInt8), (46 : UInt8), (48 : UInt8), (47 :
 UInt8), (48 : UInt8), (50 : UInt8), (44 : UInt8), (77 : UInt8), (49 : UInt8), (49 : UInt8), (46 : UInt8), (49 : UInt8), (46 : UInt8), (48 : UInt8)] = [(69 : UInt8), (83 : UInt8), (84 : UInt8), (53 : UInt8), (69 : UInt8), (68 : UInt8), (84 : UInt8), (44 : UInt8), (77 : UInt8), (51 : UInt8), (46 : UInt8), (50 : UInt8), (46 : UInt8), (48 : UInt8), (44 : UInt8), (77 : UInt8), (49 : UInt8), (49 : UInt8), (46 : UInt8), (49 : UInt8), (46 : UInt8), (48 : UInt8)]) && okP [(69 : UInt8), (83 : UInt8), (84 : UInt8), (43 : UInt8), (53 : UInt8), (58 : UInt8), (48 : UInt8), (48 : UInt8), (69 : UInt8), (68 : UInt8), (84 : UInt8), (52 : UInt8), (44 : UInt8), (77 : UInt8), (48 : UInt8), (51 : UInt8), (46 : UInt8), (50 : UInt8), (46 : UInt8), (48 : UInt8), (47 : UInt8), (48 : UInt8), (50 : UInt8), (44 : UInt8), (77 : UInt8), (49 : UInt8), (49 : UInt8), (46 : UInt8), (49 : UInt8), (46 : UInt8), (48 : UInt8)] && !okP [(69 : UInt8), (83 : UInt8), (84 : UInt8), (53 : UInt8), (69 : UInt8), (68 : UInt8), (84 : UInt8)] && decide (dayS (1 : Int) (60 : Int) (0 : Int) (0 : Int) (0 : Int) (90000 : Int) = [(74 : UInt8), (54 : UInt8), (48 : UInt8), (47 : UInt8), (50 : UInt8), (53 : UInt8)])) = true → validRule
 [(45 : UInt8), (48 : UInt8), (51 : UInt8)] (-10800 : Int) false [] (0 : Int) (0 : Int) (0 : Int) (0 : Int) (0 : Int) (0 : Int) (0 : Int) (0 : Int) (0 : Int) (0 : Int) (0 : Int) (0 : Int) (0 : Int) = true) ∧ ((decide (canon [(69 : UInt8), (83 : UInt8), (84 : UInt8), (43 : UInt8), (53 : UInt8), (58 : UInt8), (48 : UInt8), (48 : UInt8), (69 : UInt8), (68 : UInt8), (84 : UInt8), (52 : UInt8), (44 : UInt8), (77 : UInt8), (48 : UInt8), (51 : UInt8), (46 : UInt8), (50 : UInt8), (46 : UInt8), (48 : UInt8), (47 : UInt8), (48 : UInt8), (50 : UInt8), (44 : UInt8), (77 : UInt8), (49 : UInt8), (49 : UInt8), (46 : UInt8), (49 : UInt8), (46 : UInt8), (48 : UInt8)] = [(69 : UInt8), (83 : UInt8), (84 : UInt8), (53 : UInt8), (69 : UInt8), (68 : UInt8), (84 : UInt8), (44 : UInt8), (77 : UInt8), (51 : UInt8), (46 : UInt8), (50 : UInt8), (46 : UInt8), (48 : UInt8), (44 : UInt8), (77 : UInt8), (49 : UInt8), (49 : UInt8), (46 : UInt8), (49 : UInt8), (46 : UInt8), (48 : UInt8)]) && okP [(69 : UInt8), (83 : UInt8), (84 : UInt8), (43 : UInt8), (53 : UInt8), (58 : UInt8), (48 : UInt8), (48 : UInt8), (69 : UInt8), (68 : UInt8), (84 : UInt8), (52 : UInt8), (44 : UInt8), (77 : UInt8), (48 : UInt8), (51 : UInt8),
 (46 : UInt8), (50 : UInt8), (46 : UInt8), (48 : UInt8), (47 : UInt8), (48 : UInt8), (50 : UInt8), (44 : UInt8), (77 : UInt8), (49 : UInt8), (49 : UInt8), (46 : UInt8), (49 : UInt8), (46 : UInt8), (48 : UInt8)] && !okP [(69 : UInt8), (83 : UInt8), (84 : UInt8), (53 : UInt8), (69 : UInt8), (68 : UInt8), (84 : UInt8)] && decide (dayS (1 : Int) (60 : Int) (0 : Int) (0 : Int) (0 : Int) (90000 : Int) = [(74 : UInt8), (54 : UInt8), (48 : UInt8), (47 : UInt8), (50 : UInt8), (53 : UInt8)]) && decide (ruleS [(45 : UInt8), (48 : UInt8), (51 : UInt8)] (-10800 : Int) false [] (0 : Int) (0 : Int) (0 : Int) (0 : Int) (0 : Int) (0 : Int) (0 : Int) (0 : Int) (0 : Int) (0 : Int) (0 : Int) (0 : Int) (0 : Int) = [(60 : UInt8), (45 : UInt8), (48 : UInt8), (51 : UInt8), (62 : UInt8), (51 : UInt8)])) = true → validRule [(65 : UInt8), (65 : UInt8), (65 : UInt8)] (0 : Int) true [(66 : UInt8), (66 : UInt8), (66 : UInt8)] (3600 : Int) (1 : Int) (60 : Int) (0 : Int) (0 : Int) (0 : Int) (90000 : Int) (2 : Int) (0 : Int) (0 : Int) (0 : Int) (0 : Int) (7200 : Int) = true) ∧ K [.imm (.bool (decide (canon [(69 : UInt8), (83 : UInt8), (84 : UInt8), (43 : UInt8), (53 : UInt8), (58 : UInt8), (48 : UInt8), (48 :
 UInt8), (69 : UInt8), (68 : UInt8), (84 : UInt8), (52 : UInt8), (44 : UInt8), (77 : UInt8), (48 : UInt8), (51 : UInt8), (46 : UInt8), (50 : UInt8), (46 : UInt8), (48 : UInt8), (47 : UInt8), (48 : UInt8), (50 : UInt8), (44 : UInt8), (77 : UInt8), (49 : UInt8), (49 : UInt8), (46 : UInt8), (49 : UInt8), (46 : UInt8), (48 : UInt8)] = [(69 : UInt8), (83 : UInt8), (84 : UInt8), (53 : UInt8), (69 : UInt8), (68 : UInt8), (84 : UInt8), (44 : UInt8), (77 : UInt8), (51 : UInt8), (46 : UInt8), (50 : UInt8), (46 : UInt8), (48 : UInt8), (44 : UInt8), (77 : UInt8), (49 : UInt8), (49 : UInt8), (46 : UInt8), (49 : UInt8), (46 : UInt8), (48 : UInt8)]) && okP [(69 : UInt8), (83 : UInt8), (84 : UInt8), (43 : UInt8), (53 : UInt8), (58 : UInt8), (48 : UInt8), (48 : UInt8), (69 : UInt8), (68 : UInt8), (84 : UInt8), (52 : UInt8), (44 : UInt8), (77 : UInt8), (48 : UInt8), (51 : UInt8), (46 : UInt8), (50 : UInt8), (46 : UInt8), (48 : UInt8), (47 : UInt8), (48 : UInt8), (50 : UInt8), (44 : UInt8), (77 : UInt8), (49 : UInt8), (49 : UInt8), (46 : UInt8), (49 : UInt8), (46 : UInt8), (48 : UInt8)] && !okP [(69 : UInt8), (83 : UInt8), (84 : UInt8), (53 : UInt8), (69 : UInt8), (68 : UInt8), (84 : UInt8)] && decide
 (dayS (1 : Int) (60 : Int) (0 : Int) (0 : Int) (0 : Int) (90000 : Int) = [(74 : UInt8), (54 : UInt8), (48 : UInt8), (47 : UInt8), (50 : UInt8), (53 : UInt8)]) && decide (ruleS [(45 : UInt8), (48 : UInt8), (51 : UInt8)] (-10800 : Int) false [] (0 : Int) (0 : Int) (0 : Int) (0 : Int) (0 : Int) (0 : Int) (0 : Int) (0 : Int) (0 : Int) (0 : Int) (0 : Int) (0 : Int) (0 : Int) = [(60 : UInt8), (45 : UInt8), (48 : UInt8), (51 : UInt8), (62 : UInt8), (51 : UInt8)]) && decide (ruleS [(65 : UInt8), (65 : UInt8), (65 : UInt8)] (0 : Int) true [(66 : UInt8), (66 : UInt8), (66 : UInt8)] (3600 : Int) (1 : Int) (60 : Int) (0 : Int) (0 : Int) (0 : Int) (90000 : Int) (2 : Int) (0 : Int) (0 : Int) (0 : Int) (0 : Int) (7200 : Int) = [(65 : UInt8), (65 : UInt8), (65 : UInt8), (48 : UInt8), (66 : UInt8), (66 : UInt8), (66 : UInt8), (44 : UInt8), (74 : UInt8), (54 : UInt8), (48 : UInt8), (47 : UInt8), (50 : UInt8), (53 : UInt8), (44 : UInt8), (48 : UInt8)]) && (true && (late (90000 : Int) || late (7200 : Int))) && !(false && (late (0 : Int) || late (0 : Int)))))]) := by kernel_rfl
theorem f5_in (s : List UInt8) (K : List AV → Prop) : evSpec V2 Tryd.f5 [st s] K = (brn (!true || decide ((s.length : Int) > 1000)) (K [.imm (.bool true)]) ((s.length : Int) ≤ 1000000000000000000 ∧ (s.length : Int) ≤ 1000000000000000000 ∧ brn (!okP s == (whyP s == 0)) (K [.imm (.bool false)]) (brn (!okP s) (K [.imm (.bool (decide (canon s = [])))]) ((↑(canon s).length : Int) ≤ 1000000000000000000 ∧ (↑(canon s).length : Int) ≤ 1000000000000000000 ∧ K [.imm (.bool (whyP (canon s) == 0 && (decide (Ru.a (ruP (canon s)) = Ru.a (ruP s)) && (Ru.o (ruP (canon s)) == Ru.o (ruP s) && (Ru.h (ruP (canon s)) == Ru.h (ruP s) && (decide (Ru.b (ruP (canon s)) = Ru.b (ruP s)) && (Ru.p (ruP (canon s)) == Ru.p (ruP s) && (Dv.k (Ru.S (ruP (canon s))) == Dv.k (Ru.S (ruP s)) && (Dv.d (Ru.S (ruP (canon s))) == Dv.d (Ru.S (ruP s)) && (Dv.m (Ru.S (ruP (canon s))) == Dv.m (Ru.S (ruP s)) && (Dv.w (Ru.S (ruP (canon s))) == Dv.w (Ru.S (ruP s)) && (Dv.e (Ru.S (ruP (canon s))) == Dv.e (Ru.S (ruP s)) && (Dv.t (Ru.S (ruP (canon s))) == Dv.t (Ru.S (ruP s)) && true))))) && (Dv.k (Ru.E (ruP (canon s))) == Dv.k (Ru.E (ruP s)) && (Dv.d (Ru.E (ruP (canon s))) == Dv.d (Ru.E (ruP s)) && (Dv.m (Ru.E (ruP (canon s))) == Dv.m
 (Ru.E (ruP s)) && (Dv.w (Ru.E (ruP (canon s))) == Dv.w (Ru.E (ruP s)) && (Dv.e (Ru.E (ruP (canon s))) == Dv.e (Ru.E (ruP s)) && (Dv.t (Ru.E (ruP (canon s))) == Dv.t (Ru.E (ruP s)) && true))))) && true))))))) && okP (canon s) && decide (canon (canon s) = canon s) && decide ((↑(canon s).length : Int) ≤ (s.length : Int))))])))) := by kernel_rfl
theorem f3_in (a : List UInt8) (o : Int) (h : Bool) (b : List UInt8) (p : Int) (k : Int) (d : Int) (m : Int) (w : Int) (e : Int) (t : Int) (k' : Int) (d' : Int) (m' : Int) (w' : Int) (e' : Int) (t' : Int) (q1 : Int) (q2 : Int) (q3 : Int) (q4 : Int) (q5 : Int) (q6 : Int) (s : List UInt8) (K : List AV → Prop) : evSpec V2 Tryd.f3 [ruleAV a o h b p k d m w e t k' d' m' w' e' t', dayAV q1 q2 q3 q4 q5 q6, st s] K = (brn (!true || decide ((s.length : Int) > 1000)) (K [.imm (.bool true)]) ((s.length : Int) ≤ 1000000000000000000 ∧ (s.length : Int) ≤ 1000000000000000000 ∧ brn (!decide (canon s = canon s)) (K [.imm (.bool false)]) (brn (!okP s == okP s) (K [.imm (.bool false)]) (brn (validDay q1 q2 q3 q4 q5 q6) ((validDay q1 q2 q3 q4 q5 q6 = true ∧ validDay q1 q2 q3 q4 q5 q6 = true ∧ brn (!decide (dayS q1 q2 q3 q4 q5 q6 = dayS q1 q2 q3 q4 q5 q6)) (K [.imm (.bool false)]) (a.length ≤ 9223372036854775807 ∧ b.length ≤ 9223372036854775807 ∧ brn (!validRule a o h b p k d m w e t k' d' m' w' e' t') (K [.imm (.bool true)]) ((validRule a o h b p k d m w e t k' d' m' w' e' t' = true ∧ validRule a o h b p k d m w e t k' d' m' w' e' t' = true ∧ brn (decide (ruleS a o h b p k d m w e t k' d' m' w' e' t' =
 ruleS a o h b p k d m w e t k' d' m' w' e' t')) (K [.imm (.bool ((h && (late t || late t')) == (h && (late t || late t'))))] ∧ K [.imm (.bool ((h && (late t || late t')) == (h && (late t || late t'))))]) (K [.imm (.bool false)])) ∧ validRule a o h b p k d m w e t k' d' m' w' e' t' = true ∧ validRule a o h b p k d m w e t k' d' m' w' e' t' = true ∧ brn (decide (ruleS a o h b p k d m w e t k' d' m' w' e' t' = ruleS a o h b p k d m w e t k' d' m' w' e' t')) (K [.imm (.bool ((h && (late t || late t')) == (h && (late t || late t'))))] ∧ K [.imm (.bool ((h && (late t || late t')) == (h && (late t || late t'))))]) (K [.imm (.bool false)])))) ∧ validDay q1 q2 q3 q4 q5 q6 = true ∧ validDay q1 q2 q3 q4 q5 q6 = true ∧ brn (!decide (dayS q1 q2 q3 q4 q5 q6 = dayS q1 q2 q3 q4 q5 q6)) (K [.imm (.bool false)]) (a.length ≤ 9223372036854775807 ∧ b.length ≤ 9223372036854775807 ∧ brn (!validRule a o h b p k d m w e t k' d' m' w' e' t') (K [.imm (.bool true)]) ((validRule a o h b p k d m w e t k' d' m' w' e' t' = true ∧ validRule a o h b p k d m w e t k' d' m' w' e' t' = true ∧ brn (decide (ruleS a o h b p k d m w e t k' d' m' w' e' t' = ruleS a o h b p k d m w e t k' d' m' w' e' t')) (K [.imm (.bool
 ((h && (late t || late t')) == (h && (late t || late t'))))] ∧ K [.imm (.bool ((h && (late t || late t')) == (h && (late t || late t'))))]) (K [.imm (.bool false)])) ∧ validRule a o h b p k d m w e t k' d' m' w' e' t' = true ∧ validRule a o h b p k d m w e t k' d' m' w' e' t' = true ∧ brn (decide (ruleS a o h b p k d m w e t k' d' m' w' e' t' = ruleS a o h b p k d m w e t k' d' m' w' e' t')) (K [.imm (.bool ((h && (late t || late t')) == (h && (late t || late t'))))] ∧ K [.imm (.bool ((h && (late t || late t')) == (h && (late t || late t'))))]) (K [.imm (.bool false)])))) (a.length ≤ 9223372036854775807 ∧ b.length ≤ 9223372036854775807 ∧ brn (!validRule a o h b p k d m w e t k' d' m' w' e' t') (K [.imm (.bool true)]) ((validRule a o h b p k d m w e t k' d' m' w' e' t' = true ∧ validRule a o h b p k d m w e t k' d' m' w' e' t' = true ∧ brn (decide (ruleS a o h b p k d m w e t k' d' m' w' e' t' = ruleS a o h b p k d m w e t k' d' m' w' e' t')) (K [.imm (.bool ((h && (late t || late t')) == (h && (late t || late t'))))] ∧ K [.imm (.bool ((h && (late t || late t')) == (h && (late t || late t'))))]) (K [.imm (.bool false)])) ∧ validRule a o h b p k d m w e t k' d' m' w' e' t' = true ∧
 validRule a o h b p k d m w e t k' d' m' w' e' t' = true ∧ brn (decide (ruleS a o h b p k d m w e t k' d' m' w' e' t' = ruleS a o h b p k d m w e t k' d' m' w' e' t')) (K [.imm (.bool ((h && (late t || late t')) == (h && (late t || late t'))))] ∧ K [.imm (.bool ((h && (late t || late t')) == (h && (late t || late t'))))]) (K [.imm (.bool false)]))))))) := by kernel_rfl
theorem f4_in (a : List UInt8) (o : Int) (h : Bool) (b : List UInt8) (p : Int) (k : Int) (d : Int) (m : Int) (w : Int) (e : Int) (t : Int) (k' : Int) (d' : Int) (m' : Int) (w' : Int) (e' : Int) (t' : Int) (A : List UInt8) (O : Int) (H : Bool) (B : List UInt8) (P : Int) (q1 : Int) (q2 : Int) (q3 : Int) (q4 : Int) (q5 : Int) (q6 : Int) (u1 : Int) (u2 : Int) (u3 : Int) (u4 : Int) (u5 : Int) (u6 : Int) (K : List AV → Prop) : evSpec V2 Tryd.f4 [ruleAV a o h b p k d m w e t k' d' m' w' e' t', ruleAV A O H B P q1 q2 q3 q4 q5 q6 u1 u2 u3 u4 u5 u6] K = (((!true) = false → a.length ≤ 9223372036854775807) ∧ ((!true) = false → b.length ≤ 9223372036854775807) ∧ ((!true || !validRule a o h b p k d m w e t k' d' m' w' e' t') = false → List.length A ≤ 9223372036854775807) ∧ ((!true || !validRule a o h b p k d m w e t k' d' m' w' e' t') = false → List.length B ≤ 9223372036854775807) ∧ brn (!true || !validRule a o h b p k d m w e t k' d' m' w' e' t' || !validRule A O H B P q1 q2 q3 q4 q5 q6 u1 u2 u3 u4 u5 u6) (K [.imm (.bool true)]) (validRule a o h b p k d m w e t k' d' m' w' e' t' = true ∧ (↑(ruleS a o h b p k d m w e t k' d' m' w' e' t').length : Int) ≤ 1000000000000000000 ∧ brn (whyP (ruleS a o h
 b p k d m w e t k' d' m' w' e' t') != 0) (K [.imm (.bool false)]) (brn (!(decide (Ru.a (ruP (ruleS a o h b p k d m w e t k' d' m' w' e' t')) = a) && (Ru.o (ruP (ruleS a o h b p k d m w e t k' d' m' w' e' t')) == o && (Ru.h (ruP (ruleS a o h b p k d m w e t k' d' m' w' e' t')) == h && (decide (Ru.b (ruP (ruleS a o h b p k d m w e t k' d' m' w' e' t')) = b) && (Ru.p (ruP (ruleS a o h b p k d m w e t k' d' m' w' e' t')) == p && (Dv.k (Ru.S (ruP (ruleS a o h b p k d m w e t k' d' m' w' e' t'))) == k && (Dv.d (Ru.S (ruP (ruleS a o h b p k d m w e t k' d' m' w' e' t'))) == d && (Dv.m (Ru.S (ruP (ruleS a o h b p k d m w e t k' d' m' w' e' t'))) == m && (Dv.w (Ru.S (ruP (ruleS a o h b p k d m w e t k' d' m' w' e' t'))) == w && (Dv.e (Ru.S (ruP (ruleS a o h b p k d m w e t k' d' m' w' e' t'))) == e && (Dv.t (Ru.S (ruP (ruleS a o h b p k d m w e t k' d' m' w' e' t'))) == t && true))))) && (Dv.k (Ru.E (ruP (ruleS a o h b p k d m w e t k' d' m' w' e' t'))) == k' && (Dv.d (Ru.E (ruP (ruleS a o h b p k d m w e t k' d' m' w' e' t'))) == d' && (Dv.m (Ru.E (ruP (ruleS a o h b p k d m w e t k' d' m' w' e' t'))) == m' && (Dv.w (Ru.E (ruP (ruleS a o h b p k d m w e t k' d' m' w' e' t'))) == w' && (Dv.e
 (Ru.E (ruP (ruleS a o h b p k d m w e t k' d' m' w' e' t'))) == e' && (Dv.t (Ru.E (ruP (ruleS a o h b p k d m w e t k' d' m' w' e' t'))) == t' && true))))) && true)))))))) (K [.imm (.bool false)]) (((validRule A O H B P q1 q2 q3 q4 q5 q6 u1 u2 u3 u4 u5 u6 = true ∧ brn (!decide (ruleS a o h b p k d m w e t k' d' m' w' e' t' = ruleS A O H B P q1 q2 q3 q4 q5 q6 u1 u2 u3 u4 u5 u6) == (decide (a = A) && (o == O && (h == H && (decide (b = B) && (p == P && (k == q1 && (d == q2 && (m == q3 && (w == q4 && (e == q5 && (t == q6 && true))))) && (k' == u1 && (d' == u2 && (m' == u3 && (w' == u4 && (e' == u5 && (t' == u6 && true))))) && true)))))))) (K [.imm (.bool false)]) (brn (!h) (K [.imm (.bool true)]) (validDay k d m w e t = true ∧ (↑(dayS k d m w e t).length : Int) ≤ big - 20 ∧ K [.imm (.bool (Dy.ok (day (dayS k d m w e t)) && (Dy.k (day (dayS k d m w e t)) == k && (Dy.d (day (dayS k d m w e t)) == d && (Dy.m (day (dayS k d m w e t)) == m && (Dy.w (day (dayS k d m w e t)) == w && (Dy.e (day (dayS k d m w e t)) == e && (Dy.t (day (dayS k d m w e t)) == t && true)))))) && Dy.n (day (dayS k d m w e t)) == (↑(dayS k d m w e t).length : Int)))]))) ∧ ((validRule A O H B P q1 q2 q3 q4 q5 q6 u1 u2
 u3 u4 u5 u6 = true ∧ brn (!decide (ruleS a o h b p k d m w e t k' d' m' w' e' t' = ruleS A O H B P q1 q2 q3 q4 q5 q6 u1 u2 u3 u4 u5 u6) == (decide (a = A) && (o == O && (h == H && (decide (b = B) && (p == P && (k == q1 && (d == q2 && (m == q3 && (w == q4 && (e == q5 && (t == q6 && true))))) && (k' == u1 && (d' == u2 && (m' == u3 && (w' == u4 && (e' == u5 && (t' == u6 && true))))) && true)))))))) (K [.imm (.bool false)]) (brn (!h) (K [.imm (.bool true)]) (validDay k d m w e t = true ∧ (↑(dayS k d m w e t).length : Int) ≤ big - 20 ∧ K [.imm (.bool (Dy.ok (day (dayS k d m w e t)) && (Dy.k (day (dayS k d m w e t)) == k && (Dy.d (day (dayS k d m w e t)) == d && (Dy.m (day (dayS k d m w e t)) == m && (Dy.w (day (dayS k d m w e t)) == w && (Dy.e (day (dayS k d m w e t)) == e && (Dy.t (day (dayS k d m w e t)) == t && true)))))) && Dy.n (day (dayS k d m w e t)) == (↑(dayS k d m w e t).length : Int)))]))) ∧ (validRule A O H B P q1 q2 q3 q4 q5 q6 u1 u2 u3 u4 u5 u6 = true ∧ brn (!decide (ruleS a o h b p k d m w e t k' d' m' w' e' t' = ruleS A O H B P q1 q2 q3 q4 q5 q6 u1 u2 u3 u4 u5 u6) == (decide (a = A) && (o == O && (h == H && (decide (b = B) && (p == P && (k == q1 && (d == q2 && (m == q3 &&
 (w == q4 && (e == q5 && (t == q6 && true))))) && (k' == u1 && (d' == u2 && (m' == u3 && (w' == u4 && (e' == u5 && (t' == u6 && true))))) && true)))))))) (K [.imm (.bool false)]) (brn (!h) (K [.imm (.bool true)]) (validDay k d m w e t = true ∧ (↑(dayS k d m w e t).length : Int) ≤ big - 20 ∧ K [.imm (.bool (Dy.ok (day (dayS k d m w e t)) && (Dy.k (day (dayS k d m w e t)) == k && (Dy.d (day (dayS k d m w e t)) == d && (Dy.m (day (dayS k d m w e t)) == m && (Dy.w (day (dayS k d m w e t)) == w && (Dy.e (day (dayS k d m w e t)) == e && (Dy.t (day (dayS k d m w e t)) == t && true)))))) && Dy.n (day (dayS k d m w e t)) == (↑(dayS k d m w e t).length : Int)))]))) ∧ validRule A O H B P q1 q2 q3 q4 q5 q6 u1 u2 u3 u4 u5 u6 = true ∧ brn (!decide (ruleS a o h b p k d m w e t k' d' m' w' e' t' = ruleS A O H B P q1 q2 q3 q4 q5 q6 u1 u2 u3 u4 u5 u6) == (decide (a = A) && (o == O && (h == H && (decide (b = B) && (p == P && (k == q1 && (d == q2 && (m == q3 && (w == q4 && (e == q5 && (t == q6 && true))))) && (k' == u1 && (d' == u2 && (m' == u3 && (w' == u4 && (e' == u5 && (t' == u6 && true))))) && true)))))))) (K [.imm (.bool false)]) (brn (!h) (K [.imm (.bool true)]) (validDay k d m w e t = true ∧
 (↑(dayS k d m w e t).length : Int) ≤ big - 20 ∧ K [.imm (.bool (Dy.ok (day (dayS k d m w e t)) && (Dy.k (day (dayS k d m w e t)) == k && (Dy.d (day (dayS k d m w e t)) == d && (Dy.m (day (dayS k d m w e t)) == m && (Dy.w (day (dayS k d m w e t)) == w && (Dy.e (day (dayS k d m w e t)) == e && (Dy.t (day (dayS k d m w e t)) == t && true)))))) && Dy.n (day (dayS k d m w e t)) == (↑(dayS k d m w e t).length : Int)))]))) ∧ (validRule A O H B P q1 q2 q3 q4 q5 q6 u1 u2 u3 u4 u5 u6 = true ∧ brn (!decide (ruleS a o h b p k d m w e t k' d' m' w' e' t' = ruleS A O H B P q1 q2 q3 q4 q5 q6 u1 u2 u3 u4 u5 u6) == (decide (a = A) && (o == O && (h == H && (decide (b = B) && (p == P && (k == q1 && (d == q2 && (m == q3 && (w == q4 && (e == q5 && (t == q6 && true))))) && (k' == u1 && (d' == u2 && (m' == u3 && (w' == u4 && (e' == u5 && (t' == u6 && true))))) && true)))))))) (K [.imm (.bool false)]) (brn (!h) (K [.imm (.bool true)]) (validDay k d m w e t = true ∧ (↑(dayS k d m w e t).length : Int) ≤ big - 20 ∧ K [.imm (.bool (Dy.ok (day (dayS k d m w e t)) && (Dy.k (day (dayS k d m w e t)) == k && (Dy.d (day (dayS k d m w e t)) == d && (Dy.m (day (dayS k d m w e t)) == m && (Dy.w (day (dayS k d m w e t))
 == w && (Dy.e (day (dayS k d m w e t)) == e && (Dy.t (day (dayS k d m w e t)) == t && true)))))) && Dy.n (day (dayS k d m w e t)) == (↑(dayS k d m w e t).length : Int)))]))) ∧ (validRule A O H B P q1 q2 q3 q4 q5 q6 u1 u2 u3 u4 u5 u6 = true ∧ brn (!decide (ruleS a o h b p k d m w e t k' d' m' w' e' t' = ruleS A O H B P q1 q2 q3 q4 q5 q6 u1 u2 u3 u4 u5 u6) == (decide (a = A) && (o == O && (h == H && (decide (b = B) && (p == P && (k == q1 && (d == q2 && (m == q3 && (w == q4 && (e == q5 && (t == q6 && true))))) && (k' == u1 && (d' == u2 && (m' == u3 && (w' == u4 && (e' == u5 && (t' == u6 && true))))) && true)))))))) (K [.imm (.bool false)]) (brn (!h) (K [.imm (.bool true)]) (validDay k d m w e t = true ∧ (↑(dayS k d m w e t).length : Int) ≤ big - 20 ∧ K [.imm (.bool (Dy.ok (day (dayS k d m w e t)) && (Dy.k (day (dayS k d m w e t)) == k && (Dy.d (day (dayS k d m w e t)) == d && (Dy.m (day (dayS k d m w e t)) == m && (Dy.w (day (dayS k d m w e t)) == w && (Dy.e (day (dayS k d m w e t)) == e && (Dy.t (day (dayS k d m w e t)) == t && true)))))) && Dy.n (day (dayS k d m w e t)) == (↑(dayS k d m w e t).length : Int)))]))) ∧ validRule A O H B P q1 q2 q3 q4 q5 q6 u1 u2 u3 u4 u5 u6 = true ∧ brn
 (!decide (ruleS a o h b p k d m w e t k' d' m' w' e' t' = ruleS A O H B P q1 q2 q3 q4 q5 q6 u1 u2 u3 u4 u5 u6) == (decide (a = A) && (o == O && (h == H && (decide (b = B) && (p == P && (k == q1 && (d == q2 && (m == q3 && (w == q4 && (e == q5 && (t == q6 && true))))) && (k' == u1 && (d' == u2 && (m' == u3 && (w' == u4 && (e' == u5 && (t' == u6 && true))))) && true)))))))) (K [.imm (.bool false)]) (brn (!h) (K [.imm (.bool true)]) (validDay k d m w e t = true ∧ (↑(dayS k d m w e t).length : Int) ≤ big - 20 ∧ K [.imm (.bool (Dy.ok (day (dayS k d m w e t)) && (Dy.k (day (dayS k d m w e t)) == k && (Dy.d (day (dayS k d m w e t)) == d && (Dy.m (day (dayS k d m w e t)) == m && (Dy.w (day (dayS k d m w e t)) == w && (Dy.e (day (dayS k d m w e t)) == e && (Dy.t (day (dayS k d m w e t)) == t && true)))))) && Dy.n (day (dayS k d m w e t)) == (↑(dayS k d m w e t).length : Int)))]))) ∧ (((validRule A O H B P q1 q2 q3 q4 q5 q6 u1 u2 u3 u4 u5 u6 = true ∧ brn (!decide (ruleS a o h b p k d m w e t k' d' m' w' e' t' = ruleS A O H B P q1 q2 q3 q4 q5 q6 u1 u2 u3 u4 u5 u6) == (decide (a = A) && (o == O && (h == H && (decide (b = B) && (p == P && (k == q1 && (d == q2 && (m == q3 && (w == q4 && (e == q5
 && (t == q6 && true))))) && (k' == u1 && (d' == u2 && (m' == u3 && (w' == u4 && (e' == u5 && (t' == u6 && true))))) && true)))))))) (K [.imm (.bool false)]) (brn (!h) (K [.imm (.bool true)]) (validDay k d m w e t = true ∧ (↑(dayS k d m w e t).length : Int) ≤ big - 20 ∧ K [.imm (.bool (Dy.ok (day (dayS k d m w e t)) && (Dy.k (day (dayS k d m w e t)) == k && (Dy.d (day (dayS k d m w e t)) == d && (Dy.m (day (dayS k d m w e t)) == m && (Dy.w (day (dayS k d m w e t)) == w && (Dy.e (day (dayS k d m w e t)) == e && (Dy.t (day (dayS k d m w e t)) == t && true)))))) && Dy.n (day (dayS k d m w e t)) == (↑(dayS k d m w e t).length : Int)))]))) ∧ (validRule A O H B P q1 q2 q3 q4 q5 q6 u1 u2 u3 u4 u5 u6 = true ∧ brn (!decide (ruleS a o h b p k d m w e t k' d' m' w' e' t' = ruleS A O H B P q1 q2 q3 q4 q5 q6 u1 u2 u3 u4 u5 u6) == (decide (a = A) && (o == O && (h == H && (decide (b = B) && (p == P && (k == q1 && (d == q2 && (m == q3 && (w == q4 && (e == q5 && (t == q6 && true))))) && (k' == u1 && (d' == u2 && (m' == u3 && (w' == u4 && (e' == u5 && (t' == u6 && true))))) && true)))))))) (K [.imm (.bool false)]) (brn (!h) (K [.imm (.bool true)]) (validDay k d m w e t = true ∧ (↑(dayS k d m w e
 t).length : Int) ≤ big - 20 ∧ K [.imm (.bool (Dy.ok (day (dayS k d m w e t)) && (Dy.k (day (dayS k d m w e t)) == k && (Dy.d (day (dayS k d m w e t)) == d && (Dy.m (day (dayS k d m w e t)) == m && (Dy.w (day (dayS k d m w e t)) == w && (Dy.e (day (dayS k d m w e t)) == e && (Dy.t (day (dayS k d m w e t)) == t && true)))))) && Dy.n (day (dayS k d m w e t)) == (↑(dayS k d m w e t).length : Int)))]))) ∧ validRule A O H B P q1 q2 q3 q4 q5 q6 u1 u2 u3 u4 u5 u6 = true ∧ brn (!decide (ruleS a o h b p k d m w e t k' d' m' w' e' t' = ruleS A O H B P q1 q2 q3 q4 q5 q6 u1 u2 u3 u4 u5 u6) == (decide (a = A) && (o == O && (h == H && (decide (b = B) && (p == P && (k == q1 && (d == q2 && (m == q3 && (w == q4 && (e == q5 && (t == q6 && true))))) && (k' == u1 && (d' == u2 && (m' == u3 && (w' == u4 && (e' == u5 && (t' == u6 && true))))) && true)))))))) (K [.imm (.bool false)]) (brn (!h) (K [.imm (.bool true)]) (validDay k d m w e t = true ∧ (↑(dayS k d m w e t).length : Int) ≤ big - 20 ∧ K [.imm (.bool (Dy.ok (day (dayS k d m w e t)) && (Dy.k (day (dayS k d m w e t)) == k && (Dy.d (day (dayS k d m w e t)) == d && (Dy.m (day (dayS k d m w e t)) == m && (Dy.w (day (dayS k d m w e t)) == w && (Dy.e (day
 (dayS k d m w e t)) == e && (Dy.t (day (dayS k d m w e t)) == t && true)))))) && Dy.n (day (dayS k d m w e t)) == (↑(dayS k d m w e t).length : Int)))]))) ∧ ((validRule A O H B P q1 q2 q3 q4 q5 q6 u1 u2 u3 u4 u5 u6 = true ∧ brn (!decide (ruleS a o h b p k d m w e t k' d' m' w' e' t' = ruleS A O H B P q1 q2 q3 q4 q5 q6 u1 u2 u3 u4 u5 u6) == (decide (a = A) && (o == O && (h == H && (decide (b = B) && (p == P && (k == q1 && (d == q2 && (m == q3 && (w == q4 && (e == q5 && (t == q6 && true))))) && (k' == u1 && (d' == u2 && (m' == u3 && (w' == u4 && (e' == u5 && (t' == u6 && true))))) && true)))))))) (K [.imm (.bool false)]) (brn (!h) (K [.imm (.bool true)]) (validDay k d m w e t = true ∧ (↑(dayS k d m w e t).length : Int) ≤ big - 20 ∧ K [.imm (.bool (Dy.ok (day (dayS k d m w e t)) && (Dy.k (day (dayS k d m w e t)) == k && (Dy.d (day (dayS k d m w e t)) == d && (Dy.m (day (dayS k d m w e t)) == m && (Dy.w (day (dayS k d m w e t)) == w && (Dy.e (day (dayS k d m w e t)) == e && (Dy.t (day (dayS k d m w e t)) == t && true)))))) && Dy.n (day (dayS k d m w e t)) == (↑(dayS k d m w e t).length : Int)))]))) ∧ validRule A O H B P q1 q2 q3 q4 q5 q6 u1 u2 u3 u4 u5 u6 = true ∧ brn (!decide (ruleS a
 o h b p k d m w e t k' d' m' w' e' t' = ruleS A O H B P q1 q2 q3 q4 q5 q6 u1 u2 u3 u4 u5 u6) == (decide (a = A) && (o == O && (h == H && (decide (b = B) && (p == P && (k == q1 && (d == q2 && (m == q3 && (w == q4 && (e == q5 && (t == q6 && true))))) && (k' == u1 && (d' == u2 && (m' == u3 && (w' == u4 && (e' == u5 && (t' == u6 && true))))) && true)))))))) (K [.imm (.bool false)]) (brn (!h) (K [.imm (.bool true)]) (validDay k d m w e t = true ∧ (↑(dayS k d m w e t).length : Int) ≤ big - 20 ∧ K [.imm (.bool (Dy.ok (day (dayS k d m w e t)) && (Dy.k (day (dayS k d m w e t)) == k && (Dy.d (day (dayS k d m w e t)) == d && (Dy.m (day (dayS k d m w e t)) == m && (Dy.w (day (dayS k d m w e t)) == w && (Dy.e (day (dayS k d m w e t)) == e && (Dy.t (day (dayS k d m w e t)) == t && true)))))) && Dy.n (day (dayS k d m w e t)) == (↑(dayS k d m w e t).length : Int)))]))) ∧ validRule A O H B P q1 q2 q3 q4 q5 q6 u1 u2 u3 u4 u5 u6 = true ∧ brn (!decide (ruleS a o h b p k d m w e t k' d' m' w' e' t' = ruleS A O H B P q1 q2 q3 q4 q5 q6 u1 u2 u3 u4 u5 u6) == (decide (a = A) && (o == O && (h == H && (decide (b = B) && (p == P && (k == q1 && (d == q2 && (m == q3 && (w == q4 && (e == q5 && (t == q6 &&
 true))))) && (k' == u1 && (d' == u2 && (m' == u3 && (w' == u4 && (e' == u5 && (t' == u6 && true))))) && true)))))))) (K [.imm (.bool false)]) (brn (!h) (K [.imm (.bool true)]) (validDay k d m w e t = true ∧ (↑(dayS k d m w e t).length : Int) ≤ big - 20 ∧ K [.imm (.bool (Dy.ok (day (dayS k d m w e t)) && (Dy.k (day (dayS k d m w e t)) == k && (Dy.d (day (dayS k d m w e t)) == d && (Dy.m (day (dayS k d m w e t)) == m && (Dy.w (day (dayS k d m w e t)) == w && (Dy.e (day (dayS k d m w e t)) == e && (Dy.t (day (dayS k d m w e t)) == t && true)))))) && Dy.n (day (dayS k d m w e t)) == (↑(dayS k d m w e t).length : Int)))]))) ∧ ((validRule A O H B P q1 q2 q3 q4 q5 q6 u1 u2 u3 u4 u5 u6 = true ∧ brn (!decide (ruleS a o h b p k d m w e t k' d' m' w' e' t' = ruleS A O H B P q1 q2 q3 q4 q5 q6 u1 u2 u3 u4 u5 u6) == (decide (a = A) && (o == O && (h == H && (decide (b = B) && (p == P && (k == q1 && (d == q2 && (m == q3 && (w == q4 && (e == q5 && (t == q6 && true))))) && (k' == u1 && (d' == u2 && (m' == u3 && (w' == u4 && (e' == u5 && (t' == u6 && true))))) && true)))))))) (K [.imm (.bool false)]) (brn (!h) (K [.imm (.bool true)]) (validDay k d m w e t = true ∧ (↑(dayS k d m w e t).length : Int) ≤
 big - 20 ∧ K [.imm (.bool (Dy.ok (day (dayS k d m w e t)) && (Dy.k (day (dayS k d m w e t)) == k && (Dy.d (day (dayS k d m w e t)) == d && (Dy.m (day (dayS k d m w e t)) == m && (Dy.w (day (dayS k d m w e t)) == w && (Dy.e (day (dayS k d m w e t)) == e && (Dy.t (day (dayS k d m w e t)) == t && true)))))) && Dy.n (day (dayS k d m w e t)) == (↑(dayS k d m w e t).length : Int)))]))) ∧ (validRule A O H B P q1 q2 q3 q4 q5 q6 u1 u2 u3 u4 u5 u6 = true ∧ brn (!decide (ruleS a o h b p k d m w e t k' d' m' w' e' t' = ruleS A O H B P q1 q2 q3 q4 q5 q6 u1 u2 u3 u4 u5 u6) == (decide (a = A) && (o == O && (h == H && (decide (b = B) && (p == P && (k == q1 && (d == q2 && (m == q3 && (w == q4 && (e == q5 && (t == q6 && true))))) && (k' == u1 && (d' == u2 && (m' == u3 && (w' == u4 && (e' == u5 && (t' == u6 && true))))) && true)))))))) (K [.imm (.bool false)]) (brn (!h) (K [.imm (.bool true)]) (validDay k d m w e t = true ∧ (↑(dayS k d m w e t).length : Int) ≤ big - 20 ∧ K [.imm (.bool (Dy.ok (day (dayS k d m w e t)) && (Dy.k (day (dayS k d m w e t)) == k && (Dy.d (day (dayS k d m w e t)) == d && (Dy.m (day (dayS k d m w e t)) == m && (Dy.w (day (dayS k d m w e t)) == w && (Dy.e (day (dayS k d m w e
 t)) == e && (Dy.t (day (dayS k d m w e t)) == t && true)))))) && Dy.n (day (dayS k d m w e t)) == (↑(dayS k d m w e t).length : Int)))]))) ∧ validRule A O H B P q1 q2 q3 q4 q5 q6 u1 u2 u3 u4 u5 u6 = true ∧ brn (!decide (ruleS a o h b p k d m w e t k' d' m' w' e' t' = ruleS A O H B P q1 q2 q3 q4 q5 q6 u1 u2 u3 u4 u5 u6) == (decide (a = A) && (o == O && (h == H && (decide (b = B) && (p == P && (k == q1 && (d == q2 && (m == q3 && (w == q4 && (e == q5 && (t == q6 && true))))) && (k' == u1 && (d' == u2 && (m' == u3 && (w' == u4 && (e' == u5 && (t' == u6 && true))))) && true)))))))) (K [.imm (.bool false)]) (brn (!h) (K [.imm (.bool true)]) (validDay k d m w e t = true ∧ (↑(dayS k d m w e t).length : Int) ≤ big - 20 ∧ K [.imm (.bool (Dy.ok (day (dayS k d m w e t)) && (Dy.k (day (dayS k d m w e t)) == k && (Dy.d (day (dayS k d m w e t)) == d && (Dy.m (day (dayS k d m w e t)) == m && (Dy.w (day (dayS k d m w e t)) == w && (Dy.e (day (dayS k d m w e t)) == e && (Dy.t (day (dayS k d m w e t)) == t && true)))))) && Dy.n (day (dayS k d m w e t)) == (↑(dayS k d m w e t).length : Int)))]))) ∧ ((validRule A O H B P q1 q2 q3 q4 q5 q6 u1 u2 u3 u4 u5 u6 = true ∧ brn (!decide (ruleS a o h b p k d m w
 e t k' d' m' w' e' t' = ruleS A O H B P q1 q2 q3 q4 q5 q6 u1 u2 u3 u4 u5 u6) == (decide (a = A) && (o == O && (h == H && (decide (b = B) && (p == P && (k == q1 && (d == q2 && (m == q3 && (w == q4 && (e == q5 && (t == q6 && true))))) && (k' == u1 && (d' == u2 && (m' == u3 && (w' == u4 && (e' == u5 && (t' == u6 && true))))) && true)))))))) (K [.imm (.bool false)]) (brn (!h) (K [.imm (.bool true)]) (validDay k d m w e t = true ∧ (↑(dayS k d m w e t).length : Int) ≤ big - 20 ∧ K [.imm (.bool (Dy.ok (day (dayS k d m w e t)) && (Dy.k (day (dayS k d m w e t)) == k && (Dy.d (day (dayS k d m w e t)) == d && (Dy.m (day (dayS k d m w e t)) == m && (Dy.w (day (dayS k d m w e t)) == w && (Dy.e (day (dayS k d m w e t)) == e && (Dy.t (day (dayS k d m w e t)) == t && true)))))) && Dy.n (day (dayS k d m w e t)) == (↑(dayS k d m w e t).length : Int)))]))) ∧ validRule A O H B P q1 q2 q3 q4 q5 q6 u1 u2 u3 u4 u5 u6 = true ∧ brn (!decide (ruleS a o h b p k d m w e t k' d' m' w' e' t' = ruleS A O H B P q1 q2 q3 q4 q5 q6 u1 u2 u3 u4 u5 u6) == (decide (a = A) && (o == O && (h == H && (decide (b = B) && (p == P && (k == q1 && (d == q2 && (m == q3 && (w == q4 && (e == q5 && (t == q6 && true))))) && (k' == u1
 && (d' == u2 && (m' == u3 && (w' == u4 && (e' == u5 && (t' == u6 && true))))) && true)))))))) (K [.imm (.bool false)]) (brn (!h) (K [.imm (.bool true)]) (validDay k d m w e t = true ∧ (↑(dayS k d m w e t).length : Int) ≤ big - 20 ∧ K [.imm (.bool (Dy.ok (day (dayS k d m w e t)) && (Dy.k (day (dayS k d m w e t)) == k && (Dy.d (day (dayS k d m w e t)) == d && (Dy.m (day (dayS k d m w e t)) == m && (Dy.w (day (dayS k d m w e t)) == w && (Dy.e (day (dayS k d m w e t)) == e && (Dy.t (day (dayS k d m w e t)) == t && true)))))) && Dy.n (day (dayS k d m w e t)) == (↑(dayS k d m w e t).length : Int)))]))) ∧ validRule A O H B P q1 q2 q3 q4 q5 q6 u1 u2 u3 u4 u5 u6 = true ∧ brn (!decide (ruleS a o h b p k d m w e t k' d' m' w' e' t' = ruleS A O H B P q1 q2 q3 q4 q5 q6 u1 u2 u3 u4 u5 u6) == (decide (a = A) && (o == O && (h == H && (decide (b = B) && (p == P && (k == q1 && (d == q2 && (m == q3 && (w == q4 && (e == q5 && (t == q6 && true))))) && (k' == u1 && (d' == u2 && (m' == u3 && (w' == u4 && (e' == u5 && (t' == u6 && true))))) && true)))))))) (K [.imm (.bool false)]) (brn (!h) (K [.imm (.bool true)]) (validDay k d m w e t = true ∧ (↑(dayS k d m w e t).length : Int) ≤ big - 20 ∧ K [.imm (.bool
 (Dy.ok (day (dayS k d m w e t)) && (Dy.k (day (dayS k d m w e t)) == k && (Dy.d (day (dayS k d m w e t)) == d && (Dy.m (day (dayS k d m w e t)) == m && (Dy.w (day (dayS k d m w e t)) == w && (Dy.e (day (dayS k d m w e t)) == e && (Dy.t (day (dayS k d m w e t)) == t && true)))))) && Dy.n (day (dayS k d m w e t)) == (↑(dayS k d m w e t).length : Int)))])))))) := by kernel_rfl
end Z10
set_option maxRecDepth 100000
namespace Z10
open Go Go.AE Go.Proofs B9
attribute [local irreducible] loopK evCode evSpec loopB norm
theorem okP0 : EOK Tryd.prog P0 B8.G8 := addE_ok (addE_ok (addE_ok okR3 ok12) ok15) ok17
theorem ok9 : ∀ args pres res, sCanon args = some (pres, res) → SpecOK Tryd.prog B8.G8 9 args pres res := by
  intro args pres res h
  unfold sCanon at h
  split at h
  case h_2 => cases h
  cases h
  rename_i s
  exact mk okP0 Tryd.func9 (by kernel_rfl) (by kernel_rfl) (fun hp K hK => Eq.mpr (f9_in s K) (canon_ev (hp _ (List.mem_cons_self ..)) hK))
theorem okP1 : EOK Tryd.prog P1 B8.G8 := addE_ok okP0 ok9
theorem ok8 : ∀ args pres res, sAwake args = some (pres, res) → SpecOK Tryd.prog B8.G8 8 args pres res := by
  intro args pres res h
  unfold sAwake at h
  split at h
  case h_2 => cases h
  cases h
  refine mk okP1 Tryd.func8 (by kernel_rfl) (by kernel_rfl) (fun hp K hK => ?_)
  refine Eq.mpr (f8_in K) ⟨by decide, by decide, fun _ => by kernel_rfl, fun _ => by kernel_rfl, fun _ => by kernel_rfl, ?_⟩
  refine (congrArg (fun b => K [AV.imm (IV.bool b)]) (?_ : _ = true)).mpr hK
  kernel_rfl
theorem okP2 : EOK Tryd.prog P2 B8.G8 := addE_ok okP1 ok8
theorem day_S {k d m w e t : Int} (hv : validDay k d m w e t = true) {u : List UInt8} (hu : u = [] ∨ ∃ Z, u = 44 :: Z) : day (dayS k d m w e t ++ u) = ⟨k, d, m, w, e, t, ((dayS k d m w e t).length : Int), true⟩ := by
  have hEnd : End u := by
    rcases hu with rfl | ⟨Z, rfl⟩
    · exact .inl rfl
    · exact .inr ⟨44, Z, rfl, .inr rfl⟩
  by_cases ht : t = 7200
  · subst ht
    have e0 : dayS k d m w e 7200 = dspell k d m w e := by unfold dayS; rw [if_pos rfl, List.append_nil]
    rw [e0]
    rcases hu with rfl | ⟨Z, rfl⟩
    · have hd := date_spell hv (u := []) (.inl rfl)
      unfold day
      have hsl : slash (dspell k d m w e ++ []) (date (dspell k d m w e ++ [])) = false := by
        unfold slash
        rw [hd]
        simp
      rw [if_neg (by rw [hsl]; simp), hd]
      unfold dayT
      rw [if_pos (by rw [hv]; rfl)]
    · exact day_short hv Z (.inr rfl)
  · have e0 : dayS k d m w e t = dayF k d m w e t := by unfold dayS; rw [if_neg ht, dayF_eq]
    rw [e0]
    exact day_form hv hEnd
theorem parse_S (r : Ru) (hv : validRu r = true) : parse9 (ruS r) = .rule r := by
  obtain ⟨a, o, h, b, p, ⟨k, d, m, w, e, t⟩, ⟨k', d', m', w', e', t'⟩⟩ := r
  have hv' : validRule a o h b p k d m w e t k' d' m' w' e' t' = true := hv
  obtain ⟨ha, o0, o1, hT, hF⟩ := rule_parts hv'
  show parse9 (ruleS a o h b p k d m w e t k' d' m' w' e' t') = _
  unfold ruleS dstS
  cases h with
  | false =>
    obtain ⟨rfl, rfl, rfl, rfl, rfl, rfl, rfl, rfl, rfl, rfl, rfl, rfl, rfl, rfl⟩ := hF rfl
    rw [if_neg (by simp)]
    generalize hS : B7.fmt a ++ (B8.fmt (0 - o) ++ []) = S
    have d0 : S.drop 0 = B7.fmt a ++ (B8.fmt (0 - o) ++ []) := by rw [← hS]; rfl
    have d1 := drop_at d0
    have hlen : S.length = 0 + (B7.fmt a).length + (B8.fmt (0 - o)).length := by rw [← hS]; simp
    unfold parse9
    rw [nameQ_at d0 (parse7_fmt ha (notA_fmt8 (by omega) (by omega) _)), offQ_at d1 (parse8_fa (by omega) (by omega) (.inl rfl)) (side_of (by omega) (by omega)), if_neg (by rw [hlen]; omega)]
    unfold endP
    have e1 : 0 - (0 - o) = o := by omega
    rw [if_pos (by rw [hlen]), e1]
    have e2 : validRu (stdR a o) = true := hv
    rw [e2]
    rfl
  | true =>
    obtain ⟨hb, p0, p1, hs, he⟩ := hT rfl
    rw [if_pos rfl]
    have hday : day (dayS k' d' m' w' e' t') = ⟨k', d', m', w', e', t', ((dayS k' d' m' w' e' t').length : Int), true⟩ := by
      have := day_S he (u := []) (.inl rfl)
      rw [List.append_nil] at this
      exact this
    have hY : ∀ Z, day (dayS k d m w e t ++ ([44] ++ Z)) = ⟨k, d, m, w, e, t, ((dayS k d m w e t).length : Int), true⟩ := fun Z => day_S hs (.inr ⟨Z, rfl⟩)
    generalize dayS k' d' m' w' e' t' = D at hday ⊢
    generalize dayS k d m w e t = Y at hY ⊢
    have e1 : 0 - (0 - o) = o := by omega
    by_cases hp : p = o + 3600
    · rw [if_pos hp, List.nil_append]
      generalize hS : B7.fmt a ++ (B8.fmt (0 - o) ++ (B7.fmt b ++ ([44] ++ (Y ++ ([44] ++ D))))) = S
      have d0 : S.drop 0 = B7.fmt a ++ (B8.fmt (0 - o) ++ (B7.fmt b ++ ([44] ++ (Y ++ ([44] ++ D))))) := by rw [← hS]; rfl
      have d1 := drop_at d0
      have d2 := drop_at d1
      have d3 := drop_at d2
      have hlen : S.length = 0 + (B7.fmt a).length + (B8.fmt (0 - o)).length + (B7.fmt b).length + (1 + (Y.length + (1 + D.length))) := by
        rw [← hS]; simp only [List.length_append, List.length_cons, List.length_nil]; omega
      unfold parse9
      rw [nameQ_at d0 (parse7_fmt ha (notA_fmt8 (by omega) (by omega) _)), offQ_at d1 (parse8_fa (by omega) (by omega) (aft_fmt7 hb _)) (side_of (by omega) (by omega)), if_pos (by rw [hlen]; omega)]
      unfold dstQ dstOffQ
      rw [nameQ_at d2 (parse7_fmt hb (Or.inr (show B7.alphaB 44 = false by decide)))]
      have hp8 : (B8.parse ([44] ++ (Y ++ ([44] ++ D)))).2.2 = false := by
        have : B8.parse ([44] ++ (Y ++ ([44] ++ D))) = B8.parse [] := parse8_c (c := 44) (Or.inr rfl) _ []
        rw [this]; decide
      rw [d3, hp8, if_neg (by decide), e1, ← hp]
      exact days_at (by rw [hlen]; omega) d3 (hY _) hday hv
    · rw [if_neg hp]
      generalize hS : B7.fmt a ++ (B8.fmt (0 - o) ++ (B7.fmt b ++ (B8.fmt (0 - p) ++ ([44] ++ (Y ++ ([44] ++ D)))))) = S
      have d0 : S.drop 0 = B7.fmt a ++ (B8.fmt (0 - o) ++ (B7.fmt b ++ (B8.fmt (0 - p) ++ ([44] ++ (Y ++ ([44] ++ D)))))) := by rw [← hS]; rfl
      have d1 := drop_at d0
      have d2 := drop_at d1
      have d3 := drop_at d2
      have d4 := drop_at d3
      have hlen : S.length = 0 + (B7.fmt a).length + (B8.fmt (0 - o)).length + (B7.fmt b).length + (B8.fmt (0 - p)).length + (1 + (Y.length + (1 + D.length))) := by
        rw [← hS]; simp only [List.length_append, List.length_cons, List.length_nil]; omega
      unfold parse9
      rw [nameQ_at d0 (parse7_fmt ha (notA_fmt8 (by omega) (by omega) _)), offQ_at d1 (parse8_fa (by omega) (by omega) (aft_fmt7 hb _)) (side_of (by omega) (by omega)), if_pos (by rw [hlen]; omega)]
      unfold dstQ dstOffQ
      rw [nameQ_at d2 (parse7_fmt hb (notA_fmt8 (by omega) (by omega) _))]
      have hp8 := parse8_fa (t := 0 - p) (by omega) (by omega) (aft44 (Y ++ ([44] ++ D)))
      have e2 : 0 - (0 - p) = p := by omega
      rw [d3, hp8, if_pos rfl, offQ_at d3 hp8 (side_of (by omega) (by omega)), e1, e2]
      exact days_at (by rw [hlen]; omega) d4 (hY _) hday hv
theorem ruP_S {r : Ru} (hv : validRu r = true) : ruP (ruS r) = r ∧ whyP (ruS r) = 0 ∧ okP (ruS r) = true := by
  have h := parse_S r hv
  unfold okP whyP ruP
  rw [h]
  exact ⟨rfl, rfl, rfl⟩
theorem ruS_inj {r u : Ru} (hr : validRu r = true) (hu : validRu u = true) (h : ruS r = ruS u) : r = u := by
  have h1 := (ruP_S hr).1
  rw [h, (ruP_S hu).1] at h1
  exact h1.symm
end Z10
set_option maxRecDepth 100000
namespace Z10
open Go Go.AE Go.Proofs B9
attribute [local irreducible] loopK evCode evSpec loopB norm canon
theorem f3_ev (a : List UInt8) (o : Int) (h : Bool) (b : List UInt8) (p k d m w e t k' d' m' w' e' t' q1 q2 q3 q4 q5 q6 : Int) (s : List UInt8) (ha : a.length ≤ 9223372036854775807) (hb : b.length ≤ 9223372036854775807) (K : List AV → Prop) (hK : K [bo true]) :
    evSpec V2 Tryd.f3 [ruleAV a o h b p k d m w e t k' d' m' w' e' t', dayAV q1 q2 q3 q4 q5 q6, st s] K := by
  refine Eq.mpr (f3_in a o h b p k d m w e t k' d' m' w' e' t' q1 q2 q3 q4 q5 q6 s K) ?_
  have e1 : decide (canon s = canon s) = true := by simp
  have e2 : decide (dayS q1 q2 q3 q4 q5 q6 = dayS q1 q2 q3 q4 q5 q6) = true := by simp
  have e3 : decide (ruleS a o h b p k d m w e t k' d' m' w' e' t' = ruleS a o h b p k d m w e t k' d' m' w' e' t') = true := by simp
  have e4 : ∀ x : Bool, (x == x) = true := fun x => by cases x <;> rfl
  simp only [e1, e2, e3, e4, Bool.not_true, Bool.not_false]
  refine brn_intro (fun _ => hK) (fun h1 => ?_)
  simp only [Bool.false_or, decide_eq_false_iff_not] at h1
  refine ⟨by omega, by omega, ?_⟩
  have e5 : (!okP s == okP s) = false := by cases okP s <;> rfl
  simp only [e5, brn_f]
  cases hd : validDay q1 q2 q3 q4 q5 q6 <;> cases hr : validRule a o h b p k d m w e t k' d' m' w' e' t' <;> simp only [Bool.not_true, Bool.not_false, brn_t, brn_f] <;>
    (repeat' first
      | exact hK
      | exact ha
      | exact hb
      | exact trivial
      | rfl
      | refine And.intro ?_ ?_)
end Z10
set_option maxRecDepth 100000
namespace Z10
open Go Go.AE Go.Proofs B9
attribute [local irreducible] loopK evCode evSpec loopB norm canon
theorem f4_ev (a : List UInt8) (o : Int) (h : Bool) (b : List UInt8) (p k d m w e t k' d' m' w' e' t' : Int) (A : List UInt8) (O : Int) (H : Bool) (B : List UInt8) (P q1 q2 q3 q4 q5 q6 u1 u2 u3 u4 u5 u6 : Int) (ha : a.length ≤ 9223372036854775807) (hb : b.length ≤ 9223372036854775807)
    (hA : A.length ≤ 9223372036854775807) (hB : B.length ≤ 9223372036854775807) (K : List AV → Prop) (hK : K [bo true]) :
    evSpec V2 Tryd.f4 [ruleAV a o h b p k d m w e t k' d' m' w' e' t', ruleAV A O H B P q1 q2 q3 q4 q5 q6 u1 u2 u3 u4 u5 u6] K := by
  refine Eq.mpr (f4_in a o h b p k d m w e t k' d' m' w' e' t' A O H B P q1 q2 q3 q4 q5 q6 u1 u2 u3 u4 u5 u6 K) ?_
  refine ⟨fun _ => ha, fun _ => hb, fun _ => hA, fun _ => hB, brn_intro (fun _ => hK) (fun h1 => ?_)⟩
  simp only [Bool.not_true, Bool.false_or, Bool.or_eq_false_iff, Bool.not_eq_false'] at h1
  obtain ⟨hr, hu⟩ := h1
  have g1 := ruP_S (r := ⟨a, o, h, b, p, ⟨k, d, m, w, e, t⟩, ⟨k', d', m', w', e', t'⟩⟩) hr
  have g2 : ruP (ruleS a o h b p k d m w e t k' d' m' w' e' t') = ⟨a, o, h, b, p, ⟨k, d, m, w, e, t⟩, ⟨k', d', m', w', e', t'⟩⟩ := g1.1
  have g3 : whyP (ruleS a o h b p k d m w e t k' d' m' w' e' t') = 0 := g1.2.1
  have hEq : decide (ruleS a o h b p k d m w e t k' d' m' w' e' t' = ruleS A O H B P q1 q2 q3 q4 q5 q6 u1 u2 u3 u4 u5 u6) =
      (decide (a = A) && (o == O && (h == H && (decide (b = B) && (p == P && (k == q1 && (d == q2 && (m == q3 && (w == q4 && (e == q5 && (t == q6 && true))))) && (k' == u1 && (d' == u2 && (m' == u3 && (w' == u4 && (e' == u5 && (t' == u6 && true))))) && true))))))) := by
    rw [Bool.eq_iff_iff]
    simp only [decide_eq_true_eq, Bool.and_eq_true, beq_iff_eq, and_true]
    constructor
    · intro hh
      have := ruS_inj (r := ⟨a, o, h, b, p, ⟨k, d, m, w, e, t⟩, ⟨k', d', m', w', e', t'⟩⟩) (u := ⟨A, O, H, B, P, ⟨q1, q2, q3, q4, q5, q6⟩, ⟨u1, u2, u3, u4, u5, u6⟩⟩) hr hu hh
      injection this with e1 e2 e3 e4 e5 e6 e7
      injection e6 with f1 f2 f3 f4 f5 f6
      injection e7 with f7 f8 f9 f10 f11 f12
      exact ⟨e1, e2, e3, e4, e5, ⟨f1, f2, f3, f4, f5, f6⟩, f7, f8, f9, f10, f11, f12⟩
    · rintro ⟨rfl, rfl, rfl, rfl, rfl, ⟨rfl, rfl, rfl, rfl, rfl, rfl⟩, rfl, rfl, rfl, rfl, rfl, rfl⟩
      rfl
  obtain ⟨va, o0, o1, hT, hF⟩ := rule_parts hr
  have hlen : ((ruleS a o h b p k d m w e t k' d' m' w' e' t').length : Int) ≤ 1000000000000000000 := by
    have hal := B7.valid_len va
    have la := B7.fmt_len (s := a)
    have l1 := fmt8_len (t := 0 - o) (by omega) (by omega)
    unfold ruleS dstS
    cases h with
    | false => simp only [List.length_append, Bool.false_eq_true, if_false, List.length_nil]; omega
    | true =>
      obtain ⟨vb, p0, p1, vs, ve⟩ := hT rfl
      have hbl := B7.valid_len vb
      have lb := B7.fmt_len (s := b)
      have l2 := fmt8_len (t := 0 - p) (by omega) (by omega)
      have z1 := validDay_b vs
      have z2 := validDay_b ve
      have l3 := dayS_len (k := k) (d := d) (m := m) (w := w) (e := e) z1.1 z1.2.1
      have l4 := dayS_len (k := k') (d := d') (m := m') (w := w') (e := e') z2.1 z2.2.1
      simp only [List.length_append, if_true, List.length_cons, List.length_nil]
      split <;> (try simp only [List.length_nil]) <;> omega
  have e4 : ∀ x : Bool, ((!x) == x) = false := fun x => by cases x <;> rfl
  refine ⟨hr, hlen, ?_⟩
  simp only [g2, g3, hEq, e4, decide_true, BEq.rfl, Bool.and_true, Bool.true_and, Bool.not_true, bne_self_eq_false, brn_f]
  cases h with
  | false =>
    simp only [Bool.not_false, brn_t]
    repeat' first
      | exact hK
      | exact hu
      | exact trivial
      | refine And.intro ?_ ?_
  | true =>
    obtain ⟨vb, p0, p1, vs, ve⟩ := hT rfl
    have hday : day (dayS k d m w e t) = ⟨k, d, m, w, e, t, ((dayS k d m w e t).length : Int), true⟩ := by
      have := day_S vs (u := []) (.inl rfl)
      rw [List.append_nil] at this
      exact this
    have z1 := validDay_b vs
    have l3 := dayS_len (k := k) (d := d) (m := m) (w := w) (e := e) z1.1 z1.2.1
    have hbig : B9.big = 9223372036854774000 := rfl
    simp only [Bool.not_true, brn_f, hday, BEq.rfl, Bool.and_true, Bool.true_and]
    repeat' first
      | exact hK
      | exact hu
      | exact vs
      | exact trivial
      | refine And.intro ?_ ?_
    all_goals omega
end Z10
set_option maxRecDepth 100000
namespace Z10
open Go Go.AE Go.Proofs B9
attribute [local irreducible] loopK evCode evSpec loopB norm canon
theorem parts7 {L M D : List UInt8} (hL : L.length ≤ 1000) (hM : M.length ≤ 1000) (hM1 : 1 ≤ M.length) (hD : D.length ≤ 1000) (K : List AV → Prop) (hK : K [bo true]) :
    brn (decide (((L ++ (M ++ D)).length : Int) ≤ IntKind.wrap .i64 ((L.length : Int) + (D.length : Int)))) (K [bo false])
      ((0 : Int) ≤ (L.length : Int) ∧ (L.length : Int) ≤ ((L ++ (M ++ D)).length : Int) ∧
        (decide (List.take (Int.toNat (L.length : Int) - 0) (List.drop 0 (L ++ (M ++ D))) = L) = true → (0 : Int) ≤ IntKind.wrap .i64 (((L ++ (M ++ D)).length : Int) - (D.length : Int))) ∧
        (decide (List.take (Int.toNat (L.length : Int) - 0) (List.drop 0 (L ++ (M ++ D))) = L) = true → IntKind.wrap .i64 (((L ++ (M ++ D)).length : Int) - (D.length : Int)) ≤ ((L ++ (M ++ D)).length : Int)) ∧
        K [bo (decide (List.take (Int.toNat (L.length : Int) - 0) (List.drop 0 (L ++ (M ++ D))) = L) &&
          decide (List.take ((L ++ (M ++ D)).length - Int.toNat (IntKind.wrap .i64 (((L ++ (M ++ D)).length : Int) - (D.length : Int)))) (List.drop (Int.toNat (IntKind.wrap .i64 (((L ++ (M ++ D)).length : Int) - (D.length : Int)))) (L ++ (M ++ D))) = D))]) := by
  have hl : (L ++ (M ++ D)).length = L.length + M.length + D.length := by simp only [List.length_append]; omega
  have w1 : IntKind.wrap .i64 ((L.length : Int) + (D.length : Int)) = (L.length : Int) + (D.length : Int) := wrap64 (by omega) (by omega)
  have w2 : IntKind.wrap .i64 (((L ++ (M ++ D)).length : Int) - (D.length : Int)) = ((L.length + M.length : Nat) : Int) := by rw [hl, wrap64 (by omega) (by omega)]; omega
  rw [w1, w2]
  have e1 : List.take (Int.toNat (L.length : Int) - 0) (List.drop 0 (L ++ (M ++ D))) = L := by
    rw [List.drop_zero, Int.toNat_natCast, Nat.sub_zero, List.take_left]
  have e2 : List.take ((L ++ (M ++ D)).length - Int.toNat ((L.length + M.length : Nat) : Int)) (List.drop (Int.toNat ((L.length + M.length : Nat) : Int)) (L ++ (M ++ D))) = D := by
    have : List.drop (L.length + M.length) (L ++ (M ++ D)) = D := by rw [← List.append_assoc, show L.length + M.length = (L ++ M).length by simp, List.drop_left]
    rw [Int.toNat_natCast, this, List.take_of_length_le (by rw [hl]; omega)]
  rw [e1, e2]
  refine brn_intro (fun h => ?_) (fun h => ⟨by omega, by rw [hl]; omega, fun _ => by omega, fun _ => by rw [hl]; omega, ?_⟩)
  · simp only [decide_eq_true_eq] at h
    rw [hl] at h
    omega
  · have e3 : (decide (L = L) && decide (D = D)) = true := by simp
    rw [e3]; exact hK
end Z10
namespace Z10
open Go Go.AE Go.Proofs
theorem gok_of_laid {W : World} (h : laidMetH Tryd.prog YtgadloeechbkkaaDoor.Rows.tzformatMatchesReferenceRow.laid W) : GOK B8.G8 W (fun _ => False) := by
  rw [MakeChecks.laidMetH_plain _ _ _ (by kernel_rfl)] at h
  have h3 := laidMet.tail (laidMet.tail h)
  have ht : Lib.TabIs Tryd.prog W "internal/strconv.uint64pow10" .u64 [1, 10, 100, 1000, 10000, 100000, 1000000, 10000000, 100000000, 1000000000, 10000000000, 100000000000, 1000000000000, 10000000000000, 100000000000000, 1000000000000000, 10000000000000000, 100000000000000000, 1000000000000000000, 10000000000000000000] :=
    Lib.tabIs_of_head B8.gName (by kernel_rfl) Tryd.underlying107 Tryd.underlying100 (by kernel_rfl) (by kernel_rfl) h3
  unfold Lib.TabIs World.var? at ht
  rw [B8.gName] at ht
  simp only [Option.bind_some] at ht
  intro n l hl
  unfold B8.G8 at hl
  cases hn : Nat.beq n B8.gTab with
  | false => rw [hn] at hl; cases hl
  | true =>
    rw [hn, cond_true] at hl
    cases hl
    have := nbeq hn
    subst this
    refine ⟨fun h => h, ?_⟩
    split at ht
    case h_2 => cases ht
    rename_i cs T fr hc
    simp only [Option.some.injEq] at ht
    refine ⟨cs, T, fr, hc, by rw [ht]; rfl, fun j v hv => ?_, fun j hj => ?_⟩
    · rw [ht]
      unfold B8.tab10 at hv
      rw [List.getElem?_map] at hv
      have : ∀ (zs : List Int), (∀ z ∈ zs, 0 ≤ z ∧ z ≤ 18446744073709551615) → ∀ j v, (zs[j]?).map (fun n => (AV.imm (.int .u64 n))) = some v → GRep W (fun _ => False) v ((zs.map fun z => Value.int .u64 z).toArray.getD j undef) := by
        intro zs hz j v hv
        cases hj : zs[j]? with
        | none => rw [hj] at hv; cases hv
        | some z =>
          rw [hj] at hv
          simp only [Option.map_some, Option.some.injEq] at hv
          subst hv
          have e : (zs.map fun z => Value.int .u64 z).toArray.getD j undef = .int .u64 z := by
            simp [Array.getD_eq_getD_getElem?, hj]
          rw [e]
          have := hz z (List.mem_of_getElem? hj)
          exact .int ⟨this.1, this.2⟩
      exact this _ (by decide) j v hv
    · rw [ht] at hj ⊢
      have : ∀ (zs : List Int) (j : Nat), j < zs.length → ((zs.map fun z => Value.int .u64 z).toArray.getD j undef).oneCell' = true := by
        intro zs j hj
        have : (zs.map fun z => Value.int .u64 z).toArray.getD j undef = .int .u64 zs[j] := by simp [Array.getD_eq_getD_getElem?, hj]
        rw [this]; rfl
      exact this _ j (by simpa using hj)
theorem door_met (os : Os) (args : Array Value) : laidMetH Tryd.prog YtgadloeechbkkaaDoor.Rows.tzformatMatchesReferenceRow.laid ((World.doorLaid Tryd.prog 400 os).forCall (fun _ _ => 0) ⟨#[], args, []⟩).memory :=
  laidMetH_of_parts3 (fuel := 8) (laidMet_of_run' 8 (by kernel_rfl) (by kernel_rfl)) (by kernel_rfl) (by kernel_rfl)
end Z10
set_option maxRecDepth 100000
namespace Z10
open Go Go.AE Go.Proofs B9
attribute [local irreducible] loopK evCode evSpec loopB norm
theorem dd_short {ds : List UInt8} (hd : ∀ b ∈ ds, B8.isD b = true) (h1 : 1 ≤ ds.length) (h3 : ds.length ≤ 3) : (B8.dd (B8.num ds)).length ≤ ds.length := by
  have hlt := B8.num_lt hd
  unfold B8.dd
  have : ds.length = 1 ∨ ds.length = 2 ∨ ds.length = 3 := by omega
  rcases this with h | h | h <;> rw [h] at hlt ⊢
  · rw [if_pos (by omega)]; simp
  · split
    · simp
    · simp
  · split
    · simp
    · split <;> simp
theorem number_len {s : List UInt8} (h : (number s).2.2 = true) : ∃ v n : Nat, number s = ((v : Int), (n : Int), true) ∧ (B8.dd v).length ≤ n := by
  unfold number at h ⊢
  split at h
  · rename_i h3
    rw [if_pos h3]
    have h0 : 0 < (B8.runD s).length := by simpa using h
    exact ⟨_, _, by rw [show decide (0 < (B8.runD s).length) = true from h], dd_short (fun b hb => B8.mem_run hb) h0 h3⟩
  · cases h
theorem after_len {s : List UInt8} {i : Nat} {c : UInt8} (h : (after s i c).2.2 = true) : ∃ v n : Nat, after s i c = ((v : Int), (n : Int), true) ∧ i + 1 + (B8.dd v).length ≤ n := by
  unfold after at h ⊢
  cases hd : s.drop i with
  | nil => rw [hd] at h; cases h
  | cons b r =>
    rw [hd] at h
    dsimp only at h ⊢
    by_cases hb : b = c
    · rw [if_pos hb] at h ⊢
      obtain ⟨v, n, e, l⟩ := number_len (s := r) h
      rw [e]
      exact ⟨v, i + 1 + n, rfl, by omega⟩
    · rw [if_neg hb] at h; cases h
theorem date_len {s : List UInt8} (h : (date s).ok = true) : ∃ n : Nat, (date s).n = (n : Int) ∧ (dspell (date s).k (date s).d (date s).m (date s).w (date s).e).length ≤ n := by
  cases s with
  | nil => cases h
  | cons b r =>
    rw [date_cons] at h ⊢
    by_cases h1 : b = 74
    · rw [if_pos h1] at h ⊢
      obtain ⟨v, n, e, l⟩ := number_len (s := r) h
      rw [e]
      refine ⟨n + 1, rfl, ?_⟩
      unfold dspell
      rw [if_pos rfl, List.length_cons]
      show (B8.dd v).length + 1 ≤ _
      omega
    rw [if_neg h1] at h ⊢
    by_cases h2 : b = 77
    · rw [if_pos h2] at h ⊢
      unfold dateM at h ⊢
      split at h
      case isFalse => cases h
      rename_i a1
      rw [if_pos a1]
      split at h
      case isFalse => cases h
      rename_i a2
      rw [if_pos a2]
      obtain ⟨v1, n1, e1, l1⟩ := number_len a1
      rw [e1] at a2 h ⊢
      obtain ⟨v2, n2, e2, l2⟩ := after_len a2
      rw [e2] at h ⊢
      obtain ⟨v3, n3, e3, l3⟩ := after_len h
      rw [e3]
      refine ⟨n3, rfl, ?_⟩
      unfold dspell
      rw [if_neg (show ¬ ((3 : Int) = 1) by decide), if_pos rfl]
      show (77 :: (B8.dd v1 ++ (46 :: (B8.dd v2 ++ (46 :: B8.dd v3))))).length ≤ _
      simp only [List.length_cons, List.length_append]
      simp only [Int.toNat_natCast] at l2 l3
      omega
    rw [if_neg h2] at h ⊢
    obtain ⟨v, n, e, l⟩ := number_len (s := b :: r) h
    rw [e]
    refine ⟨n, rfl, ?_⟩
    unfold dspell
    rw [if_neg (show ¬ ((2 : Int) = 1) by decide), if_neg (show ¬ ((2 : Int) = 3) by decide)]
    exact l
theorem parse8_len {s : List UInt8} (h : (B8.parse s).2.2 = true) : ∃ n : Nat, (B8.parse s).2.1 = (n : Int) ∧ (B8.fmt (B8.parse s).1).length ≤ n := by
  obtain ⟨p, ds, r, hs, hp, hd, h1, h3, h167, hr⟩ := B8.parse_parts h
  have e := B8.parse_comp hp hd h1 h3 h167 hr
  rw [← hs] at e
  obtain ⟨S, k, hSk, efl⟩ : ∃ S k : Nat, ((S = 0 ∧ k = 0) ∨ (∃ m : Nat, m < 60 ∧ S = 60 * m ∧ k = 3) ∨ (∃ m c : Nat, m < 60 ∧ c < 60 ∧ S = 60 * m + c ∧ k = 6)) ∧ B8.fl r = ((S : Int), k) := by
    rcases B8.fl_facts r with e | ⟨m, hm, e, hl, h58⟩ | ⟨m, c, hm, hc, e, hl, h58⟩
    · exact ⟨0, 0, Or.inl ⟨rfl, rfl⟩, e⟩
    · exact ⟨60 * m, 3, Or.inr (Or.inl ⟨m, hm, rfl, rfl⟩), by rw [e]; simp⟩
    · exact ⟨60 * m + c, 6, Or.inr (Or.inr ⟨m, c, hm, hc, rfl, rfl⟩), by rw [e]; simp⟩
  have hsh := B8.fmt_shorter hd h1 h3 S k hSk
  rw [efl] at e
  rw [e]
  refine ⟨_, rfl, ?_⟩
  dsimp only
  by_cases hp4 : p = [45]
  · rw [if_pos hp4, hp4]
    have : ((-1 : Int) * ((B8.num ds : Int) * 3600 + (S : Int))).natAbs = B8.num ds * 3600 + S := by omega
    unfold B8.fmt
    rw [this]
    split <;> simp only [List.length_cons, List.length_nil] <;> omega
  · rw [if_neg hp4]
    have : ((1 : Int) * ((B8.num ds : Int) * 3600 + (S : Int))).natAbs = B8.num ds * 3600 + S := by omega
    unfold B8.fmt
    rw [this, if_neg (by omega)]
    omega
theorem day_len {s : List UInt8} (h : (day s).ok = true) : ∃ n : Nat, (day s).n = (n : Int) ∧ (dayS (day s).k (day s).d (day s).m (day s).w (day s).e (day s).t).length ≤ n := by
  unfold day at h ⊢
  split at h
  · rename_i hs
    rw [if_pos hs]
    unfold dayT at h ⊢
    split at h
    case isFalse => cases h
    rename_i h2
    rw [if_pos h2]
    unfold slash at hs
    simp only [Bool.and_eq_true] at hs h2
    obtain ⟨n, e, l⟩ := date_len hs.1.1
    obtain ⟨m, e', l'⟩ := parse8_len h2.1
    dsimp only
    rw [e']
    refine ⟨n + 1 + m, by rw [e]; simp, ?_⟩
    unfold dayS
    rw [List.length_append]
    split <;> simp only [List.length_cons, List.length_nil] <;> omega
  · rename_i hs
    rw [if_neg hs]
    unfold dayT at h ⊢
    split at h
    case isFalse => cases h
    rename_i h2
    rw [if_pos h2]
    simp only [Bool.and_eq_true] at h2
    obtain ⟨n, e, l⟩ := date_len h2.1
    dsimp only
    refine ⟨n, e, ?_⟩
    unfold dayS
    rw [if_pos rfl, List.append_nil]
    exact l
theorem take_letters (s : List UInt8) : B7.bare (s.take (B7.letters s)) = true ∧ (s.take (B7.letters s)).length = B7.letters s := by
  unfold B7.letters B7.bare
  have h : s.take (s.takeWhile B7.alphaB).length = s.takeWhile B7.alphaB := by
    induction s with
    | nil => rfl
    | cons b r ih =>
      rw [List.takeWhile_cons]
      split
      · rw [List.length_cons, List.take_succ_cons, ih]
      · rfl
  rw [h]
  refine ⟨?_, rfl⟩
  clear h
  induction s with
  | nil => rfl
  | cons b r ih =>
    rw [List.takeWhile_cons]
    split
    · rename_i hb; rw [List.all_cons, hb, ih]; rfl
    · rfl
theorem parse7_len {s : List UInt8} (h : (B7.parse s).2.2 = true) : ∃ n : Nat, (B7.parse s).2.1 = (n : Int) ∧ (B7.fmt (B7.parse s).1).length ≤ n := by
  have hP : ∀ s, (B7.parseP s).2.2 = true → ∃ n : Nat, (B7.parseP s).2.1 = (n : Int) ∧ (B7.fmt (B7.parseP s).1).length ≤ n := by
    intro s h
    unfold B7.parseP at h ⊢
    split at h
    case isFalse => cases h
    rename_i hv
    rw [if_pos hv]
    refine ⟨_, rfl, ?_⟩
    unfold B7.fmt
    rw [if_pos (take_letters s).1, (take_letters s).2]
    exact Nat.le_refl _
  unfold B7.parse at h ⊢
  cases s with
  | nil => exact hP [] h
  | cons b r =>
    dsimp only at h ⊢
    split at h
    · rename_i hb
      rw [if_pos hb]
      unfold B7.parseQ at h ⊢
      split at h
      case isFalse => cases h
      rename_i h1
      rw [if_pos h1]
      split at h
      case isFalse => cases h
      rename_i h2
      rw [if_pos h2]
      refine ⟨B7.place r 62 + 2, rfl, ?_⟩
      have := B7.fmt_len (s := r.take (B7.place r 62))
      rw [List.length_take] at this
      dsimp only
      omega
    · rename_i hb
      rw [if_neg hb]
      exact hP _ h
theorem nameQ_r {s : List UInt8} {i : Nat} {F : List UInt8 → Nat → Out} {r : Ru} (h : nameQ s i F = .rule r) : ∃ a j, F a j = .rule r ∧ i + (B7.fmt a).length ≤ j := by
  unfold nameQ at h
  split at h
  · rename_i hp
    obtain ⟨n, e, l⟩ := parse7_len hp
    exact ⟨_, _, h, by rw [e, Int.toNat_natCast]; omega⟩
  · cases h
theorem offQ_r {s : List UInt8} {i : Nat} {F : Int → Nat → Out} {r : Ru} (h : offQ s i F = .rule r) : ∃ o j, F o j = .rule r ∧ i + (B8.fmt (0 - o)).length ≤ j := by
  unfold offQ at h
  split at h
  · rename_i hp
    simp only [Bool.and_eq_true] at hp
    obtain ⟨n, e, l⟩ := parse8_len hp.1
    refine ⟨_, _, h, ?_⟩
    rw [e, Int.toNat_natCast, show ∀ x : Int, 0 - (0 - x) = x from fun x => by omega]
    omega
  · cases h
theorem dayQ_r {s : List UInt8} {i : Nat} {F : Dv → Nat → Out} {r : Ru} (h : dayQ s i F = .rule r) : ∃ D j, F D j = .rule r ∧ i + (dayS D.k D.d D.m D.w D.e D.t).length ≤ j := by
  unfold dayQ at h
  split at h
  · rename_i hp
    obtain ⟨n, e, l⟩ := day_len hp
    refine ⟨_, _, h, ?_⟩
    rw [e, Int.toNat_natCast]
    unfold Dy.dv
    dsimp only
    omega
  · cases h
theorem commaQ_r {s : List UInt8} {i : Nat} {F : Nat → Out} {r : Ru} (h : commaQ s i F = .rule r) : F (i + 1) = .rule r := by
  unfold commaQ at h
  split at h
  · exact h
  · cases h
theorem dstOffQ_r {s : List UInt8} {i : Nat} {o : Int} {F : Int → Nat → Out} {r : Ru} (h : dstOffQ s i o F = .rule r) : ∃ p j, F p j = .rule r ∧ i + (if p = o + 3600 then [] else B8.fmt (0 - p)).length ≤ j := by
  unfold dstOffQ at h
  split at h
  · obtain ⟨p, j, e, l⟩ := offQ_r h
    refine ⟨p, j, e, ?_⟩
    split
    · simp only [List.length_nil]; omega
    · exact l
  · exact ⟨o + 3600, i, h, by rw [if_pos rfl]; exact Nat.le_refl _⟩
theorem endP_r {s : List UInt8} {i : Nat} {r r' : Ru} (h : endP s r i = .rule r') : i = s.length ∧ r = r' := by
  unfold endP at h
  split at h
  · split at h
    · injection h with h; exact ⟨‹_›, h⟩
    · cases h
  · cases h
theorem parse9_len {s : List UInt8} {r : Ru} (h : parse9 s = .rule r) : (ruS r).length ≤ s.length := by
  unfold parse9 at h
  obtain ⟨a, i, h, l1⟩ := nameQ_r h
  obtain ⟨o, j, h, l2⟩ := offQ_r h
  split at h
  · unfold dstQ at h
    obtain ⟨b, i2, h, l3⟩ := nameQ_r h
    obtain ⟨p, i3, h, l4⟩ := dstOffQ_r h
    have h := commaQ_r h
    obtain ⟨S, i4, h, l5⟩ := dayQ_r h
    have h := commaQ_r h
    obtain ⟨E, i5, h, l6⟩ := dayQ_r h
    obtain ⟨e, rfl⟩ := endP_r h
    show (ruleS a o true b p S.k S.d S.m S.w S.e S.t E.k E.d E.m E.w E.e E.t).length ≤ _
    unfold ruleS dstS
    simp only [if_true, List.length_append, List.length_cons, List.length_nil]
    omega
  · obtain ⟨e, rfl⟩ := endP_r h
    show (ruleS a o false [] 0 0 0 0 0 0 0 0 0 0 0 0 0).length ≤ _
    unfold ruleS
    simp only [Bool.false_eq_true, if_false, List.length_append, List.length_nil]
    omega
theorem f5_ev (s : List UInt8) (K : List AV → Prop) (hK : K [bo true]) : evSpec V2 Tryd.f5 [st s] K := by
  refine Eq.mpr (f5_in s K) ?_
  refine brn_intro (fun _ => hK) (fun h1 => ?_)
  simp only [Bool.not_true, Bool.false_or, decide_eq_false_iff_not] at h1
  refine ⟨by omega, by omega, ?_⟩
  have e4 : (!okP s == (whyP s == 0)) = false := by unfold okP; cases (whyP s == 0) <;> rfl
  rw [e4, brn_f]
  cases hok : okP s with
  | false =>
    rw [Bool.not_false, brn_t]
    have : canon s = [] := by unfold canon; rw [if_neg (by rw [hok]; decide)]
    rw [this]
    exact hK
  | true =>
    rw [Bool.not_true, brn_f]
    have hc : canon s = ruS (ruP s) := by unfold canon; rw [if_pos hok]
    obtain ⟨r, hr⟩ : ∃ r, parse9 s = .rule r := by
      unfold okP whyP at hok
      cases hp : parse9 s with
      | stop j => rw [hp] at hok; cases hok
      | rule r => exact ⟨r, rfl⟩
    have hv := parse9_valid hr
    have e5 : ruP s = r := by unfold ruP; rw [hr]; rfl
    have hl := parse9_len hr
    obtain ⟨g1, g2, g3⟩ := ruP_S hv
    have hcc : canon (ruS r) = ruS r := by
      have : canon (ruS r) = ruS (ruP (ruS r)) := by
        show (if okP (ruS r) then ruS (ruP (ruS r)) else []) = _
        rw [if_pos g3]
      rw [this, g1]
    rw [hc, e5, hcc, g1, g2, g3]
    refine ⟨by omega, by omega, ?_⟩
    have e6 : decide (((ruS r).length : Int) ≤ (s.length : Int)) = true := by simp only [decide_eq_true_eq]; omega
    simp only [e6, decide_true, BEq.rfl, Bool.and_true, Bool.true_and]
    exact hK
end Z10
namespace Go.Proofs.YtgadloeechbkkaaDoor
open Go Go.AE Go.Proofs Z10
open Go.ChangeShapes Go.WideShapes Go.ChangeAt Go.RowKit Go.ChangeMaps
attribute [local irreducible] loopK evCode evSpec loopB norm evFunc
theorem Tryd.own : ownKnob Tryd.prog.godebug = none := by kernel_rfl
set_option maxRecDepth 100000 in
theorem f5_lifted (os : Os) (started : os.Started) (H : Type) (enc : TypeId × Value → H) :
    ReturnsInHanded {} Tryd.checked os 5 .any (fun w args => (Rows.tzformatCanonicalSpec.pre enc Tryd.prog Tryd.f5 [] false w args ∧ laidMetH Tryd.prog Rows.tzformatMatchesReferenceRow.laid w) ∧ sizedMet enc Tryd.prog Tryd.f5 (OpenSpec.ofChange Rows.tzformatCanonicalSpec) false w args)
      (Rows.tzformatCanonicalSpec.post enc Tryd.prog Tryd.f5 false true false false) := by
  refine returnsInHanded_of_change_and (C := Tryd.checked) (X := fun w _ => laidMetH Tryd.prog Rows.tzformatMatchesReferenceRow.laid w) (fun _ _ _ hh h => h.of_heap hh) Tryd.own started (by kernel_rfl) Tryd.func5
    (ChangeSpec.witness_shaped (enc := enc) (C := Tryd.checked) (os := os) (X := fun w _ => laidMetH Tryd.prog Rows.tzformatMatchesReferenceRow.laid w) false (World.doorLaid Tryd.prog 400 os) #[.string ⟨#[]⟩] 8 rfl (World.shaped_of_RefB (by kernel_rfl) (by kernel_rfl)) (by kernel_rfl) (by kernel_rfl) (by kernel_rfl) (door_met os _)) ?_
  intro W base args ds gs before hval0 hW _ hsz hL _
  obtain ⟨l⟩ := args
  have hval : ∀ (j : Nat) t v, Tryd.f5.params[j]? = some t → l[j]? = some v → Value.okWide Tryd.prog W .any base t v := fun j t v h1 h2 => hval0 j t v h1 (by simpa using h2)
  have hW' := hW
  obtain ⟨p, q, hB, hV, rfl, hfz, hnd⟩ := hW
  obtain ⟨rfl, rfl⟩ := trodVars_none hV
  have hA0 : DataW.TrodAll enc Tryd.prog W 0 (fun _ => true) true [9] l ds p := by have h := hB; rw [Tryd.params5] at h; exact h
  rw [Tryd.params5] at hval
  clear hB hval0
  obtain ⟨v0, l, d0, ds, p0, p, rfl, rfl, h0, hA1, rfl⟩ := all_cons hA0
  obtain ⟨rfl, rfl, rfl⟩ := all_nil hA1
  obtain ⟨a0, rfl, rfl, rfl, w0⟩ := open_string Tryd.underlying9 (hval 0 9 v0 rfl rfl) h0
  have m0 : (bytesOf a0).length ≤ 9223372036854775807 := by rw [← size_bytes]; exact w0
  have hspec := mk (pres := []) (args := [.imm (.str (bytesOf a0))]) (res := [.imm (.bool true)]) okP2 Tryd.func5 (by kernel_rfl) (by kernel_rfl) (fun _ K hK => f5_ev (bytesOf a0) K hK)
  refine (bool_calls hspec (fun p h => by cases h) W _ rfl (fun j c hc => ?_) (gok_of_laid hL)).mono fun e W' ⟨he, hw⟩ => ?_
  · match j with
    | 0 => simp only [List.getElem?_cons_zero, Option.some.injEq] at hc; subst hc; exact .imm (.str rfl m0)
    | j + 1 => simp at hc
  subst he
  exact ⟨_, rfl, row_post hW' rfl (by kernel_rfl) (by kernel_rfl) rfl rfl Tryd.underlying4 hw⟩
theorem f5_row : Rows.TzformatCanonicalSaid :=
  OpenClaim.holds_of_wide 5 Tryd.f5 rfl rfl rfl rfl rfl rfl rfl ⟨rfl, rfl, rfl, rfl, rfl⟩ rfl rfl rfl rfl rfl (by kernel_rfl) Tryd.func5 (by kernel_rfl)
    (of_decide_eq_true (by kernel_rfl)) (by unfold Func.isWrapper; first | (rw [if_pos (by decide +kernel)]; kernel_rfl) | (rw [if_neg (by decide +kernel)]; exact ⟨rfl, rfl⟩))
    (fun os started H enc _ => f5_lifted os started H enc)
theorem f5_holds : Rows.TzformatCanonicalCardSaid :=
  Claim7.holds_tied_plain_at .later [] [.data, .data, .data] true Rows.tzformatCanonicalCard.stood.harness true
    f5_row (fun _ h => by cases h) (by kernel_rfl) (fun _ h => by cases h) tzformatCanonical_row_tie rfl ⟨rfl, rfl⟩ (by kernel_rfl) rfl
    (fun f fn hf hfn => by
      obtain rfl : f = 5 := Option.some.inj ((show Tryd.prog.funcNamed "zoneinfo/zoneinfolaw10.TzformatCanonical" = some 5 by kernel_rfl).symm.trans hf) |>.symm
      obtain rfl : fn = Tryd.f5 := (Option.some.inj (Tryd.func5.symm.trans hfn)).symm
      exact ⟨by kernel_rfl, fun j t ht => by
        rw [Tryd.params5] at ht
        have hm : t ∈ [9] := by simpa using Array.mem_of_getElem? ht
        have hall : ([9].all fun u => !Tryd.prog.wantsStandIn u) = true := by kernel_rfl
        exact (show Tryd.prog.wantsStandIn t = false by simpa using List.all_eq_true.1 hall t hm)⟩)
    (by kernel_rfl)
end Go.Proofs.YtgadloeechbkkaaDoor
