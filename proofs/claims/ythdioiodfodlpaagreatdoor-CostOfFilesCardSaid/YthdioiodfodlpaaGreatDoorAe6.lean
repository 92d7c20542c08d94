/- For every file (two blocks, version, footer) and number the law CostOfFiles returns true and its arguments read as before. No further condition. -/
import Derived.Test.YthdioiodfodlpaaGreatDoorAe5
import Derived.KernelRfl
set_option linter.all false
set_option maxRecDepth 100000
namespace Y27
open Go Go.AE Go.Proofs E6
attribute [local irreducible] loopK evCode evSpec loopB norm
theorem g19_in (n : Int) (T : List Int) (I : List UInt8) (X : List (List IV)) (C : List UInt8) (L : List (List IV)) (S : List Bool) (U : List Bool) (T' : List Int) (I' : List UInt8) (X' : List (List IV)) (C' : List UInt8) (L' : List (List IV)) (S' : List Bool) (U' : List Bool) (f : List UInt8) (K : List AV → Prop) : evSpec N24 Tryz.f19 [.agg (fiC n T I X C L S U T' I' X' C' L' S' U' f)] K = (brn (decide (n < 1) || decide (n > 4)) (K [i64 4]) (okBp T I X C L S U ∧ sz48 (4 : Int) ∧ brn (blV T I (tys X) C (lps L) S U n (4 : Int) != 0) (K [i64 (blV T I (tys X) C (lps L) S U n (4 : Int))]) (brn (n == 1) (((!decide (f = [])) = false → okB T' I' X' C' L' S' U') ∧ ((!decide (f = [])) = false → okB [] [] [] [] [] [] []) ∧ brn (!decide (f = []) || !sameK T' I' X' C' L' S' U' [] [] [] [] [] [] []) (K [i64 18]) (K [i64 0])) (okBp T' I' X' C' L' S' U' ∧ sz48 (8 : Int) ∧ brn (blV T' I' (tys X') C' (lps L') S' U' n (8 : Int) != 0) (K [i64 (blV T' I' (tys X') C' (lps L') S' U' n (8 : Int))]) (okBp T' I' X' C' L' S' U' ∧ okBl T' I' (tys X') C' S' U' ∧ (f.length : Int) ≤ 1000000 ∧ K [i64 ((ftV n T I X C L S U T' I' X' C' L' S' U' f).1)]))))) := by kernel_rfl
theorem g18_in (n : Int) (T : List Int) (I : List UInt8) (X : List (List IV)) (C : List UInt8) (L : List (List IV)) (S : List Bool) (U : List Bool) (T' : List Int) (I' : List UInt8) (X' : List (List IV)) (C' : List UInt8) (L' : List (List IV)) (S' : List Bool) (U' : List Bool) (f : List UInt8) (K : List AV → Prop) : evSpec N25 Tryz.f18 [.agg (fiC n T I X C L S U T' I' X' C' L' S' U' f)] K = (K [bo (fewB T I X C L S U && fewB T' I' X' C' L' S' U' && decide ((f.length : Int) ≤ 600))]) := by kernel_rfl
end Y27
set_option maxRecDepth 100000
namespace Y27
open Go Go.AE Go.Proofs E6
noncomputable section
def fiV (n : Int) (T : List Int) (I : List UInt8) (X : List (List IV)) (C : List UInt8) (L : List (List IV)) (S U : List Bool) (T' : List Int) (I' : List UInt8) (X' : List (List IV)) (C' : List UInt8) (L' : List (List IV)) (S' U' : List Bool) (f : List UInt8) : Int :=
  bif decide (n < 1) || decide (n > 4) then 4 else bif blV T I (tys X) C (lps L) S U n 4 != 0 then blV T I (tys X) C (lps L) S U n 4 else
  bif n == 1 then (bif !decide (f = []) || !sameK T' I' X' C' L' S' U' [] [] [] [] [] [] [] then 18 else 0) else
  bif blV T' I' (tys X') C' (lps L') S' U' n 8 != 0 then blV T' I' (tys X') C' (lps L') S' U' n 8 else (ftV n T I X C L S U T' I' X' C' L' S' U' f).1
def fewF (n : Int) (T : List Int) (I : List UInt8) (X : List (List IV)) (C : List UInt8) (L : List (List IV)) (S U : List Bool) (T' : List Int) (I' : List UInt8) (X' : List (List IV)) (C' : List UInt8) (L' : List (List IV)) (S' U' : List Bool) (f : List UInt8) : Bool := fewB T I X C L S U && fewB T' I' X' C' L' S' U' && decide ((f.length : Int) ≤ 600)
def okFi (n : Int) (T : List Int) (I : List UInt8) (X : List (List IV)) (C : List UInt8) (L : List (List IV)) (S U : List Bool) (T' : List Int) (I' : List UInt8) (X' : List (List IV)) (C' : List UInt8) (L' : List (List IV)) (S' U' : List Bool) (f : List UInt8) : Prop := okBp T I X C L S U ∧ okBp T' I' X' C' L' S' U' ∧ (S'.length : Int) ≤ 1000000 ∧ (f.length : Int) ≤ 1000000
def sFewF : List AV → Option (List Prop × List AV)
  | [.agg [.imm (.int .i64 n), .imm (.ints .i64 T), .imm (.bytes I), .imm (.sl 3 X), .imm (.bytes C), .imm (.sl 2 L), .imm (.bools S), .imm (.bools U), .imm (.ints .i64 T'), .imm (.bytes I'), .imm (.sl 3 X'), .imm (.bytes C'), .imm (.sl 2 L'), .imm (.bools S'), .imm (.bools U'), .imm (.str f)]] => some ([], [bo (fewF n T I X C L S U T' I' X' C' L' S' U' f)])
  | _ => none
def sFile : List AV → Option (List Prop × List AV)
  | [.agg [.imm (.int .i64 n), .imm (.ints .i64 T), .imm (.bytes I), .imm (.sl 3 X), .imm (.bytes C), .imm (.sl 2 L), .imm (.bools S), .imm (.bools U), .imm (.ints .i64 T'), .imm (.bytes I'), .imm (.sl 3 X'), .imm (.bytes C'), .imm (.sl 2 L'), .imm (.bools S'), .imm (.bools U'), .imm (.str f)]] => some ([okFi n T I X C L S U T' I' X' C' L' S' U' f], [i64 (fiV n T I X C L S U T' I' X' C' L' S' U' f)])
  | _ => none
def F37 := addE (addE F36 18 sFewF) 19 sFile
def N26 : Cx := ⟨Tryz.prog, F37, noCall, G16, 4006⟩
end
attribute [local irreducible] loopK evCode evSpec loopB norm
theorem ok18e : ∀ args pres res, sFewF args = some (pres, res) → SpecOK Tryz.prog G16 18 args pres res := by
  intro args pres res h
  unfold sFewF at h
  split at h
  case h_2 => cases h
  cases h
  refine spec_ok (C := N25) okF36 noCall_ok Tryz.func18 (by kernel_rfl) (by kernel_rfl) (fun hp => ?_)
  exact Eq.mpr (g18_in _ _ _ _ _ _ _ _ _ _ _ _ _ _ _ _ _) rfl
theorem okB_of {T : List Int} {I : List UInt8} {X : List (List IV)} {C : List UInt8} {L : List (List IV)} {S U : List Bool} (h : okBp T I X C L S U) (hS : (S.length : Int) ≤ 1000000) : okB T I X C L S U := by
  obtain ⟨hX, hL, l1, l2, l3, l4, l5, l6⟩ := h
  have hb : (1000000 : Int) ≤ big' := by unfold big'; decide
  exact ⟨hX, hL, by omega, by omega, by omega, by omega, by omega, by omega, by omega⟩
theorem tys0 {X : List (List IV)} (h : okT X) (h0 : tys X = tys []) : X.length = 0 := by
  have := tys_len h
  rw [h0] at this
  exact this.symm
theorem lps0 {L : List (List IV)} (h : okL L) (h0 : lps L = lps []) : L.length = 0 := by
  have := h.1
  rw [h0] at this
  rw [this]; first | done | rfl
def okFile (n : Int) (T : List Int) (I : List UInt8) (X : List (List IV)) (C : List UInt8) (S U : List Bool) (T' : List Int) (I' : List UInt8) (X' : List (List IV)) (C' : List UInt8) (L' : List (List IV)) (S' U' : List Bool) (f : List UInt8) : Prop :=
  1 ≤ n ∧ n ≤ 4 ∧ okBl T I (tys X) C S U ∧ (n = 1 → f = [] ∧ T' = [] ∧ X'.length = 0 ∧ C' = [] ∧ L'.length = 0 ∧ S' = [] ∧ U' = []) ∧ (n ≠ 1 → okBl T' I' (tys X') C' S' U' ∧ cln f f.length)
theorem fi_ev (n : Int) (T : List Int) (I : List UInt8) (X : List (List IV)) (C : List UInt8) (L : List (List IV)) (S U : List Bool) (T' : List Int) (I' : List UInt8) (X' : List (List IV)) (C' : List UInt8) (L' : List (List IV)) (S' U' : List Bool) (f : List UInt8)
    (hp : okFi n T I X C L S U T' I' X' C' L' S' U' f) : (fiV n T I X C L S U T' I' X' C' L' S' U' f = 0 → okFile n T I X C S U T' I' X' C' L' S' U' f) ∧
    ∀ K : List AV → Prop, K [i64 (fiV n T I X C L S U T' I' X' C' L' S' U' f)] → evSpec N24 Tryz.f19 [.agg (fiC n T I X C L S U T' I' X' C' L' S' U' f)] K := by
  obtain ⟨p1, p2, p3, p4⟩ := hp
  have s4 : sz48 4 := sz4
  have s8 : sz48 8 := sz8
  unfold fiV
  cases c1 : (decide (n < 1) || decide (n > 4)) with
  | true =>
    rw [cond_true]
    refine ⟨fun h => absurd h (by decide), fun K hK => ?_⟩
    rw [g19_in]
    exact brn_T c1 hK
  | false =>
    have c1' := c1
    simp only [Bool.or_eq_false_iff, decide_eq_false_iff_not] at c1'
    have n1 : 1 ≤ n := by omega
    have n4 : n ≤ 4 := by omega
    rw [cond_false]
    cases c2 : (blV T I (tys X) C (lps L) S U n 4 != 0) with
    | true =>
      rw [cond_true]
      refine ⟨fun h => absurd h (bne_iff_ne.mp c2), fun K hK => ?_⟩
      rw [g19_in]
      exact brn_Fa c1 ⟨p1, s4, brn_T c2 hK⟩
    | false =>
      have hb1 := bl_sp p1 s4 (bne_eq_false_iff_eq.mp c2)
      rw [cond_false]
      cases c3 : (n == 1) with
      | true =>
        have hn : n = 1 := eq_of_beq c3
        rw [cond_true]
        cases c4 : (!decide (f = []) || !sameK T' I' X' C' L' S' U' [] [] [] [] [] [] []) with
        | true =>
          rw [cond_true]
          refine ⟨fun h => absurd h (by decide), fun K hK => ?_⟩
          rw [g19_in]
          exact brn_Fa c1 ⟨p1, s4, brn_Fa c2 (brn_T c3 ⟨fun _ => okB_of p2 p3, fun _ => okB_zero, brn_T c4 hK⟩)⟩
        | false =>
          rw [cond_false]
          refine ⟨fun _ => ⟨n1, n4, hb1, fun _ => ?_, fun h => absurd hn h⟩, fun K hK => ?_⟩
          · have c4' := c4
            unfold sameK at c4'
            simp only [Bool.or_eq_false_iff, Bool.not_eq_false', Bool.and_eq_true, decide_eq_true_eq] at c4'
            obtain ⟨f0, t0, i0, x0, ch0, q0, st0, ut0⟩ := c4'
            exact ⟨f0, t0, tys0 p2.1 x0, ch0, lps0 p2.2.1 q0, st0, ut0⟩
          · rw [g19_in]
            exact brn_Fa c1 ⟨p1, s4, brn_Fa c2 (brn_T c3 ⟨fun _ => okB_of p2 p3, fun _ => okB_zero, brn_Fa c4 hK⟩)⟩
      | false =>
        have hn : n ≠ 1 := fun h => by rw [h] at c3; exact absurd c3 (by decide)
        rw [cond_false]
        cases c5 : (blV T' I' (tys X') C' (lps L') S' U' n 8 != 0) with
        | true =>
          rw [cond_true]
          refine ⟨fun h => absurd h (bne_iff_ne.mp c5), fun K hK => ?_⟩
          rw [g19_in]
          exact brn_Fa c1 ⟨p1, s4, brn_Fa c2 (brn_Fa c3 ⟨p2, s8, brn_T c5 hK⟩)⟩
        | false =>
          have hb2 := bl_sp p2 s8 (bne_eq_false_iff_eq.mp c5)
          have hft := Classical.epsilon_spec (ft_ex n T I X C L S U T' I' X' C' L' S' U' f p2 hb2 p4)
          rw [cond_false]
          refine ⟨fun h => ⟨n1, n4, hb1, fun h => absurd h hn, fun _ => ⟨hb2, hft.1 h⟩⟩, fun K hK => ?_⟩
          rw [g19_in]
          exact brn_Fa c1 ⟨p1, s4, brn_Fa c2 (brn_Fa c3 ⟨p2, s8, brn_Fa c5 ⟨p2, hb2, p4, hK⟩⟩)⟩
theorem ok19e : ∀ args pres res, sFile args = some (pres, res) → SpecOK Tryz.prog G16 19 args pres res := by
  intro args pres res h
  unfold sFile at h
  split at h
  case h_2 => cases h
  cases h
  exact spec_ok (C := N24) okF36 noCall_ok Tryz.func19 (by kernel_rfl) (by kernel_rfl) (fun hp => (fi_ev _ _ _ _ _ _ _ _ _ _ _ _ _ _ _ _ (hp _ (by simp))).2 _ rfl)
theorem okF37 : EOK Tryz.prog F37 G16 := addE_ok (addE_ok okF36 ok18e) ok19e
end Y27
set_option maxRecDepth 100000
namespace Y27
open Go Go.AE Go.Proofs E6
attribute [local irreducible] loopK evCode evSpec loopB norm
theorem g20_in (n : Int) (T : List Int) (I : List UInt8) (X : List (List IV)) (C : List UInt8) (L : List (List IV)) (S : List Bool) (U : List Bool) (T' : List Int) (I' : List UInt8) (X' : List (List IV)) (C' : List UInt8) (L' : List (List IV)) (S' : List Bool) (U' : List Bool) (f : List UInt8) (K : List AV → Prop) (Q1 : Hd) (hQ1 : Q1 = (hdOf T X C L S U n)) (Q2 : List UInt8) (hQ2 : Q2 = (hdB (Hd.mk (Hd.v Q1) (Hd.iu Q1) (Hd.is Q1) (Hd.l Q1) (Hd.t Q1) (Hd.ty Q1) (Hd.c Q1)))) (Q3 : List UInt8) (hQ3 : Q3 = (encB T I (tys X) C (lps L) S U (4 : Int).toNat)) (Q4 : Hd) (hQ4 : Q4 = (hdOf T' X' C' L' S' U' n)) (Q5 : List UInt8) (hQ5 : Q5 = (hdB (Hd.mk (Hd.v Q4) (Hd.iu Q4) (Hd.is Q4) (Hd.l Q4) (Hd.t Q4) (Hd.ty Q4) (Hd.c Q4)))) (Q6 : List UInt8) (hQ6 : Q6 = (encB T' I' (tys X') C' (lps L') S' U' (8 : Int).toNat)) : evSpec N26 Tryz.f20 [.agg (fiC n T I X C L S U T' I' X' C' L' S' U' f)] K = ( okFi n T I X C L S U T' I' X' C' L' S' U' f ∧ brn (fiV n T I X C L S U T' I' X' C' L' S' U' f != 0) (K [AV.new (IV.bytes []), i64 (fiV n T I X C L S U T' I' X' C' L' S' U' f)]) ((1 : Int) ≤ Hd.v Q1 ∧ Hd.v Q1 ≤ 4 ∧ okH (Hd.mk (Hd.v Q1) (Hd.iu Q1) (Hd.is Q1) (Hd.l Q1) (Hd.t Q1) (Hd.ty Q1) (Hd.c Q1)) ∧ Y27.okE
 T I X C L S U ∧ sz48 (4 : Int) ∧ (List.length Q2 + List.length Q3) * 1 ≤ 140737488355328 ∧ List.length Q2 + List.length Q3 ≤ 140737488355328 ∧ brn (n == 1) (K [AV.new (IV.bytes (Q2 ++ Q3)), i64 0]) ((1 : Int) ≤ Hd.v Q4 ∧ Hd.v Q4 ≤ 4 ∧ okH (Hd.mk (Hd.v Q4) (Hd.iu Q4) (Hd.is Q4) (Hd.l Q4) (Hd.t Q4) (Hd.ty Q4) (Hd.c Q4)) ∧ ((Q2 ++ Q3).length + List.length Q5) * 1 ≤ 140737488355328 ∧ (Q2 ++ Q3).length + List.length Q5 ≤ 140737488355328 ∧ Y27.okE T' I' X' C' L' S' U' ∧ sz48 (8 : Int) ∧ ((Q2 ++ Q3 ++ Q5).length + List.length Q6) * 1 ≤ 140737488355328 ∧ (Q2 ++ Q3 ++ Q5).length + List.length Q6 ≤ 140737488355328 ∧ ((Q2 ++ Q3 ++ Q5 ++ Q6).length + (List.map u8 [(10 : Int)]).length) * 1 ≤ 140737488355328 ∧ (Q2 ++ Q3 ++ Q5 ++ Q6).length + (List.map u8 [(10 : Int)]).length ≤ 140737488355328 ∧ f.length ≤ 140737488355328 ∧ ((Q2 ++ Q3 ++ Q5 ++ Q6 ++ List.map u8 [(10 : Int)]).length + f.length) * 1 ≤ 140737488355328 ∧ (Q2 ++ Q3 ++ Q5 ++ Q6 ++ List.map u8 [(10 : Int)]).length + f.length ≤ 140737488355328 ∧ ((Q2 ++ Q3 ++ Q5 ++ Q6 ++ List.map u8 [(10 : Int)] ++ f).length + (List.map u8 [(10 : Int)]).length) * 1 ≤ 140737488355328 ∧ (Q2 ++ Q3 ++ Q5 ++ Q6 ++ List.map u8 [(10 : Int)] ++ f).length +
 (List.map u8 [(10 : Int)]).length ≤ 140737488355328 ∧ K [AV.new (IV.bytes (Q2 ++ Q3 ++ Q5 ++ Q6 ++ List.map u8 [(10 : Int)] ++ f ++ List.map u8 [(10 : Int)])), i64 0]))) := by subst hQ6; subst hQ5; subst hQ4; subst hQ3; subst hQ2; subst hQ1; kernel_rfl
end Y27
set_option maxRecDepth 100000
namespace Y27
open Go Go.AE Go.Proofs E6
theorem part_bound {c : Cu} {s : Int} (hc : okU c) (hs : sz48 s) (he : (hdU c).2.e = 0) : 0 ≤ cntP c s ∧ cntP c s ≤ (c.d.length : Int) - c.p - 44 ∧ ((nextP c s).e = 0 → c.p + 44 + cntP c s ≤ (nextP c s).p ∧ okU (nextP c s) ∧ (nextP c s).d = c.d) := by
  obtain ⟨p1, p2, p3, p4, p5⟩ := hd_pos he
  have hh := okH_hd c
  have e1 := elems_rng hh
  have e2 := elems_sum hh hs
  have hr : restU (hdU c).2 = (c.d.length : Int) - c.p - 44 := by
    rw [p2]
    show (if (0 : Int) = 0 then (c.d.length : Int) - (c.p + 44) else 0) = _
    rw [if_pos rfl]; omega
  refine ⟨?_, ?_, fun hn => ?_⟩
  · unfold cntP cntU; split <;> omega
  · unfold cntP cntU; split
    · omega
    · omega
  · obtain ⟨d1, d2, d3, d4⟩ := dec_e0 (k := (hdU c).2) (h := (hdU c).1) hn
    have hN : nextP c s = ⟨(hdU c).2.d, (hdU c).2.p + sumU (hdU c).1 s, 0, (hdU c).2.a⟩ := congrArg Prod.snd d4
    have hdd : (nextP c s).d = c.d := by rw [hN]; exact hd_d c
    refine ⟨?_, okU_dec (okU_hd hc) hh hs, hdd⟩
    rw [hN, p2]
    show c.p + 44 + cntP c s ≤ c.p + 44 + sumU (hdU c).1 s
    unfold cntP cntU; split <;> omega
theorem foot_bound {c : Cu} (hc : okU c) : 0 ≤ footU c ∧ footU c ≤ (c.d.length : Int) - c.p := by
  obtain ⟨o1, o2, o3⟩ := hc
  unfold footU
  split
  · omega
  · rename_i he
    have he' : (expU c nlC 14).e = 0 := Classical.byContradiction he
    obtain ⟨a1, a2, a3, a4⟩ := exp_e0 (by decide) he'
    rw [a4]
    show 0 ≤ (if 0 ≤ ixB (c.d.drop (c.p + 1).toNat) 10 then ixB (c.d.drop (c.p + 1).toNat) 10 else 0) ∧ (if 0 ≤ ixB (c.d.drop (c.p + 1).toNat) 10 then ixB (c.d.drop (c.p + 1).toNat) 10 else 0) ≤ _
    have hx := ixB_rng (c.d.drop (c.p + 1).toNat) 10
    rw [restU_of a1] at a2
    have h1 : (nlC.length : Int) = 1 := rfl
    rw [List.length_drop] at hx
    split <;> omega
theorem measB_bound {A L : Int} {c : Cu} (hc : okU c) : ∃ n : Int, 0 ≤ n ∧ n ≤ (c.d.length : Int) - c.p ∧ (measB A L c = (A + n, L + n) ∨ measB A L c = (A + n, L + 6 + n)) := by
  have o := hc.2.1
  unfold measB
  split
  · exact ⟨0, Int.le_refl 0, by omega, .inl (by rw [Int.add_zero, Int.add_zero])⟩
  · rename_i he
    have he' : (hdU c).2.e = 0 := Classical.byContradiction he
    obtain ⟨b1, b2, b3⟩ := part_bound hc sz8 he'
    by_cases hn : (nextP c 8).e = 0
    · obtain ⟨k1, k2, k3⟩ := b3 hn
      obtain ⟨f1, f2⟩ := foot_bound k2
      rw [k3] at f2
      exact ⟨cntP c 8 + footU (nextP c 8), by omega, by omega, .inr (by simp only [Prod.mk.injEq]; constructor <;> omega)⟩
    · rw [foot_stick hn]
      exact ⟨cntP c 8, by omega, by omega, .inr (by simp only [Prod.mk.injEq]; constructor <;> omega)⟩
theorem meas_bound {b : List UInt8} (hb : (b.length : Int) ≤ big') : ∃ k : Int, 0 ≤ k ∧ k ≤ 12 ∧ 0 ≤ (measU b).1 ∧ (measU b).1 ≤ (b.length : Int) ∧ (measU b).2 = (measU b).1 + k := by
  have hbig : big' = 1000000000000 := rfl
  have o0 : okU ⟨b, 0, 0, 0⟩ := ⟨Int.le_refl 0, by show (0 : Int) ≤ (b.length : Int); omega, by show (b.length : Int) ≤ _; omega⟩
  unfold measU measA
  split
  · exact ⟨0, by decide, by decide, Int.le_refl 0, by show (0 : Int) ≤ _; omega, rfl⟩
  · rename_i he
    have he' : (hdU ⟨b, 0, 0, 0⟩).2.e = 0 := Classical.byContradiction he
    obtain ⟨b1, b2, b3⟩ := part_bound o0 sz4 he'
    have b2' : cntP ⟨b, 0, 0, 0⟩ 4 ≤ (b.length : Int) - 0 - 44 := b2
    split
    · exact ⟨6, by decide, by decide, b1, by show cntP ⟨b, 0, 0, 0⟩ 4 ≤ _; omega, by show 6 + _ = _; omega⟩
    · rename_i hv
      have hn : (nextP ⟨b, 0, 0, 0⟩ 4).e = 0 := Classical.byContradiction fun h => hv (.inl h)
      obtain ⟨k1, k2, k3⟩ := b3 hn
      have k1' : 0 + 44 + cntP ⟨b, 0, 0, 0⟩ 4 ≤ (nextP ⟨b, 0, 0, 0⟩ 4).p := k1
      have k3' : (nextP ⟨b, 0, 0, 0⟩ 4).d = b := k3
      obtain ⟨n, n0, n1, hm⟩ := measB_bound (A := cntP ⟨b, 0, 0, 0⟩ 4) (L := 6 + cntP ⟨b, 0, 0, 0⟩ 4) k2
      rw [k3'] at n1
      rcases hm with hm | hm <;> rw [hm]
      · exact ⟨6, by decide, by decide, by show 0 ≤ _ + n; omega, by show _ + n ≤ _; omega, by show _ + n = _ + n + 6; omega⟩
      · exact ⟨12, by decide, by decide, by show 0 ≤ _ + n; omega, by show _ + n ≤ _; omega, by show _ + 6 + n = _ + n + 12; omega⟩
def ext (c : Cu) (t : List UInt8) : Cu := ⟨c.d ++ t, c.p, c.e, c.a⟩
theorem adv_ext {c : Cu} {n : Int} (t : List UInt8) (h : (advU c n).e = 0) : advU (ext c t) n = ext (advU c n) t := by
  obtain ⟨a1, a2, a3, a4⟩ := adv_e0 h
  rw [restU_of a1] at a3
  rw [a4]
  have hr : n ≤ restU (ext c t) := by
    rw [restU_of (c := ext c t) a1]
    show n ≤ ((c.d ++ t).length : Int) - c.p
    rw [List.length_append]; omega
  unfold advU
  rw [if_pos (show (ext c t).e = 0 from a1), if_pos ⟨a2, hr⟩]
  first | done | rfl
theorem drop_ext {d t : List UInt8} {p n : Nat} (h : p + n ≤ d.length) : ((d ++ t).drop p).take n = (d.drop p).take n := by
  rw [List.drop_append_of_le_length (by omega), List.take_append_of_le_length (by rw [List.length_drop]; omega)]
theorem advOk_iff {c : Cu} {n : Int} : advOk c n = true ↔ (advU c n).e = 0 := by
  constructor
  · intro h
    have h' := of_decide_eq_true h
    unfold advU
    rw [if_pos h'.1, if_pos h'.2]
  · intro h
    obtain ⟨a1, a2, a3, _⟩ := adv_e0 h
    exact decide_eq_true ⟨a1, a2, a3⟩
theorem take_ext {c : Cu} {n : Int} (t : List UInt8) (hc : 0 ≤ c.p) (h : (advU c n).e = 0) : takeU (ext c t) n = takeU c n := by
  obtain ⟨a1, a2, a3, a4⟩ := adv_e0 h
  rw [restU_of a1] at a3
  have h1 : advOk (ext c t) n = true := advOk_iff.2 (by rw [adv_ext t h]; exact h)
  unfold takeU
  rw [if_pos h1, if_pos (advOk_iff.2 h)]
  show ((c.d ++ t).drop c.p.toNat).take n.toNat = _
  exact drop_ext (by omega)
theorem misI_congr {d d' w : List UInt8} (h : ∀ i, i < w.length → d.getD i 0 = d'.getD i 0) : misI d w = misI d' w := by
  cases hm : misI d' w with
  | none =>
    refine misI_none (fun j hj => ?_)
    unfold misI at hm
    rw [List.find?_eq_none] at hm
    have := hm j (List.mem_range.2 hj)
    rw [h j hj]
    simpa using this
  | some i =>
    unfold misI at hm
    rw [List.find?_range_eq_some] at hm
    obtain ⟨h1, h2, h3⟩ := hm
    have hi : i < w.length := by simpa using h2
    refine misI_some hi (fun j hj => ?_) ?_
    · rw [h j (by omega)]
      simpa using h3 j hj
    · rw [h i hi]
      simpa using h1
theorem getD_app {d t : List UInt8} {i : Nat} (h : i < d.length) : (d ++ t).getD i 0 = d.getD i 0 := by
  rw [List.getD_eq_getElem?_getD, List.getD_eq_getElem?_getD, List.getElem?_append_left h]
theorem exp_ext {c : Cu} {w : List UInt8} {y : Int} (t : List UInt8) (hc : 0 ≤ c.p) (hy : y ≠ 0) (h : (expU c w y).e = 0) : expU (ext c t) w y = ext (expU c w y) t := by
  obtain ⟨a1, a2, a3, a4⟩ := exp_e0 hy h
  have ha : (advU c w.length).e = 0 := by
    unfold advU
    rw [if_pos a1, if_pos ⟨by omega, a2⟩]
  rw [restU_of a1] at a2
  have hm : misI ((ext c t).d.drop (ext c t).p.toNat) w = none := by
    show misI ((c.d ++ t).drop c.p.toNat) w = none
    rw [← a3]
    refine misI_congr (fun i hi => ?_)
    rw [getD_drop, getD_drop]
    exact getD_app (by show c.p.toNat + i < c.d.length; omega)
  rw [a4]
  unfold expU
  rw [if_pos (advOk_iff.2 (by rw [adv_ext t ha]; exact ha)), hm]
  show advU (ext c t) w.length = _
  rw [adv_ext t ha, (adv_e0 ha).2.2.2]
theorem ver_ext {c : Cu} (t : List UInt8) (hc : 0 ≤ c.p) (h : (verU c).2.e = 0) : verU (ext c t) = ((verU c).1, ext (verU c).2 t) := by
  obtain ⟨a1, a2, a3, a4⟩ := ver_e0 h
  have ha : (advU c 1).e = 0 := by
    unfold advU
    rw [if_pos a1, if_pos ⟨by decide, a2⟩]
  rw [a4]
  unfold verU
  rw [adv_ext t ha, take_ext t hc ha, if_neg (show ¬ (ext (advU c 1) t).e ≠ 0 from fun x => x ha), if_neg a3, (adv_e0 ha).2.2.2]
theorem num4_ext {c : Cu} (t : List UInt8) (hc : 0 ≤ c.p) (h : (advU c 4).e = 0) : num4 (ext c t) = num4 c := by
  unfold num4
  rw [take_ext t hc h]
theorem hd_ext {c : Cu} (t : List UInt8) (hc : okU c) (h : (hdU c).2.e = 0) : hdU (ext c t) = ((hdU c).1, ext (hdU c).2 t) := by
  obtain ⟨h9, hcons, heq⟩ := hd_e c h
  have a8 := (adv_e0 (c := hq8 c) h9).1
  have a7 := (adv_e0 (c := hq7 c) a8).1
  have a6 := (adv_e0 (c := hq6 c) a7).1
  have a5 := (adv_e0 (c := hq5 c) a6).1
  have a4 := (adv_e0 (c := hq4 c) a5).1
  have a3 := (adv_e0 (c := hq3 c) a4).1
  have a2 := (exp_e0 (c := (hq2 c).2) (by decide) a3).1
  have a1 := (ver_e0 (c := hq1 c) a2).1
  have o1 : okU (hq1 c) := okU_exp hc
  have o2 : okU (hq2 c).2 := okU_ver o1
  have o3 : okU (hq3 c) := okU_exp o2
  have o4 : okU (hq4 c) := okU_adv o3
  have o5 : okU (hq5 c) := okU_adv o4
  have o6 : okU (hq6 c) := okU_adv o5
  have o7 : okU (hq7 c) := okU_adv o6
  have o8 : okU (hq8 c) := okU_adv o7
  have e1 : hq1 (ext c t) = ext (hq1 c) t := exp_ext t hc.1 (by decide) a1
  have e2 : hq2 (ext c t) = ((hq2 c).1, ext (hq2 c).2 t) := by
    show verU (hq1 (ext c t)) = _
    rw [e1]
    exact ver_ext t o1.1 a2
  have e3 : hq3 (ext c t) = ext (hq3 c) t := by
    show expU (hq2 (ext c t)).2 z15 5 = _
    rw [e2]
    exact exp_ext t o2.1 (by decide) a3
  have e4 : hq4 (ext c t) = ext (hq4 c) t := by
    show advU (hq3 (ext c t)) 4 = _
    rw [e3]; exact adv_ext t a4
  have e5 : hq5 (ext c t) = ext (hq5 c) t := by
    show advU (hq4 (ext c t)) 4 = _
    rw [e4]; exact adv_ext t a5
  have e6 : hq6 (ext c t) = ext (hq6 c) t := by
    show advU (hq5 (ext c t)) 4 = _
    rw [e5]; exact adv_ext t a6
  have e7 : hq7 (ext c t) = ext (hq7 c) t := by
    show advU (hq6 (ext c t)) 4 = _
    rw [e6]; exact adv_ext t a7
  have e8 : hq8 (ext c t) = ext (hq8 c) t := by
    show advU (hq7 (ext c t)) 4 = _
    rw [e7]; exact adv_ext t a8
  have e9 : hq9 (ext c t) = ext (hq9 c) t := by
    show advU (hq8 (ext c t)) 4 = _
    rw [e8]; exact adv_ext t h9
  have eH : hdRd (ext c t) = hdRd c := by
    unfold hdRd
    rw [e2, e3, e4, e5, e6, e7, e8, num4_ext t o3.1 a4, num4_ext t o4.1 a5, num4_ext t o5.1 a6, num4_ext t o6.1 a7, num4_ext t o7.1 a8, num4_ext t o8.1 h9]
  rw [heq]
  unfold hdU
  rw [if_pos (show (hq9 (ext c t)).e = 0 by rw [e9]; exact h9), eH, if_pos hcons, e9]
theorem pt_ext {d t : List UInt8} {o n : Int} (o0 : 0 ≤ o) (n0 : 0 ≤ n) (h : o + n ≤ (d.length : Int)) : pt (d ++ t) o n = pt d o n := by
  unfold pt
  exact drop_ext (by omega)
theorem dec_ext {k : Cu} {h : Hd} {s a : Int} (t : List UInt8) (hk : okU k) (hh : okH h) (hs : sz48 s) (he : (decU k h s a).2.e = 0) : decU (ext k t) h s a = ((decU k h s a).1, ext (decU k h s a).2 t) := by
  obtain ⟨d1, d2, d3, d4⟩ := dec_e0 he
  obtain ⟨q0, q1, q2, q3, q4, q5, q6, q7⟩ := sum_pos hh hs
  rw [restU_of d1] at d2
  obtain ⟨k1, k2, k3⟩ := hk
  have hl : (((k.d.drop k.p.toNat).length : Nat) : Int) = (k.d.length : Int) - k.p := by rw [List.length_drop]; omega
  have hdr : (ext k t).d.drop (ext k t).p.toNat = k.d.drop k.p.toNat ++ t := by
    show (k.d ++ t).drop k.p.toNat = _
    exact List.drop_append_of_le_length (by omega)
  have hsum : sumU h s = l0 h s + l1 h + l2 h + l3 h + l4 h s + l5 h + l6 h := rfl
  have hb0 : b0 (k.d.drop k.p.toNat ++ t) h s = b0 (k.d.drop k.p.toNat) h s := pt_ext (by decide) q0 (by omega)
  have hb1 : b1 (k.d.drop k.p.toNat ++ t) h s = b1 (k.d.drop k.p.toNat) h s := pt_ext (by unfold o1; omega) q1 (by unfold o1; omega)
  have hb2 : b2 (k.d.drop k.p.toNat ++ t) h s = b2 (k.d.drop k.p.toNat) h s := pt_ext (by unfold o2 o1; omega) q2 (by unfold o2 o1; omega)
  have hb3 : b3 (k.d.drop k.p.toNat ++ t) h s = b3 (k.d.drop k.p.toNat) h s := pt_ext (by unfold o3 o2 o1; omega) q3 (by unfold o3 o2 o1; omega)
  have hb4 : b4 (k.d.drop k.p.toNat ++ t) h s = b4 (k.d.drop k.p.toNat) h s := pt_ext (by unfold o4 o3 o2 o1; omega) q4 (by unfold o4 o3 o2 o1; omega)
  have hb5 : b5 (k.d.drop k.p.toNat ++ t) h s = b5 (k.d.drop k.p.toNat) h s := pt_ext (by unfold o5 o4 o3 o2 o1; omega) q5 (by unfold o5 o4 o3 o2 o1; omega)
  have hb6 : b6 (k.d.drop k.p.toNat ++ t) h s = b6 (k.d.drop k.p.toNat) h s := pt_ext (by unfold o6 o5 o4 o3 o2 o1; omega) q6 (by unfold o6 o5 o4 o3 o2 o1; omega)
  have hok : okD (k.d.drop k.p.toNat ++ t) h s = okD (k.d.drop k.p.toNat) h s := by
    unfold okD
    rw [hb2, hb5, hb6]
  have hdec : decB (k.d.drop k.p.toNat ++ t) h s = decB (k.d.drop k.p.toNat) h s := by
    unfold decB
    rw [hb0, hb1, hb2, hb3, hb4, hb5, hb6]
  have hf : fitsD (ext k t) h s = true := by
    refine decide_eq_true ?_
    rw [restU_of (c := ext k t) d1]
    show sumU h s ≤ ((k.d ++ t).length : Int) - k.p
    rw [List.length_append]; omega
  rw [d4]
  unfold decU
  rw [if_pos (show (ext k t).e = 0 from d1), if_pos hf, hdr, hok, if_pos d3, hdec]
  first | done | rfl
theorem ixB_app : ∀ (l t : List UInt8), 0 ≤ ixB l 10 → ixB (l ++ t) 10 = ixB l 10
  | [], t, h => by
    have : ixB [] 10 = -1 := rfl
    rw [this] at h
    cases h
  | b :: l, t, h => by
    unfold ixB at h ⊢
    rw [List.cons_append]
    unfold Lib.indexByte at h ⊢
    by_cases hb : (b == (Int.toNat 10).toUInt8) = true
    · rw [hb]; first | done | rfl
    · rw [Bool.eq_false_iff.2 hb] at h ⊢
      simp only [Bool.false_eq_true, if_false] at h ⊢
      have h0 : 0 ≤ ixB l 10 := by
        unfold ixB
        have hge := Lib.indexByte_ge l (Int.toNat 10).toUInt8
        split at h
        · cases h
        · rename_i hn
          simp only [beq_iff_eq] at hn
          omega
      have ih := ixB_app l t h0
      unfold ixB at ih
      rw [ih]
theorem foot_ext {c : Cu} (t : List UInt8) (hc : okU c) (he : c.e = 0) (ht : (((c.d ++ t).length : Nat) : Int) ≤ 1000000000000) : footU c ≤ footU (ext c t) := by
  have oE : okU (ext c t) := by
    obtain ⟨h1, h2, h3⟩ := hc
    refine ⟨h1, ?_, ht⟩
    show c.p ≤ ((c.d ++ t).length : Int)
    rw [List.length_append]; omega
  have g0 := (foot_bound oE).1
  by_cases h : (expU c nlC 14).e = 0
  · obtain ⟨a1, a2, a3, a4⟩ := exp_e0 (by decide) h
    have hx := exp_ext t hc.1 (by decide) h
    by_cases hi : 0 ≤ ixB ((expU c nlC 14).d.drop (expU c nlC 14).p.toNat) 10
    · have hd : (ext (expU c nlC 14) t).d.drop (ext (expU c nlC 14) t).p.toNat = (expU c nlC 14).d.drop (expU c nlC 14).p.toNat ++ t := by
        refine List.drop_append_of_le_length ?_
        rw [a4]
        rw [restU_of a1] at a2
        show (c.p + nlC.length).toNat ≤ c.d.length
        have := hc.1
        omega
      have e1 : footU c = ixB ((expU c nlC 14).d.drop (expU c nlC 14).p.toNat) 10 := by
        unfold footU
        rw [if_neg (fun x => x h), if_pos hi]
      have e2 : footU (ext c t) = ixB ((expU c nlC 14).d.drop (expU c nlC 14).p.toNat) 10 := by
        unfold footU
        rw [hx, hd, ixB_app _ _ hi, if_neg (show ¬ (ext (expU c nlC 14) t).e ≠ 0 from fun x => x h), if_pos hi]
      rw [e1, e2]; exact Int.le_refl _
    · have e1 : footU c = 0 := by
        unfold footU
        rw [if_neg (fun x => x h), if_neg hi]
      rw [e1]; exact g0
  · have e1 : footU c = 0 := by
      unfold footU
      rw [if_pos h]
    rw [e1]; exact g0
theorem okU_ext {c : Cu} {t : List UInt8} (hc : okU c) (ht : (((c.d ++ t).length : Nat) : Int) ≤ 1000000000000) : okU (ext c t) := by
  obtain ⟨h1, h2, h3⟩ := hc
  refine ⟨h1, ?_, ht⟩
  show c.p ≤ ((c.d ++ t).length : Int)
  rw [List.length_append]; omega
theorem cnt_ext {c : Cu} {s : Int} (t : List UInt8) (hc : okU c) (hs : sz48 s) (he : (hdU c).2.e = 0) (ht : (((c.d ++ t).length : Nat) : Int) ≤ 1000000000000) : cntP c s ≤ cntP (ext c t) s := by
  have hx := hd_ext t hc he
  obtain ⟨p1, p2, p3, p4, p5⟩ := hd_pos he
  have hn : 0 ≤ cntP (ext c t) s := (part_bound (okU_ext hc ht) hs (by rw [hx]; exact he)).1
  by_cases hf : sumU (hdU c).1 s ≤ restU (hdU c).2
  · have e1 : cntP c s = elems (hdU c).1 := by unfold cntP cntU; rw [if_pos hf]
    have hf' : sumU (hdU c).1 s ≤ restU (ext (hdU c).2 t) := by
      rw [restU_of he] at hf
      rw [restU_of (c := ext (hdU c).2 t) he]
      show _ ≤ (((hdU c).2.d ++ t).length : Int) - (hdU c).2.p
      rw [List.length_append]; omega
    have e2 : cntP (ext c t) s = elems (hdU c).1 := by
      unfold cntP cntU
      rw [hx]
      exact if_pos hf'
    rw [e1, e2]; exact Int.le_refl _
  · have e1 : cntP c s = 0 := by unfold cntP cntU; rw [if_neg hf]
    rw [e1]; exact hn
theorem next_ext {c : Cu} {s : Int} (t : List UInt8) (hc : okU c) (hs : sz48 s) (he : (hdU c).2.e = 0) (hn : (nextP c s).e = 0) : nextP (ext c t) s = ext (nextP c s) t := by
  have hx := hd_ext t hc he
  unfold nextP at hn ⊢
  rw [hx]
  show (decU (ext (hdU c).2 t) (hdU c).1 s 0).2 = _
  rw [dec_ext t (okU_hd hc) (okH_hd c) hs hn]
theorem measB_ext {A L A' L' : Int} {c : Cu} (t : List UInt8) (hc : okU c) (hA : A ≤ A') (hL : L ≤ L') (ht : (((c.d ++ t).length : Nat) : Int) ≤ 1000000000000) : (measB A L c).1 ≤ (measB A' L' (ext c t)).1 ∧ (measB A L c).2 ≤ (measB A' L' (ext c t)).2 := by
  by_cases he : (hdU c).2.e = 0
  · have hx := hd_ext t hc he
    have h1 := cnt_ext (s := 8) t hc sz8 he ht
    have hE : (hdU (ext c t)).2.e = 0 := by rw [hx]; exact he
    have e1 : measB A L c = (A + cntP c 8 + footU (nextP c 8), L + 6 + cntP c 8 + footU (nextP c 8)) := by unfold measB; rw [if_neg (fun x => x he)]
    have e2 : measB A' L' (ext c t) = (A' + cntP (ext c t) 8 + footU (nextP (ext c t) 8), L' + 6 + cntP (ext c t) 8 + footU (nextP (ext c t) 8)) := by unfold measB; rw [if_neg (fun x => x hE)]
    have hf : footU (nextP c 8) ≤ footU (nextP (ext c t) 8) := by
      by_cases hn : (nextP c 8).e = 0
      · obtain ⟨_, _, b3⟩ := part_bound hc sz8 he
        obtain ⟨k1, k2, k3⟩ := b3 hn
        rw [next_ext t hc sz8 he hn]
        exact foot_ext t k2 hn (by rw [k3]; exact ht)
      · rw [foot_stick hn]
        exact (foot_bound (okU_dec (okU_hd (okU_ext hc ht)) (okH_hd _) sz8)).1
    rw [e1, e2]
    constructor
    · show A + _ + _ ≤ A' + _ + _; omega
    · show L + 6 + _ + _ ≤ L' + 6 + _ + _; omega
  · have e1 : measB A L c = (A, L) := by unfold measB; rw [if_pos he]
    obtain ⟨n, n0, _, hm⟩ := measB_bound (A := A') (L := L') (okU_ext hc ht)
    rw [e1]
    rcases hm with hm | hm <;> rw [hm]
    · constructor
      · show A ≤ A' + n; omega
      · show L ≤ L' + n; omega
    · constructor
      · show A ≤ A' + n; omega
      · show L ≤ L' + 6 + n; omega
theorem meas_ext {b t : List UInt8} (ht : (((b ++ t).length : Nat) : Int) ≤ big') : (measU b).1 ≤ (measU (b ++ t)).1 ∧ (measU b).2 ≤ (measU (b ++ t)).2 := by
  have hbig : big' = 1000000000000 := rfl
  have hl : (b ++ t).length = b.length + t.length := List.length_append
  have hb : (b.length : Int) ≤ big' := by omega
  have o0 : okU ⟨b, 0, 0, 0⟩ := ⟨Int.le_refl 0, by show (0 : Int) ≤ (b.length : Int); omega, by show (b.length : Int) ≤ _; omega⟩
  have ht' : ((((⟨b, 0, 0, 0⟩ : Cu).d ++ t).length : Nat) : Int) ≤ 1000000000000 := by rw [← hbig]; exact ht
  have hE : (⟨b ++ t, 0, 0, 0⟩ : Cu) = ext ⟨b, 0, 0, 0⟩ t := rfl
  obtain ⟨k, k0, k1, m1, m2, m3⟩ := meas_bound ht
  by_cases he : (hdU ⟨b, 0, 0, 0⟩).2.e = 0
  · have hx := hd_ext t o0 he
    have hEe : (hdU (ext ⟨b, 0, 0, 0⟩ t)).2.e = 0 := by rw [hx]; exact he
    have h1 := cnt_ext (s := 4) t o0 sz4 he ht'
    by_cases hv : (nextP ⟨b, 0, 0, 0⟩ 4).e ≠ 0 ∨ (hdU ⟨b, 0, 0, 0⟩).1.v < 2
    · have e1 : measU b = (cntP ⟨b, 0, 0, 0⟩ 4, 6 + cntP ⟨b, 0, 0, 0⟩ 4) := by
        unfold measU measA
        rw [if_neg (fun x => x he), if_pos hv]
      rw [e1]
      have e2 : cntP (ext ⟨b, 0, 0, 0⟩ t) 4 ≤ (measU (b ++ t)).1 ∧ 6 + cntP (ext ⟨b, 0, 0, 0⟩ t) 4 ≤ (measU (b ++ t)).2 := by
        unfold measU measA
        rw [hE, if_neg (fun x => x hEe)]
        split
        · exact ⟨Int.le_refl _, Int.le_refl _⟩
        · have oN : okU (nextP (ext ⟨b, 0, 0, 0⟩ t) 4) := okU_dec (okU_hd (okU_ext o0 ht')) (okH_hd _) sz4
          obtain ⟨n, n0, _, hm⟩ := measB_bound (A := cntP (ext ⟨b, 0, 0, 0⟩ t) 4) (L := 6 + cntP (ext ⟨b, 0, 0, 0⟩ t) 4) oN
          rcases hm with hm | hm <;> rw [hm]
          · constructor
            · show _ ≤ _ + n; omega
            · show _ ≤ _ + n; omega
          · constructor
            · show _ ≤ _ + n; omega
            · show _ ≤ _ + 6 + n; omega
      exact ⟨Int.le_trans h1 e2.1, by show 6 + cntP ⟨b, 0, 0, 0⟩ 4 ≤ _; omega⟩
    · have hn : (nextP ⟨b, 0, 0, 0⟩ 4).e = 0 := Classical.byContradiction fun h => hv (.inl h)
      have hN := next_ext t o0 sz4 he hn
      obtain ⟨_, _, b3⟩ := part_bound o0 sz4 he
      obtain ⟨q1, q2, q3⟩ := b3 hn
      have hv' : ¬ ((nextP (ext ⟨b, 0, 0, 0⟩ t) 4).e ≠ 0 ∨ (hdU (ext ⟨b, 0, 0, 0⟩ t)).1.v < 2) := by
        rw [hN, hx]
        exact hv
      have e1 : measU b = measB (cntP ⟨b, 0, 0, 0⟩ 4) (6 + cntP ⟨b, 0, 0, 0⟩ 4) (nextP ⟨b, 0, 0, 0⟩ 4) := by
        unfold measU measA
        rw [if_neg (fun x => x he), if_neg hv]
      have e2 : measU (b ++ t) = measB (cntP (ext ⟨b, 0, 0, 0⟩ t) 4) (6 + cntP (ext ⟨b, 0, 0, 0⟩ t) 4) (ext (nextP ⟨b, 0, 0, 0⟩ 4) t) := by
        unfold measU measA
        rw [hE, if_neg (fun x => x hEe), if_neg hv', hN]
      rw [e1, e2]
      exact measB_ext t q2 h1 (by omega) (by rw [q3]; exact ht')
  · have e1 : measU b = (0, 0) := by
      unfold measU measA
      rw [if_pos he]
    rw [e1]
    exact ⟨m1, by show (0 : Int) ≤ _; omega⟩
end Y27
set_option maxRecDepth 100000
namespace E6
open Go Go.AE Go.Proofs
theorem ofNat_toNat (b : UInt8) : UInt8.ofNat b.toNat = b := by simp
theorem toNat_ofNat (n : Nat) : (UInt8.ofNat (n % 256)).toNat = n % 256 := by simp
theorem beN_be : ∀ (n v : Nat), beN (be n v) = v % 256 ^ n
  | 0, v => by simp [be, beN, Nat.mod_one]
  | n + 1, v => by
    rw [be, beN_app, beN_be n (v / 256), toNat_ofNat, Nat.pow_succ, Nat.mul_comm (256 ^ n) 256, Nat.mod_mul, Nat.mul_comm, Nat.add_comm]
theorem sgn_u64 {o : Int} (h0 : -2147483648 ≤ o) (h1 : o ≤ 2147483647) : sgnN 4 (u64 o % 256 ^ 4) = o := by
  unfold sgnN u64
  simp only [Nat.reducePow, Nat.reduceMul, Nat.reduceSub]
  split <;> omega
theorem u8_toNat {g : Int} (h0 : 0 ≤ g) (h1 : g ≤ 255) : ((u8 g).toNat : Int) = g := by
  unfold u8
  rw [UInt8.toNat_ofNat']
  omega
theorem recB_enc {t : Ty} (h : okTy t) (r : List UInt8) : recB (enc1 t ++ r) = t ∧ ((enc1 t ++ r).getD 4 0).toNat ≤ 1 := by
  obtain ⟨h0, h1, h2, h3⟩ := h
  have hl := be_len 4 (u64 t.o)
  have e4 : (enc1 t ++ r).take 4 = be 4 (u64 t.o) := by
    unfold enc1
    rw [List.append_assoc, List.take_append_of_le_length (by omega), List.take_of_length_le (by omega)]
  have g4 : (enc1 t ++ r).getD 4 0 = (if t.d then 1 else 0) := by
    unfold enc1
    rw [List.append_assoc, List.getD_eq_getElem?_getD, List.getElem?_append_right (by omega), hl]
    first | done | rfl
  have g5 : (enc1 t ++ r).getD 5 0 = u8 t.g := by
    unfold enc1
    rw [List.append_assoc, List.getD_eq_getElem?_getD, List.getElem?_append_right (by omega), hl]
    first | done | rfl
  unfold recB
  rw [e4, g4, g5, beN_be, sgn_u64 h0 h1, u8_toNat h2 h3]
  refine ⟨?_, by split <;> decide⟩
  cases t with
  | mk o d g => cases d <;> rfl
theorem enc_drop : ∀ (L : List Ty) (i : Nat), (enc L).drop (6 * i) = enc (L.drop i)
  | [], i => by simp [enc]
  | t :: L, 0 => rfl
  | t :: L, i + 1 => by
    rw [enc, List.drop_succ_cons, ← enc_drop L i, show 6 * (i + 1) = (enc1 t).length + 6 * i by rw [enc1_len]; omega, ← List.drop_drop, List.drop_left]
theorem drop_cons {L : List Ty} {i : Nat} (h : i < L.length) : L.drop i = L.getD i t0 :: L.drop (i + 1) := by
  rw [List.drop_eq_getElem_cons h, List.getD_eq_getElem?_getD, List.getElem?_eq_getElem h]
  first | done | rfl
theorem dec_enc_at {L : List Ty} (hL : ∀ t ∈ L, okTy t) : ∀ k, k ≤ L.length → recs (enc L) k = L.take k ∧ flags (enc L) k = true
  | 0, _ => ⟨rfl, rfl⟩
  | k + 1, hk => by
    obtain ⟨h1, h2⟩ := dec_enc_at hL k (by omega)
    have hr := recB_enc (hL _ (memD t0 (show k < L.length by omega))) (enc (L.drop (k + 1)))
    have e : (enc L).drop (6 * k) = enc1 (L.getD k t0) ++ enc (L.drop (k + 1)) := by rw [enc_drop, drop_cons (by omega), enc]
    rw [← e] at hr
    constructor
    · rw [recs, h1, hr.1, takeS t0 (by omega)]
    · rw [flags, h2, ← getD_drop', decide_eq_true hr.2]
      first | done | rfl
theorem dec_enc {L : List Ty} (hL : ∀ t ∈ L, okTy t) : dec (enc L) = L ∧ decOk (enc L) = true := by
  have hk : (enc L).length / 6 = L.length := by rw [enc_len]; omega
  obtain ⟨h1, h2⟩ := dec_enc_at hL L.length (Nat.le_refl _)
  unfold dec decOk
  rw [hk, h2, if_pos rfl, h1, List.take_length]
  exact ⟨rfl, rfl⟩
end E6
set_option maxRecDepth 100000
namespace Y27
open Go Go.AE Go.Proofs E6
def At (c : Cu) (x : List UInt8) : Prop := c.e = 0 ∧ okU c ∧ c.d.drop c.p.toNat = x
def mv (c : Cu) (n : Nat) : Cu := ⟨c.d, c.p + n, 0, c.a⟩
theorem at_len {c : Cu} {x : List UInt8} (h : At c x) : (x.length : Int) = (c.d.length : Int) - c.p := by
  obtain ⟨h1, ⟨h2, h3, h4⟩, h5⟩ := h
  rw [← h5, List.length_drop]
  omega
theorem at_adv {c : Cu} {x y : List UInt8} (h : At c (x ++ y)) : advU c x.length = mv c x.length ∧ At (mv c x.length) y := by
  have hl := at_len h
  obtain ⟨h1, ⟨h2, h3, h4⟩, h5⟩ := h
  rw [List.length_append] at hl
  have hr : (x.length : Int) ≤ restU c := by rw [restU_of h1]; omega
  refine ⟨?_, rfl, ⟨by show 0 ≤ c.p + _; omega, by show c.p + _ ≤ (c.d.length : Int); omega, h4⟩, ?_⟩
  · unfold advU
    rw [if_pos h1, if_pos ⟨by omega, hr⟩]
    first | done | rfl
  · show c.d.drop (c.p + (x.length : Int)).toNat = y
    have e : (c.p + (x.length : Int)).toNat = c.p.toNat + x.length := by omega
    rw [e, ← List.drop_drop, h5, List.drop_left]
theorem at_take {c : Cu} {x y : List UInt8} (h : At c (x ++ y)) : takeU c x.length = x := by
  have ha := (at_adv h).1
  have hok : advOk c x.length = true := advOk_iff.2 (by rw [ha]; rfl)
  obtain ⟨h1, h2, h5⟩ := h
  unfold takeU
  rw [if_pos hok, h5, Int.toNat_natCast, List.take_left]
theorem at_exp {c : Cu} {x y : List UInt8} (h : At c (x ++ y)) (w : Int) : expU c x w = mv c x.length ∧ At (mv c x.length) y := by
  obtain ⟨ha, hb⟩ := at_adv h
  refine ⟨?_, hb⟩
  have hok : advOk c x.length = true := advOk_iff.2 (by rw [ha]; rfl)
  have hm : misI (c.d.drop c.p.toNat) x = none := misI_none (fun j hj => by rw [h.2.2]; exact getD_app hj)
  unfold expU
  rw [if_pos hok, hm]
  exact ha
def vB (v : Int) : UInt8 := u8 (if v = 1 then 0 else 48 + v)
theorem at_ver {c : Cu} {v : Int} {y : List UInt8} (h : At c ([vB v] ++ y)) (v1 : 1 ≤ v) (v4 : v ≤ 4) : verU c = (v, mv c 1) ∧ At (mv c 1) y := by
  obtain ⟨ha, hb⟩ := at_adv h
  refine ⟨?_, hb⟩
  have ha' : advU c 1 = mv c 1 := ha
  have ht : takeU c 1 = [vB v] := at_take h
  have hv : verB (uintP [vB v] 0 1) = v := by
    have hk : v = 1 ∨ v = 2 ∨ v = 3 ∨ v = 4 := by omega
    rcases hk with rfl | rfl | rfl | rfl <;> decide
  unfold verU
  rw [ha', ht, hv, if_neg (show ¬ ((mv c 1).e ≠ 0) from fun h => h rfl), if_neg (by omega)]
theorem at_num {c : Cu} {n : Int} {y : List UInt8} (h : At c (be 4 n.toNat ++ y)) (hn : U32 n) : num4 c = n ∧ advU c 4 = mv c 4 ∧ At (mv c 4) y := by
  have hl : (be 4 n.toNat).length = 4 := be_len 4 _
  obtain ⟨ha, hb⟩ := at_adv h
  have ht := at_take h
  rw [hl] at ha hb ht
  refine ⟨?_, ha, hb⟩
  have ht' : takeU c 4 = be 4 n.toNat := ht
  obtain ⟨n0, n1⟩ := hn
  have hu : uintP (be 4 n.toNat) 0 4 = n.toNat := by
    unfold uintP okR
    rw [if_pos (by rw [hl]; decide), List.drop_zero, List.take_of_length_le (by rw [hl]; exact Nat.le_refl _), beN_be]
    omega
  unfold num4
  rw [ht', hu]
  have : IntKind.wrap .u32 ((n.toNat : Nat) : Int) = ((n.toNat : Nat) : Int) % 4294967296 := by
    unfold IntKind.wrap
    simp only [IntKind.signed, IntKind.bits, Bool.false_and, Bool.false_eq_true, if_false]
    omega
  rw [this]
  omega
theorem hdB_eq (h : Hd) (t : List UInt8) : hdB h ++ t = magC ++ ([vB h.v] ++ (z15 ++ (be 4 h.iu.toNat ++ (be 4 h.is.toNat ++ (be 4 h.l.toNat ++ (be 4 h.t.toNat ++ (be 4 h.ty.toNat ++ (be 4 h.c.toNat ++ t)))))))) := by
  have e : hd0 h.v = magC ++ ([vB h.v] ++ z15) := rfl
  unfold hdB
  rw [e]
  simp only [List.append_assoc]
theorem hdB_len (h : Hd) : (hdB h).length = 44 := by
  have := congrArg List.length (hdB_eq h [])
  simp only [List.length_append, be_len, List.append_nil] at this
  rw [this]
  first | done | rfl
theorem mv_mv (c : Cu) (n m : Nat) : mv (mv c n) m = mv c (n + m) := by
  unfold mv
  simp only [Cu.mk.injEq, true_and, and_true]
  omega
theorem at_hd {c : Cu} {h : Hd} {t : List UInt8} (hc : At c (hdB h ++ t)) (v1 : 1 ≤ h.v) (v4 : h.v ≤ 4) (hh : okH h) (hcons : consH h = true) : hdU c = (h, mv c 44) ∧ At (mv c 44) t := by
  rw [hdB_eq] at hc
  obtain ⟨a1, a2, a3, a4, a5, a6⟩ := hh
  obtain ⟨e1, k1⟩ := at_exp hc 3
  have e1' : hq1 c = mv c 4 := e1
  obtain ⟨e2, k2⟩ := at_ver k1 v1 v4
  have e2' : hq2 c = (h.v, mv (mv c 4) 1) := by
    show verU (hq1 c) = _
    rw [e1']; exact e2
  obtain ⟨e3, k3⟩ := at_exp k2 5
  have e3' : hq3 c = mv (mv (mv c 4) 1) 15 := by
    show expU (hq2 c).2 z15 5 = _
    rw [e2']; exact e3
  obtain ⟨n1, e4, k4⟩ := at_num k3 a1
  have k3' : z15.length = 15 := rfl
  have m3 : magC.length = 4 := rfl
  rw [k3', m3] at n1 e4 k4
  obtain ⟨n2, e5, k5⟩ := at_num k4 a2
  obtain ⟨n3, e6, k6⟩ := at_num k5 a3
  obtain ⟨n4, e7, k7⟩ := at_num k6 a4
  obtain ⟨n5, e8, k8⟩ := at_num k7 a5
  obtain ⟨n6, e9, k9⟩ := at_num k8 a6
  have f4 : hq4 c = mv (mv (mv (mv c 4) 1) 15) 4 := by
    show advU (hq3 c) 4 = _
    rw [e3']; exact e4
  have f5 : hq5 c = mv (mv (mv (mv (mv c 4) 1) 15) 4) 4 := by
    show advU (hq4 c) 4 = _
    rw [f4]; exact e5
  have f6 : hq6 c = mv (mv (mv (mv (mv (mv c 4) 1) 15) 4) 4) 4 := by
    show advU (hq5 c) 4 = _
    rw [f5]; exact e6
  have f7 : hq7 c = mv (mv (mv (mv (mv (mv (mv c 4) 1) 15) 4) 4) 4) 4 := by
    show advU (hq6 c) 4 = _
    rw [f6]; exact e7
  have f8 : hq8 c = mv (mv (mv (mv (mv (mv (mv (mv c 4) 1) 15) 4) 4) 4) 4) 4 := by
    show advU (hq7 c) 4 = _
    rw [f7]; exact e8
  have f9 : hq9 c = mv (mv (mv (mv (mv (mv (mv (mv (mv c 4) 1) 15) 4) 4) 4) 4) 4) 4 := by
    show advU (hq8 c) 4 = _
    rw [f8]; exact e9
  have hrd : hdRd c = h := by
    unfold hdRd
    rw [e2', e3', f4, f5, f6, f7, f8, n1, n2, n3, n4, n5, n6]
  have f9' : hq9 c = mv c 44 := by
    rw [f9]
    simp only [mv_mv]
  refine ⟨?_, ?_⟩
  · unfold hdU
    rw [if_pos (show (hq9 c).e = 0 by rw [f9']; rfl), hrd, if_pos hcons, f9']
  · have e : mv (mv (mv (mv (mv (mv (mv (mv (mv c 4) 1) 15) 4) 4) 4) 4) 4) 4 = mv c 44 := by simp only [mv_mv]
    rw [e] at k9
    exact k9
end Y27
set_option maxRecDepth 100000
namespace Y27
open Go Go.AE Go.Proofs E6
theorem pt_at {D A B R : List UInt8} {o n : Int} (hD : D = A ++ (B ++ R)) (ho : o = A.length) (hn : n = B.length) : pt D o n = B := by
  subst hD ho hn
  unfold pt
  rw [Int.toNat_natCast, Int.toNat_natCast, List.drop_left, List.take_left]
structure Fits (h : Hd) (T : List Int) (I : List UInt8) (X : List Ty) (C : List UInt8) (L : List Lp) (S U : List Bool) : Prop where
  t : h.t = T.length
  i : h.t = I.length
  ty : h.ty = X.length
  c : h.c = C.length
  l : h.l = L.length
  is : h.is = S.length
  iu : h.iu = U.length
section
variable {h : Hd} {T : List Int} {I : List UInt8} {X : List Ty} {C : List UInt8} {L : List Lp} {S U : List Bool} {n : Nat}
theorem encO_length (l : List Bool) : (encO l).length = l.length := by simp [encO]
theorem Fits.lens (f : Fits h T I X C L S U) : l0 h n = ((encI n T).length : Int) ∧ l1 h = (I.length : Int) ∧ l2 h = ((enc X).length : Int) ∧ l3 h = (C.length : Int) ∧ l4 h n = ((encL n L).length : Int) ∧ l5 h = ((encO S).length : Int) ∧ l6 h = ((encO U).length : Int) := by
  refine ⟨?_, f.i, ?_, f.c, ?_, ?_, ?_⟩
  · rw [encI_len, l0, f.t, Nat.mul_comm, Int.natCast_mul]
  · rw [enc_len, l2, f.ty, Int.natCast_mul]; first | done | rfl
  · rw [encL_len, l4, f.l, Nat.mul_comm, Int.natCast_mul, Int.natCast_add]; first | done | rfl
  · rw [l5, f.is, encO, List.length_map]
  · rw [l6, f.iu, encO, List.length_map]
theorem Fits.sum (f : Fits h T I X C L S U) : sumU h n = ((encB T I X C L S U n).length : Int) := by
  obtain ⟨q0, q1, q2, q3, q4, q5, q6⟩ := f.lens (n := n)
  have hsum : sumU h n = l0 h n + l1 h + l2 h + l3 h + l4 h n + l5 h + l6 h := rfl
  rw [hsum, q0, q1, q2, q3, q4, q5, q6]
  simp only [encB, List.length_append]
  omega
theorem Fits.okD (f : Fits h T I X C L S U) (hX : ∀ t ∈ X, okTy t) (r : List UInt8) : okD (encB T I X C L S U n ++ r) h n = true := by
  obtain ⟨q0, q1, q2, q3, q4, q5, q6⟩ := f.lens (n := n)
  have e1 : o1 h n = l0 h n := rfl
  have e2 : o2 h n = o1 h n + l1 h := rfl
  have e3 : o3 h n = o2 h n + l2 h := rfl
  have e4 : o4 h n = o3 h n + l3 h := rfl
  have e5 : o5 h n = o4 h n + l4 h n := rfl
  have e6 : o6 h n = o5 h n + l5 h := rfl
  have p2 : b2 (encB T I X C L S U n ++ r) h n = enc X := by
    unfold encB
    exact pt_at (A := encI n T ++ I) (R := (C ++ (encL n L ++ (encO S ++ encO U))) ++ r) (by simp) (by simp only [List.length_append]; omega) q2
  have p5 : b5 (encB T I X C L S U n ++ r) h n = encO S := by
    unfold encB
    exact pt_at (A := encI n T ++ I ++ enc X ++ C ++ encL n L) (R := encO U ++ r) (by simp) (by simp only [List.length_append]; omega) q5
  have p6 : b6 (encB T I X C L S U n ++ r) h n = encO U := by
    unfold encB
    exact pt_at (A := encI n T ++ I ++ enc X ++ C ++ encL n L ++ encO S) (R := r) (by simp) (by simp only [List.length_append]; omega) q6
  have hO : ∀ l : List Bool, indOk (encO l) = true := fun l => by
    unfold indOk encO
    rw [List.all_map, List.all_eq_true]
    intro x _
    cases x <;> rfl
  unfold Y27.okD
  rw [p2, p5, p6, hO, hO, (dec_enc hX).2]
  first | done | rfl
end
theorem encB_len (T : List Int) (I : List UInt8) (X : List Ty) (C : List UInt8) (L : List Lp) (S U : List Bool) (n : Nat) : (encB T I X C L S U n).length = n * T.length + I.length + 6 * X.length + C.length + (n + 4) * L.length + S.length + U.length := by
  unfold encB
  simp only [List.length_append, encI_len, enc_len, encL_len, encO_length]
  omega
theorem at_blk {c : Cu} {h : Hd} {T : List Int} {I : List UInt8} {X : List Ty} {C : List UInt8} {L : List Lp} {S U : List Bool} {n : Nat} {a : Int} {r : List UInt8}
    (hc : At c (encB T I X C L S U n ++ r)) (f : Fits h T I X C L S U) (hX : ∀ t ∈ X, okTy t) : sumU h n ≤ restU c ∧ (decU c h n a).2 = mv c (encB T I X C L S U n).length ∧ At (mv c (encB T I X C L S U n).length) r := by
  obtain ⟨ha, hb⟩ := at_adv hc
  have hl := at_len hc
  rw [List.length_append] at hl
  obtain ⟨h1, h2, h3⟩ := hc
  have hs := f.sum (n := n)
  have hr : sumU h n ≤ restU c := by rw [restU_of h1, hs]; omega
  refine ⟨hr, ?_, hb⟩
  unfold decU
  rw [if_pos h1, if_pos (show fitsD c h n = true from decide_eq_true hr), h3, if_pos (f.okD hX r), hs]
  first | done | rfl
theorem at_foot {c : Cu} {f : List UInt8} (hc : At c (nlC ++ (f ++ nlC))) (hf : ∀ j, j < f.length → f.getD j 0 ≠ 10) : footU c = f.length := by
  obtain ⟨e, k⟩ := at_exp hc 14
  have hi : ixB (f ++ nlC) 10 = (f.length : Int) := by
    refine ixB_some _ f.length (by rw [List.length_append]; show f.length < f.length + 1; omega) ?_ (fun j hj => ?_)
    · rw [List.getD_eq_getElem?_getD, List.getElem?_append_right (Nat.le_refl _), Nat.sub_self]; first | done | rfl
    · rw [getD_app hj]; exact hf j hj
  have hd : (mv c nlC.length).d.drop (mv c nlC.length).p.toNat = f ++ nlC := k.2.2
  unfold footU
  rw [e, if_neg (fun x => x rfl), hd, hi, if_pos (by omega)]
theorem u32w_id {n : Nat} (h : n ≤ 1000000) : u32w n = (n : Int) := by
  unfold u32w IntKind.wrap
  simp only [IntKind.signed, IntKind.bits, Bool.false_and, Bool.false_eq_true, if_false]
  omega
structure Sm (T : List Int) (I : List UInt8) (X : List (List IV)) (C : List UInt8) (L : List (List IV)) (S U : List Bool) : Prop where
  t : T.length ≤ 200
  i : I.length ≤ 200
  x : X.length ≤ 200
  c : C.length ≤ 600
  l : L.length ≤ 200
  s : S.length ≤ 200
  u : U.length ≤ 200
theorem few_sm {T : List Int} {I : List UInt8} {X : List (List IV)} {C : List UInt8} {L : List (List IV)} {S U : List Bool} (h : fewB T I X C L S U = true) : Sm T I X C L S U := by
  unfold fewB at h
  simp only [Bool.and_eq_true, decide_eq_true_eq] at h
  obtain ⟨⟨⟨⟨⟨⟨h1, h2⟩, h3⟩, h4⟩, h5⟩, h6⟩, h7⟩ := h
  exact ⟨h1, h2, h3, h4, h5, h6, h7⟩
section
variable {T : List Int} {I : List UInt8} {X : List (List IV)} {C : List UInt8} {L : List (List IV)} {S U : List Bool}
theorem lps_len {L : List (List IV)} (h : okL L) : (lps L).length = L.length := by
  have := congrArg List.length h.1
  rw [List.length_map] at this
  exact this.symm
theorem hd_eq (m : Sm T I X C L S U) (v : Int) : hdOf T X C L S U v = ⟨v, U.length, S.length, L.length, T.length, X.length, C.length⟩ := by
  obtain ⟨h1, h2, h3, h4, h5, h6, h7⟩ := m
  unfold hdOf
  rw [u32w_id (by omega), u32w_id (by omega), u32w_id (by omega), u32w_id (by omega), u32w_id (by omega), u32w_id (by omega)]
theorem hd_ok (m : Sm T I X C L S U) (v : Int) : okH (hdOf T X C L S U v) := by
  rw [hd_eq m v]
  obtain ⟨h1, h2, h3, h4, h5, h6, h7⟩ := m
  have hu : ∀ k : Nat, k ≤ 600 → U32 (k : Int) := fun k hk => ⟨by omega, by omega⟩
  exact ⟨hu _ (by omega), hu _ (by omega), hu _ (by omega), hu _ (by omega), hu _ (by omega), hu _ (by omega)⟩
theorem hd_fits (m : Sm T I X C L S U) (hX : okT X) (hL : okL L) (b : okBl T I (tys X) C S U) (v : Int) : Fits (hdOf T X C L S U v) T I (tys X) C (lps L) S U := by
  rw [hd_eq m v]
  refine ⟨rfl, by show (T.length : Int) = I.length; rw [b.1], by show (X.length : Int) = _; rw [tys_len hX], rfl, by show (L.length : Int) = _; rw [lps_len hL], rfl, rfl⟩
theorem hd_cons (m : Sm T I X C L S U) (hX : okT X) (b : okBl T I (tys X) C S U) (v : Int) : consH (hdOf T X C L S U v) = true := by
  rw [hd_eq m v]
  obtain ⟨b1, b2, b3, b4, b5, b6⟩ := b
  rw [tys_len hX] at b2 b4 b5
  have c1 : ((X.length : Int) != 0) = true := bne_iff_ne.mpr (by omega)
  have c2 : ((C.length : Int) != 0) = true := bne_iff_ne.mpr (by omega)
  have c3 : ∀ k : Nat, k = 0 ∨ k = X.length → ((k : Int) == 0 || (k : Int) == (X.length : Int)) = true := fun k hk => by
    rcases hk with h | h
    · rw [h]; first | done | rfl
    · rw [h, beq_self_eq_true, Bool.or_true]
  show ((X.length : Int) != 0 && (C.length : Int) != 0 && ((U.length : Int) == 0 || (U.length : Int) == (X.length : Int)) && ((S.length : Int) == 0 || (S.length : Int) == (X.length : Int))) = true
  rw [c1, c2, c3 _ b4, c3 _ b5]
  first | done | rfl
theorem el_eq (m : Sm T I X C L S U) (v : Int) : elems (hdOf T X C L S U v) = 2 * T.length + X.length + C.length + L.length + S.length + U.length := by
  rw [hd_eq m v]
  first | done | rfl
theorem at_part {c : Cu} {v : Int} {n : Nat} {r : List UInt8} (hc : At c (hdB (hdOf T X C L S U v) ++ (encB T I (tys X) C (lps L) S U n ++ r))) (v1 : 1 ≤ v) (v4 : v ≤ 4) (m : Sm T I X C L S U) (hX : okT X) (hL : okL L) (b : okBl T I (tys X) C S U) :
    (hdU c).2.e = 0 ∧ (hdU c).1.v = v ∧ cntP c n = elems (hdOf T X C L S U v) ∧ (nextP c n).e = 0 ∧ At (nextP c n) r := by
  obtain ⟨e, k⟩ := at_hd hc (show 1 ≤ (hdOf T X C L S U v).v from v1) (show (hdOf T X C L S U v).v ≤ 4 from v4) (hd_ok m v) (hd_cons m hX b v)
  have hf := hd_fits m hX hL b v
  obtain ⟨q1, q2, q3⟩ := at_blk (a := 0) k hf hX.2
  have en : nextP c n = mv (mv c 44) (encB T I (tys X) C (lps L) S U n).length := by
    unfold nextP
    rw [e]
    exact q2
  refine ⟨by rw [e]; rfl, by rw [e]; rfl, ?_, by rw [en]; rfl, by rw [en]; exact q3⟩
  unfold cntP cntU
  rw [e]
  exact if_pos q1
end
end Y27
set_option maxRecDepth 100000
namespace Y27
open Go Go.AE Go.Proofs E6
noncomputable section
def serB (n : Int) (T : List Int) (I : List UInt8) (X : List (List IV)) (C : List UInt8) (L : List (List IV)) (S U : List Bool) (T' : List Int) (I' : List UInt8) (X' : List (List IV)) (C' : List UInt8) (L' : List (List IV)) (S' U' : List Bool) (f : List UInt8) : List UInt8 :=
  bif n == 1 then hdB (hdOf T X C L S U n) ++ encB T I (tys X) C (lps L) S U 4 else
    hdB (hdOf T X C L S U n) ++ encB T I (tys X) C (lps L) S U 4 ++ hdB (hdOf T' X' C' L' S' U' n) ++ encB T' I' (tys X') C' (lps L') S' U' 8 ++ List.map u8 [10] ++ f ++ List.map u8 [10]
def sSerG : List AV → Option (List Prop × List AV)
  | [.agg [.imm (.int .i64 n), .imm (.ints .i64 T), .imm (.bytes I), .imm (.sl 3 X), .imm (.bytes C), .imm (.sl 2 L), .imm (.bools S), .imm (.bools U), .imm (.ints .i64 T'), .imm (.bytes I'), .imm (.sl 3 X'), .imm (.bytes C'), .imm (.sl 2 L'), .imm (.bools S'), .imm (.bools U'), .imm (.str f)]] => some ([okFi n T I X C L S U T' I' X' C' L' S' U' f, fewF n T I X C L S U T' I' X' C' L' S' U' f = true, fiV n T I X C L S U T' I' X' C' L' S' U' f = 0], [.new (.bytes (serB n T I X C L S U T' I' X' C' L' S' U' f)), i64 0])
  | _ => none
def F38 := addE (addE F37 20 sSerG) 8 sAwake
def N27 : Cx := ⟨Tryz.prog, F38, noCall, G16, 4011⟩
end
attribute [local irreducible] loopK evCode evSpec loopB norm
theorem enc_small {T : List Int} {I : List UInt8} {X : List (List IV)} {C : List UInt8} {L : List (List IV)} {S U : List Bool} (m : Sm T I X C L S U) (hX : okT X) (hL : okL L) {n : Nat} (hn : n ≤ 8) : (encB T I (tys X) C (lps L) S U n).length ≤ 6400 := by
  obtain ⟨h1, h2, h3, h4, h5, h6, h7⟩ := m
  rw [encB_len, tys_len hX, lps_len hL]
  have q1 : n * T.length ≤ 8 * 200 := Nat.mul_le_mul hn h1
  have q2 : (n + 4) * L.length ≤ 12 * 200 := Nat.mul_le_mul (by omega) h5
  omega
theorem okE_of {T : List Int} {I : List UInt8} {X : List (List IV)} {C : List UInt8} {L : List (List IV)} {S U : List Bool} (m : Sm T I X C L S U) (hX : okT X) (hL : okL L) : Y27.okE T I X C L S U := by
  obtain ⟨h1, h2, h3, h4, h5, h6, h7⟩ := m
  exact ⟨hX, hL, by omega, by omega, by omega, by omega, by omega, by omega, by omega⟩
theorem few_el {n : Int} {T : List Int} {I : List UInt8} {X : List (List IV)} {C : List UInt8} {L : List (List IV)} {S U : List Bool} {T' : List Int} {I' : List UInt8} {X' : List (List IV)} {C' : List UInt8} {L' : List (List IV)} {S' U' : List Bool} {f : List UInt8}
    (h : fewF n T I X C L S U T' I' X' C' L' S' U' f = true) : Sm T I X C L S U ∧ Sm T' I' X' C' L' S' U' ∧ f.length ≤ 600 := by
  unfold fewF at h
  rw [Bool.and_eq_true, Bool.and_eq_true] at h
  obtain ⟨⟨h1, h2⟩, h3⟩ := h
  have := of_decide_eq_true h3
  exact ⟨few_sm h1, few_sm h2, by omega⟩
theorem ser_ev (n : Int) (T : List Int) (I : List UInt8) (X : List (List IV)) (C : List UInt8) (L : List (List IV)) (S U : List Bool) (T' : List Int) (I' : List UInt8) (X' : List (List IV)) (C' : List UInt8) (L' : List (List IV)) (S' U' : List Bool) (f : List UInt8)
    (hp : okFi n T I X C L S U T' I' X' C' L' S' U' f) (hw : fewF n T I X C L S U T' I' X' C' L' S' U' f = true) (h0 : fiV n T I X C L S U T' I' X' C' L' S' U' f = 0) (K : List AV → Prop) (hK : K [.new (.bytes (serB n T I X C L S U T' I' X' C' L' S' U' f)), i64 0]) :
    evSpec N26 Tryz.f20 [.agg (fiC n T I X C L S U T' I' X' C' L' S' U' f)] K := by
  obtain ⟨m1, m2, mf⟩ := few_el hw
  have hpp := hp
  obtain ⟨⟨hX, hL, _⟩, ⟨hX', hL', _⟩, _⟩ := hp
  obtain ⟨n1, n4, _⟩ := (fi_ev n T I X C L S U T' I' X' C' L' S' U' f hpp).1 h0
  have e1 := enc_small m1 hX hL (n := Int.toNat 4) (by decide)
  have e2 := enc_small m2 hX' hL' (n := Int.toNat 8) (by decide)
  have eu : (List.map u8 [10]).length = 1 := rfl
  refine Eq.mpr (g20_in n T I X C L S U T' I' X' C' L' S' U' f K _ rfl _ rfl _ rfl _ rfl _ rfl _ rfl) ⟨hpp, brn_Fa (by rw [h0]; rfl) ?_⟩
  unfold serB at hK
  simp only [List.length_append, Nat.mul_one, hdB_len, eu]
  refine ⟨n1, n4, hd_ok m1 n, okE_of m1 hX hL, sz4, by omega, by omega, ?_⟩
  cases c : (n == 1) with
  | true =>
    rw [c, cond_true] at hK
    exact brn_T rfl hK
  | false =>
    rw [c, cond_false] at hK
    exact brn_Fa rfl ⟨n1, n4, hd_ok m2 n, by omega, by omega, okE_of m2 hX' hL', sz8, by omega, by omega, by omega, by omega, by omega, by omega, by omega, by omega, by omega, hK⟩
theorem ok20g : ∀ args pres res, sSerG args = some (pres, res) → SpecOK Tryz.prog G16 20 args pres res := by
  intro args pres res h
  unfold sSerG at h
  split at h
  case h_2 => cases h
  cases h
  exact spec_ok (C := N26) okF37 noCall_ok Tryz.func20 (by kernel_rfl) (by kernel_rfl) (fun hp => ser_ev _ _ _ _ _ _ _ _ _ _ _ _ _ _ _ _ (hp _ (by simp)) (hp _ (by simp)) (hp _ (by simp)) _ rfl)
theorem okF38 : EOK Tryz.prog F38 G16 := addE_ok (addE_ok okF37 ok20g) ok8a
end Y27
set_option maxRecDepth 100000
namespace Y27
open Go Go.AE Go.Proofs E6
attribute [local irreducible] loopK evCode evSpec loopB norm
theorem f6_in (n : Int) (T : List Int) (I : List UInt8) (X : List (List IV)) (C : List UInt8) (L : List (List IV)) (S : List Bool) (U : List Bool) (T' : List Int) (I' : List UInt8) (X' : List (List IV)) (C' : List UInt8) (L' : List (List IV)) (S' : List Bool) (U' : List Bool) (f : List UInt8) (c : Int) (K : List AV → Prop) (Q1 : Hd) (hQ1 : Q1 = (hdOf T X C L S U (1 : Int))) (Q2 : Hd) (hQ2 : Q2 = (hdOf T' X' C' L' S' U' (1 : Int))) (Q3 : List UInt8) (hQ3 : Q3 = (serB n T I X C L S U T' I' X' C' L' S' U' f)) (Q4 : Int × Int) (hQ4 : Q4 = (measU Q3)) (Q5 : Int × Int) (hQ5 : Q5 = (measU (List.take ((Int.tmod (IntKind.wrap .i64 c) (IntKind.wrap .i64 ((↑(List.length Q3) : Int) + 1))).toNat - 0) (List.drop 0 Q3)))) : evSpec N27 Tryz.f6 [.agg (fiC n T I X C L S U T' I' X' C' L' S' U' f), .imm (.int IntKind.u16 c)] K = ( let E1 : Prop := ((sm (St.mk (lapp [.agg [i64 n, .imm (.ints IntKind.i64 T), by' I, .imm (.sl 3 X), by' C, .imm (.sl 2 L), .imm (.bools S), .imm (.bools U), .imm (.ints IntKind.i64 T'), by' I', .imm (.sl 3 X'), by' C', .imm (.sl 2 L'), .imm (.bools S'), .imm (.bools U'), .imm (.str f)], .imm (.int IntKind.u16 c), .ptr 0 0, .dead, bo false, AV.row 1 0, i64 0, i64 (IntKind.wrap
 .i64 (IntKind.wrap IntKind.u64 (elems (Hd.mk (Hd.v Q1) (Hd.iu Q1) (Hd.is Q1) (Hd.l Q1) (Hd.t Q1) (Hd.ty Q1) (Hd.c Q1)) + elems (Hd.mk (Hd.v Q2) (Hd.iu Q2) (Hd.is Q2) (Hd.l Q2) (Hd.t Q2) (Hd.ty Q2) (Hd.c Q2)))))] (lapp (dN 21) (lapp [.ptr 0 1, .agg [.imm (.ints IntKind.i64 T), by' I, .imm (.sl 3 X), by' C, .imm (.sl 2 L), .imm (.bools S), .imm (.bools U)], .agg [i64 1, u32 (Hd.iu Q1), u32 (Hd.is Q1), u32 (Hd.l Q1), u32 (Hd.t Q1), u32 (Hd.ty Q1), u32 (Hd.c Q1)], .imm (.int IntKind.u64 (elems (Hd.mk (Hd.v Q1) (Hd.iu Q1) (Hd.is Q1) (Hd.l Q1) (Hd.t Q1) (Hd.ty Q1) (Hd.c Q1)))), .ptr 0 8, .agg [.imm (.ints IntKind.i64 T'), by' I', .imm (.sl 3 X'), by' C', .imm (.sl 2 L'), .imm (.bools S'), .imm (.bools U')], .agg [i64 1, u32 (Hd.iu Q2), u32 (Hd.is Q2), u32 (Hd.l Q2), u32 (Hd.t Q2), u32 (Hd.ty Q2), u32 (Hd.c Q2)], .imm (.int IntKind.u64 (elems (Hd.mk (Hd.v Q2) (Hd.iu Q2) (Hd.is Q2) (Hd.l Q2) (Hd.t Q2) (Hd.ty Q2) (Hd.c Q2)))), .imm (.int IntKind.u64 (IntKind.wrap IntKind.u64 (elems (Hd.mk (Hd.v Q1) (Hd.iu Q1) (Hd.is Q1) (Hd.l Q1) (Hd.t Q1) (Hd.ty Q1) (Hd.c Q1)) + elems (Hd.mk (Hd.v Q2) (Hd.iu Q2) (Hd.is Q2) (Hd.l Q2) (Hd.t Q2) (Hd.ty Q2) (Hd.c Q2))))), i64 (IntKind.wrap .i64 (IntKind.wrap
 IntKind.u64 (elems (Hd.mk (Hd.v Q1) (Hd.iu Q1) (Hd.is Q1) (Hd.l Q1) (Hd.t Q1) (Hd.ty Q1) (Hd.c Q1)) + elems (Hd.mk (Hd.v Q2) (Hd.iu Q2) (Hd.is Q2) (Hd.l Q2) (Hd.t Q2) (Hd.ty Q2) (Hd.c Q2)))))] (dN 53)))) [(0, Ob.mk true 0 (AObj.cells [i64 n, .imm (.ints IntKind.i64 T), by' I, .imm (.sl 3 X), by' C, .imm (.sl 2 L), .imm (.bools S), .imm (.bools U), .imm (.ints IntKind.i64 T'), by' I', .imm (.sl 3 X'), by' C', .imm (.sl 2 L'), .imm (.bools S'), .imm (.bools U'), .imm (.str f)])), (1, Ob.mk true 0 (AObj.row (IV.bytes Q3)))] 2 []))); ((!true || !fewF n T I X C L S U T' I' X' C' L' S' U' f) = false → okFi n T I X C L S U T' I' X' C' L' S' U' f) ∧ brn (!true || !fewF n T I X C L S U T' I' X' C' L' S' U' f || fiV n T I X C L S U T' I' X' C' L' S' U' f != 0) (K [bo true]) (okFi n T I X C L S U T' I' X' C' L' S' U' f ∧ fewF n T I X C L S U T' I' X' C' L' S' U' f = true ∧ fiV n T I X C L S U T' I' X' C' L' S' U' f = 0 ∧ (okH (Hd.mk (Hd.v Q1) (Hd.iu Q1) (Hd.is Q1) (Hd.l Q1) (Hd.t Q1) (Hd.ty Q1) (Hd.c Q1)) ∧ okH (Hd.mk (Hd.v Q2) (Hd.iu Q2) (Hd.is Q2) (Hd.l Q2) (Hd.t Q2) (Hd.ty Q2) (Hd.c Q2)) ∧ E1) ∧ brn (decide (n > 1)) ((↑(List.length Q3) : Int) ≤ big' ∧ IntKind.wrap .i64 ((↑(List.length Q3) :
 Int) + 1) ≠ 0 ∧ (0 : Int) ≤ Int.tmod (IntKind.wrap .i64 c) (IntKind.wrap .i64 ((↑(List.length Q3) : Int) + 1)) ∧ Int.tmod (IntKind.wrap .i64 c) (IntKind.wrap .i64 ((↑(List.length Q3) : Int) + 1)) ≤ (↑(List.length Q3) : Int) ∧ (↑(List.take ((Int.tmod (IntKind.wrap .i64 c) (IntKind.wrap .i64 ((↑(List.length Q3) : Int) + 1))).toNat - 0) (List.drop 0 Q3)).length : Int) ≤ big' ∧ ((Prod.fst Q4 == IntKind.wrap .i64 (IntKind.wrap .i64 (IntKind.wrap IntKind.u64 (elems (Hd.mk (Hd.v Q1) (Hd.iu Q1) (Hd.is Q1) (Hd.l Q1) (Hd.t Q1) (Hd.ty Q1) (Hd.c Q1)) + elems (Hd.mk (Hd.v Q2) (Hd.iu Q2) (Hd.is Q2) (Hd.l Q2) (Hd.t Q2) (Hd.ty Q2) (Hd.c Q2)))) + (f.length : Int)) && (Prod.snd Q4 == IntKind.wrap .i64 (IntKind.wrap .i64 (IntKind.wrap .i64 (IntKind.wrap IntKind.u64 (elems (Hd.mk (Hd.v Q1) (Hd.iu Q1) (Hd.is Q1) (Hd.l Q1) (Hd.t Q1) (Hd.ty Q1) (Hd.c Q1)) + elems (Hd.mk (Hd.v Q2) (Hd.iu Q2) (Hd.is Q2) (Hd.l Q2) (Hd.t Q2) (Hd.ty Q2) (Hd.c Q2)))) + (f.length : Int)) + 12) && true) && decide (Prod.fst Q5 ≤ Prod.fst Q4) && decide (Prod.snd Q5 ≤ Prod.snd Q4)) = true → okH (Hd.mk (Hd.v Q1) (Hd.iu Q1) (Hd.is Q1) (Hd.l Q1) (Hd.t Q1) (Hd.ty Q1) (Hd.c Q1))) ∧ ((Prod.fst Q4 == IntKind.wrap .i64 (IntKind.wrap .i64
 (IntKind.wrap IntKind.u64 (elems (Hd.mk (Hd.v Q1) (Hd.iu Q1) (Hd.is Q1) (Hd.l Q1) (Hd.t Q1) (Hd.ty Q1) (Hd.c Q1)) + elems (Hd.mk (Hd.v Q2) (Hd.iu Q2) (Hd.is Q2) (Hd.l Q2) (Hd.t Q2) (Hd.ty Q2) (Hd.c Q2)))) + (f.length : Int)) && (Prod.snd Q4 == IntKind.wrap .i64 (IntKind.wrap .i64 (IntKind.wrap .i64 (IntKind.wrap IntKind.u64 (elems (Hd.mk (Hd.v Q1) (Hd.iu Q1) (Hd.is Q1) (Hd.l Q1) (Hd.t Q1) (Hd.ty Q1) (Hd.c Q1)) + elems (Hd.mk (Hd.v Q2) (Hd.iu Q2) (Hd.is Q2) (Hd.l Q2) (Hd.t Q2) (Hd.ty Q2) (Hd.c Q2)))) + (f.length : Int)) + 12) && true) && decide (Prod.fst Q5 ≤ Prod.fst Q4) && decide (Prod.snd Q5 ≤ Prod.snd Q4)) = true → sz48 (4 : Int)) ∧ K [bo (Prod.fst Q4 == IntKind.wrap .i64 (IntKind.wrap .i64 (IntKind.wrap IntKind.u64 (elems (Hd.mk (Hd.v Q1) (Hd.iu Q1) (Hd.is Q1) (Hd.l Q1) (Hd.t Q1) (Hd.ty Q1) (Hd.c Q1)) + elems (Hd.mk (Hd.v Q2) (Hd.iu Q2) (Hd.is Q2) (Hd.l Q2) (Hd.t Q2) (Hd.ty Q2) (Hd.c Q2)))) + (f.length : Int)) && (Prod.snd Q4 == IntKind.wrap .i64 (IntKind.wrap .i64 (IntKind.wrap .i64 (IntKind.wrap IntKind.u64 (elems (Hd.mk (Hd.v Q1) (Hd.iu Q1) (Hd.is Q1) (Hd.l Q1) (Hd.t Q1) (Hd.ty Q1) (Hd.c Q1)) + elems (Hd.mk (Hd.v Q2) (Hd.iu Q2) (Hd.is Q2) (Hd.l Q2) (Hd.t Q2) (Hd.ty Q2) (Hd.c
 Q2)))) + (f.length : Int)) + 12) && true) && decide (Prod.fst Q5 ≤ Prod.fst Q4) && decide (Prod.snd Q5 ≤ Prod.snd Q4) && decide (sumU (Hd.mk (Hd.v Q1) (Hd.iu Q1) (Hd.is Q1) (Hd.l Q1) (Hd.t Q1) (Hd.ty Q1) (Hd.c Q1)) (4 : Int) ≤ IntKind.wrap IntKind.u64 (↑(List.length Q3) : Int)))]) ((↑(List.length Q3) : Int) ≤ big' ∧ IntKind.wrap .i64 ((↑(List.length Q3) : Int) + 1) ≠ 0 ∧ (0 : Int) ≤ Int.tmod (IntKind.wrap .i64 c) (IntKind.wrap .i64 ((↑(List.length Q3) : Int) + 1)) ∧ Int.tmod (IntKind.wrap .i64 c) (IntKind.wrap .i64 ((↑(List.length Q3) : Int) + 1)) ≤ (↑(List.length Q3) : Int) ∧ (↑(List.take ((Int.tmod (IntKind.wrap .i64 c) (IntKind.wrap .i64 ((↑(List.length Q3) : Int) + 1))).toNat - 0) (List.drop 0 Q3)).length : Int) ≤ big' ∧ ((Prod.fst Q4 == IntKind.wrap .i64 (IntKind.wrap .i64 (IntKind.wrap IntKind.u64 (elems (Hd.mk (Hd.v Q1) (Hd.iu Q1) (Hd.is Q1) (Hd.l Q1) (Hd.t Q1) (Hd.ty Q1) (Hd.c Q1)) + elems (Hd.mk (Hd.v Q2) (Hd.iu Q2) (Hd.is Q2) (Hd.l Q2) (Hd.t Q2) (Hd.ty Q2) (Hd.c Q2)))) + (f.length : Int)) && (Prod.snd Q4 == IntKind.wrap .i64 (IntKind.wrap .i64 (IntKind.wrap .i64 (IntKind.wrap IntKind.u64 (elems (Hd.mk (Hd.v Q1) (Hd.iu Q1) (Hd.is Q1) (Hd.l Q1) (Hd.t Q1) (Hd.ty Q1) (Hd.c
 Q1)) + elems (Hd.mk (Hd.v Q2) (Hd.iu Q2) (Hd.is Q2) (Hd.l Q2) (Hd.t Q2) (Hd.ty Q2) (Hd.c Q2)))) + (f.length : Int)) + 6) && true) && decide (Prod.fst Q5 ≤ Prod.fst Q4) && decide (Prod.snd Q5 ≤ Prod.snd Q4)) = true → okH (Hd.mk (Hd.v Q1) (Hd.iu Q1) (Hd.is Q1) (Hd.l Q1) (Hd.t Q1) (Hd.ty Q1) (Hd.c Q1))) ∧ ((Prod.fst Q4 == IntKind.wrap .i64 (IntKind.wrap .i64 (IntKind.wrap IntKind.u64 (elems (Hd.mk (Hd.v Q1) (Hd.iu Q1) (Hd.is Q1) (Hd.l Q1) (Hd.t Q1) (Hd.ty Q1) (Hd.c Q1)) + elems (Hd.mk (Hd.v Q2) (Hd.iu Q2) (Hd.is Q2) (Hd.l Q2) (Hd.t Q2) (Hd.ty Q2) (Hd.c Q2)))) + (f.length : Int)) && (Prod.snd Q4 == IntKind.wrap .i64 (IntKind.wrap .i64 (IntKind.wrap .i64 (IntKind.wrap IntKind.u64 (elems (Hd.mk (Hd.v Q1) (Hd.iu Q1) (Hd.is Q1) (Hd.l Q1) (Hd.t Q1) (Hd.ty Q1) (Hd.c Q1)) + elems (Hd.mk (Hd.v Q2) (Hd.iu Q2) (Hd.is Q2) (Hd.l Q2) (Hd.t Q2) (Hd.ty Q2) (Hd.c Q2)))) + (f.length : Int)) + 6) && true) && decide (Prod.fst Q5 ≤ Prod.fst Q4) && decide (Prod.snd Q5 ≤ Prod.snd Q4)) = true → sz48 (4 : Int)) ∧ K [bo (Prod.fst Q4 == IntKind.wrap .i64 (IntKind.wrap .i64 (IntKind.wrap IntKind.u64 (elems (Hd.mk (Hd.v Q1) (Hd.iu Q1) (Hd.is Q1) (Hd.l Q1) (Hd.t Q1) (Hd.ty Q1) (Hd.c Q1)) + elems (Hd.mk (Hd.v Q2)
 (Hd.iu Q2) (Hd.is Q2) (Hd.l Q2) (Hd.t Q2) (Hd.ty Q2) (Hd.c Q2)))) + (f.length : Int)) && (Prod.snd Q4 == IntKind.wrap .i64 (IntKind.wrap .i64 (IntKind.wrap .i64 (IntKind.wrap IntKind.u64 (elems (Hd.mk (Hd.v Q1) (Hd.iu Q1) (Hd.is Q1) (Hd.l Q1) (Hd.t Q1) (Hd.ty Q1) (Hd.c Q1)) + elems (Hd.mk (Hd.v Q2) (Hd.iu Q2) (Hd.is Q2) (Hd.l Q2) (Hd.t Q2) (Hd.ty Q2) (Hd.c Q2)))) + (f.length : Int)) + 6) && true) && decide (Prod.fst Q5 ≤ Prod.fst Q4) && decide (Prod.snd Q5 ≤ Prod.snd Q4) && decide (sumU (Hd.mk (Hd.v Q1) (Hd.iu Q1) (Hd.is Q1) (Hd.l Q1) (Hd.t Q1) (Hd.ty Q1) (Hd.c Q1)) (4 : Int) ≤ IntKind.wrap IntKind.u64 (↑(List.length Q3) : Int)))]))) := by subst hQ5; subst hQ4; subst hQ3; subst hQ2; subst hQ1; kernel_rfl
end Y27
set_option maxRecDepth 100000
namespace Y27
open Go Go.AE Go.Proofs E6
attribute [local irreducible] loopK evCode evSpec loopB norm
section
variable {n : Int} {T : List Int} {I : List UInt8} {X : List (List IV)} {C : List UInt8} {L : List (List IV)} {S U : List Bool} {T' : List Int} {I' : List UInt8} {X' : List (List IV)} {C' : List UInt8} {L' : List (List IV)} {S' U' : List Bool} {f : List UInt8}
theorem meas_ser (m1 : Sm T I X C L S U) (m2 : Sm T' I' X' C' L' S' U') (mf : f.length ≤ 600) (hX : okT X) (hL : okL L) (hX' : okT X') (hL' : okL L') (ok : okFile n T I X C S U T' I' X' C' L' S' U' f) :
    (measU (serB n T I X C L S U T' I' X' C' L' S' U' f)).1 = elems (hdOf T X C L S U 1) + elems (hdOf T' X' C' L' S' U' 1) + f.length ∧
    (measU (serB n T I X C L S U T' I' X' C' L' S' U' f)).2 = elems (hdOf T X C L S U 1) + elems (hdOf T' X' C' L' S' U' 1) + f.length + (if n = 1 then 6 else 12) ∧
    sumU (hdOf T X C L S U 1) 4 ≤ ((serB n T I X C L S U T' I' X' C' L' S' U' f).length : Int) ∧ (serB n T I X C L S U T' I' X' C' L' S' U' f).length ≤ 20000 := by
  obtain ⟨n1, n4, b1, c1, c2⟩ := ok
  have q1 := enc_small m1 hX hL (n := 4) (by decide)
  have q2 := enc_small m2 hX' hL' (n := 8) (by decide)
  have hs := (hd_fits m1 hX hL b1 1).sum (n := 4)
  have hs' : sumU (hdOf T X C L S U 1) 4 = ((encB T I (tys X) C (lps L) S U 4).length : Int) := hs
  have eu : (List.map u8 [10]).length = 1 := rfl
  by_cases hn : n = 1
  · obtain ⟨f0, t0, x0, ch0, l0', st0, ut0⟩ := c1 hn
    have e2 : elems (hdOf T' X' C' L' S' U' 1) = 0 := by
      rw [el_eq m2, t0, ch0, st0, ut0, x0, l0']
      first | done | rfl
    have hser : serB n T I X C L S U T' I' X' C' L' S' U' f = hdB (hdOf T X C L S U n) ++ (encB T I (tys X) C (lps L) S U 4 ++ []) := by
      unfold serB
      rw [hn, List.append_nil]
      first | done | rfl
    have hlen : (serB n T I X C L S U T' I' X' C' L' S' U' f).length = 44 + (encB T I (tys X) C (lps L) S U 4).length := by
      rw [hser, List.length_append, List.length_append, hdB_len]; first | done | rfl
    have hat : At ⟨serB n T I X C L S U T' I' X' C' L' S' U' f, 0, 0, 0⟩ (hdB (hdOf T X C L S U n) ++ (encB T I (tys X) C (lps L) S U 4 ++ [])) := ⟨rfl, ⟨Int.le_refl 0, by show (0 : Int) ≤ ((serB n T I X C L S U T' I' X' C' L' S' U' f).length : Int); omega, by show ((serB n T I X C L S U T' I' X' C' L' S' U' f).length : Int) ≤ _; omega⟩, hser⟩
    obtain ⟨p1, p2, p3, p4, p5⟩ := at_part hat n1 n4 m1 hX hL b1
    have p3' : cntP ⟨serB n T I X C L S U T' I' X' C' L' S' U' f, 0, 0, 0⟩ 4 = elems (hdOf T X C L S U 1) := p3
    have hm : measU (serB n T I X C L S U T' I' X' C' L' S' U' f) = (elems (hdOf T X C L S U 1), 6 + elems (hdOf T X C L S U 1)) := by
      unfold measU measA
      rw [if_neg (fun x => x p1), if_pos (.inr (by rw [p2]; omega)), p3']
    have lf : (f.length : Int) = 0 := by rw [f0]; first | done | rfl
    rw [hm, e2, lf, if_pos hn]
    refine ⟨by show _ = _ + 0 + 0; omega, by show 6 + _ = _ + 0 + 0 + 6; omega, by rw [hs', hlen]; omega, by omega⟩
  · obtain ⟨b2, hcl⟩ := c2 hn
    have hser : serB n T I X C L S U T' I' X' C' L' S' U' f = hdB (hdOf T X C L S U n) ++ (encB T I (tys X) C (lps L) S U 4 ++ (hdB (hdOf T' X' C' L' S' U' n) ++ (encB T' I' (tys X') C' (lps L') S' U' 8 ++ (nlC ++ (f ++ nlC))))) := by
      unfold serB
      have : (n == 1) = false := by
        cases h : (n == 1) with
        | false => rfl
        | true => exact absurd (eq_of_beq h) hn
      rw [this, cond_false]
      have hu : List.map u8 [10] = nlC := rfl
      rw [hu]
      simp only [List.append_assoc]
    have hlen : (serB n T I X C L S U T' I' X' C' L' S' U' f).length = 44 + (encB T I (tys X) C (lps L) S U 4).length + 44 + (encB T' I' (tys X') C' (lps L') S' U' 8).length + 1 + f.length + 1 := by
      have hu : nlC.length = 1 := rfl
      rw [hser]
      simp only [List.length_append, hdB_len, hu]
      omega
    have hat : At ⟨serB n T I X C L S U T' I' X' C' L' S' U' f, 0, 0, 0⟩ (hdB (hdOf T X C L S U n) ++ (encB T I (tys X) C (lps L) S U 4 ++ (hdB (hdOf T' X' C' L' S' U' n) ++ (encB T' I' (tys X') C' (lps L') S' U' 8 ++ (nlC ++ (f ++ nlC)))))) := ⟨rfl, ⟨Int.le_refl 0, by show (0 : Int) ≤ ((serB n T I X C L S U T' I' X' C' L' S' U' f).length : Int); omega, by show ((serB n T I X C L S U T' I' X' C' L' S' U' f).length : Int) ≤ _; omega⟩, hser⟩
    obtain ⟨p1, p2, p3, p4, p5⟩ := at_part hat n1 n4 m1 hX hL b1
    obtain ⟨r1, r2, r3, r4, r5⟩ := at_part p5 n1 n4 m2 hX' hL' b2
    have hft := at_foot r5 (fun j hj => hcl.2.2 j (by omega) (by omega))
    have p3' : cntP ⟨serB n T I X C L S U T' I' X' C' L' S' U' f, 0, 0, 0⟩ 4 = elems (hdOf T X C L S U 1) := p3
    have p4' : (nextP ⟨serB n T I X C L S U T' I' X' C' L' S' U' f, 0, 0, 0⟩ 4).e = 0 := p4
    have r1' : (hdU (nextP ⟨serB n T I X C L S U T' I' X' C' L' S' U' f, 0, 0, 0⟩ 4)).2.e = 0 := r1
    have r3' : cntP (nextP ⟨serB n T I X C L S U T' I' X' C' L' S' U' f, 0, 0, 0⟩ 4) 8 = elems (hdOf T' X' C' L' S' U' 1) := r3
    have hft' : footU (nextP (nextP ⟨serB n T I X C L S U T' I' X' C' L' S' U' f, 0, 0, 0⟩ 4) 8) = f.length := hft
    have hm : measU (serB n T I X C L S U T' I' X' C' L' S' U' f) = (elems (hdOf T X C L S U 1) + elems (hdOf T' X' C' L' S' U' 1) + f.length, 6 + elems (hdOf T X C L S U 1) + 6 + elems (hdOf T' X' C' L' S' U' 1) + f.length) := by
      unfold measU measA
      rw [if_neg (fun x => x p1), if_neg (fun h => by
        rcases h with h | h
        · exact h p4'
        · rw [p2] at h; omega), p3']
      unfold measB
      rw [if_neg (fun x => x r1'), r3', hft']
    rw [hm, if_neg hn]
    refine ⟨rfl, by show 6 + _ + 6 + _ + _ = _ + _ + _ + 12; omega, by rw [hs', hlen]; omega, by omega⟩
end
theorem f6_ev (n : Int) (T : List Int) (I : List UInt8) (X : List (List IV)) (C : List UInt8) (L : List (List IV)) (S U : List Bool) (T' : List Int) (I' : List UInt8) (X' : List (List IV)) (C' : List UInt8) (L' : List (List IV)) (S' U' : List Bool) (f : List UInt8) (c : Int)
    (hX : okT X) (hL : okL L) (hX' : okT X') (hL' : okL L') (hc0 : 0 ≤ c) (hc1 : c ≤ 65535) (K : List AV → Prop) (hK : K [bo true]) :
    evSpec N27 Tryz.f6 [.agg (fiC n T I X C L S U T' I' X' C' L' S' U' f), .imm (.int .u16 c)] K := by
  have hpf : fewF n T I X C L S U T' I' X' C' L' S' U' f = true → okFi n T I X C L S U T' I' X' C' L' S' U' f := fun h => by
    obtain ⟨⟨a1, a2, a3, a4, a5, a6, a7⟩, ⟨d1, d2, d3, d4, d5, d6, d7⟩, mf⟩ := few_el h
    exact ⟨⟨hX, hL, by omega, by omega, by omega, by omega, by omega, by omega⟩, ⟨hX', hL', by omega, by omega, by omega, by omega, by omega, by omega⟩, by omega, by omega⟩
  cases hw : fewF n T I X C L S U T' I' X' C' L' S' U' f with
  | false =>
    refine Eq.mpr (f6_in n T I X C L S U T' I' X' C' L' S' U' f c K _ rfl _ rfl _ rfl _ rfl _ rfl) ?_
    intro E1
    clear_value E1
    rw [hw]
    exact ⟨fun h => absurd h (by decide), brn_T rfl hK⟩
  | true =>
    have hp := hpf hw
    cases h0 : (fiV n T I X C L S U T' I' X' C' L' S' U' f != 0) with
    | true =>
      refine Eq.mpr (f6_in n T I X C L S U T' I' X' C' L' S' U' f c K _ rfl _ rfl _ rfl _ rfl _ rfl) ?_
      intro E1
      clear_value E1
      rw [hw, h0]
      exact ⟨fun _ => hp, brn_T rfl hK⟩
    | false =>
      have hz := bne_eq_false_iff_eq.mp h0
      obtain ⟨m1, m2, mf⟩ := few_el hw
      have hok := (fi_ev n T I X C L S U T' I' X' C' L' S' U' f hp).1 hz
      obtain ⟨k1, k2, k3, k4⟩ := meas_ser m1 m2 mf hX hL hX' hL' hok
      have n1 := hok.1
      obtain ⟨Q3, hQ3⟩ : ∃ Q, Q = serB n T I X C L S U T' I' X' C' L' S' U' f := ⟨_, rfl⟩
      rw [← hQ3] at k1 k2 k3 k4
      obtain ⟨Q5, hQ5⟩ : ∃ Q, Q = measU (List.take (Int.toNat (Int.tmod (IntKind.wrap IntKind.i64 c) (IntKind.wrap IntKind.i64 ((Q3.length : Int) + 1))) - 0) (List.drop 0 Q3)) := ⟨_, rfl⟩
      have hbig : big' = 1000000000000 := rfl
      have hlt : ((List.take (Int.toNat (Int.tmod (IntKind.wrap IntKind.i64 c) (IntKind.wrap IntKind.i64 ((Q3.length : Int) + 1))) - 0) (List.drop 0 Q3)).length : Int) ≤ big' := by
        rw [List.length_take, List.length_drop]; omega
      have hx := meas_ext (b := List.take (Int.toNat (Int.tmod (IntKind.wrap IntKind.i64 c) (IntKind.wrap IntKind.i64 ((Q3.length : Int) + 1))) - 0) (List.drop 0 Q3)) (t := (List.drop 0 Q3).drop (Int.toNat (Int.tmod (IntKind.wrap IntKind.i64 c) (IntKind.wrap IntKind.i64 ((Q3.length : Int) + 1))) - 0)) (by rw [List.take_append_drop, List.length_drop]; omega)
      rw [List.take_append_drop, ← hQ5, List.drop_zero] at hx
      obtain ⟨x1, x2⟩ := hx
      obtain ⟨Q4, hQ4⟩ : ∃ Q, Q = measU Q3 := ⟨_, rfl⟩
      rw [← hQ4] at k1 k2 x1 x2
      have g := f6_in n T I X C L S U T' I' X' C' L' S' U' f c K _ rfl _ rfl Q3 hQ3 Q4 hQ4 Q5 hQ5
      have a1 := el_eq m1 1
      have a2 := el_eq m2 1
      obtain ⟨s1, s2, s3, s4, s5, s6, s7⟩ := m1
      obtain ⟨t1, t2, t3, t4, t5, t6, t7⟩ := m2
      have o1 : okH (hdOf T X C L S U 1) := hd_ok ⟨s1, s2, s3, s4, s5, s6, s7⟩ 1
      have o2 : okH (hdOf T' X' C' L' S' U' 1) := hd_ok ⟨t1, t2, t3, t4, t5, t6, t7⟩ 1
      obtain ⟨H1, hH1⟩ : ∃ Q, Q = hdOf T X C L S U 1 := ⟨_, rfl⟩
      obtain ⟨H2, hH2⟩ : ∃ Q, Q = hdOf T' X' C' L' S' U' 1 := ⟨_, rfl⟩
      rw [← hH1, ← hH2] at g
      rw [← hH1] at k1 k2 k3 a1 o1
      rw [← hH2] at k1 k2 a2 o2
      have ee : ∀ H : Hd, (⟨H.v, H.iu, H.is, H.l, H.t, H.ty, H.c⟩ : Hd) = H := fun H => rfl
      have w0 : IntKind.wrap .u64 (elems H1 + elems H2) = elems H1 + elems H2 := wrapU (by omega) (by omega)
      have w1' : IntKind.wrap .i64 (elems H1 + elems H2) = elems H1 + elems H2 := wrap64 (by omega) (by omega)
      have w2 : IntKind.wrap .i64 (elems H1 + elems H2 + (f.length : Int)) = elems H1 + elems H2 + f.length := wrap64 (by omega) (by omega)
      have w3 : IntKind.wrap .i64 (elems H1 + elems H2 + (f.length : Int) + 12) = elems H1 + elems H2 + f.length + 12 := wrap64 (by omega) (by omega)
      have w4 : IntKind.wrap .i64 (elems H1 + elems H2 + (f.length : Int) + 6) = elems H1 + elems H2 + f.length + 6 := wrap64 (by omega) (by omega)
      have w5 : IntKind.wrap .u64 (Q3.length : Int) = Q3.length := wrapU (by omega) (by omega)
      have wc : IntKind.wrap .i64 c = c := wrap64 (by omega) (by omega)
      have wl : IntKind.wrap .i64 ((Q3.length : Int) + 1) = (Q3.length : Int) + 1 := wrap64 (by omega) (by omega)
      have y1 : IntKind.wrap .i64 ((Q3.length : Int) + 1) ≠ 0 := by omega
      have y2 : 0 ≤ Int.tmod (IntKind.wrap .i64 c) (IntKind.wrap .i64 ((Q3.length : Int) + 1)) := by rw [wc]; exact Int.tmod_nonneg _ hc0
      have y3 : Int.tmod (IntKind.wrap .i64 c) (IntKind.wrap .i64 ((Q3.length : Int) + 1)) ≤ Q3.length := by
        have := Int.tmod_lt_of_pos (IntKind.wrap .i64 c) (b := IntKind.wrap .i64 ((Q3.length : Int) + 1)) (by omega)
        omega
      have y4 : (Q3.length : Int) ≤ big' := by omega
      refine Eq.mpr g ?_
      intro E1
      have hE : E1 := rfl
      clear_value E1
      simp only [ee]
      rw [hw, h0]
      refine ⟨fun _ => hp, brn_Fa rfl ⟨hp, rfl, hz, ⟨o1, o2, hE⟩, ?_⟩⟩
      cases hn : decide (n > 1) with
      | true =>
        have hn' : ¬ n = 1 := by have := of_decide_eq_true hn; omega
        rw [if_neg hn'] at k2
        refine brn_T rfl ⟨y4, y1, y2, y3, hlt, fun _ => o1, fun _ => sz4, ?_⟩
        rw [decide_eq_true x1, decide_eq_true x2, w0, w1', w2, w3, w5, decide_eq_true k3, k1, k2, beq_self_eq_true, beq_self_eq_true]
        exact hK
      | false =>
        have hn' : n = 1 := by have := of_decide_eq_false hn; omega
        rw [if_pos hn'] at k2
        refine brn_Fa rfl ⟨y4, y1, y2, y3, hlt, fun _ => o1, fun _ => sz4, ?_⟩
        rw [decide_eq_true x1, decide_eq_true x2, w0, w1', w2, w4, w5, decide_eq_true k3, k1, k2, beq_self_eq_true, beq_self_eq_true]
        exact hK
end Y27
namespace Go.Proofs.YthdioiodfodlpaaGreatDoor
open Go Go.AE Go.Proofs Y27 E6
open Go.ChangeShapes Go.WideShapes Go.ChangeAt Go.RowKit Go.ChangeMaps
attribute [local irreducible] loopK evCode evSpec loopB norm evFunc
theorem Tryz.own : ownKnob Tryz.prog.godebug = none := by kernel_rfl
set_option maxRecDepth 100000 in
theorem f6_lifted (os : Os) (started : os.Started) (H : Type) (enc : TypeId × Value → H) :
    ReturnsInHanded {} Tryz.checked os 6 .any (fun w args => (Rows.costOfFilesSpec.pre enc Tryz.prog Tryz.f6 [] false w args ∧ laidMetH Tryz.prog Rows.costMatchesReferenceRow.laid w) ∧ sizedMet enc Tryz.prog Tryz.f6 (OpenSpec.ofChange Rows.costOfFilesSpec) false w args)
      (Rows.costOfFilesSpec.post enc Tryz.prog Tryz.f6 false true false false) := by
  refine returnsInHanded_of_change_and (C := Tryz.checked) (X := fun w _ => laidMetH Tryz.prog Rows.costMatchesReferenceRow.laid w) (fun _ _ _ hh h => h.of_heap hh) Tryz.own started (by kernel_rfl) Tryz.func6
    (ChangeSpec.witness_at (enc := enc) (C := Tryz.checked) (os := os) (X := fun w _ => laidMetH Tryz.prog Rows.costMatchesReferenceRow.laid w) false (laidWorld os) #[.agg #[.int .i64 0, .slice none 0 0, .slice none 0 0, .slice none 0 0, .slice none 0 0, .slice none 0 0, .slice none 0 0, .slice none 0 0, .slice none 0 0, .slice none 0 0, .slice none 0 0, .slice none 0 0, .slice none 0 0, .slice none 0 0, .slice none 0 0, .string ⟨#[]⟩], .int .u16 0] 8 rfl (by kernel_rfl) (by kernel_rfl) (by kernel_rfl) (by kernel_rfl) (by kernel_rfl) (door_met os _)) ?_
  intro W base args ds gs before hval0 hW _ hsz hL _
  obtain ⟨l⟩ := args
  have hval : ∀ (j : Nat) t v, Tryz.f6.params[j]? = some t → l[j]? = some v → Value.okWide Tryz.prog W .any base t v := fun j t v h1 h2 => hval0 j t v h1 (by simpa using h2)
  have hW' := hW
  obtain ⟨p, q, hB, hV, rfl, hfz, hnd⟩ := hW
  obtain ⟨rfl, rfl⟩ := trodVars_none hV
  have hA0 : DataW.TrodAll enc Tryz.prog W 0 (fun _ => true) true [46, 47] l ds p := by have h := hB; rw [Tryz.params6] at h; exact h
  rw [Tryz.params6] at hval
  clear hB hval0
  obtain ⟨v0, l, d0, ds, p0, p, rfl, rfl, h0, hA1, rfl⟩ := all_cons hA0
  obtain ⟨v1, l, d1, ds, p1, p, rfl, rfl, h1, hA2, rfl⟩ := all_cons hA1
  obtain ⟨rfl, rfl, rfl⟩ := all_nil hA2
  obtain ⟨l0, rfl, M0⟩ := open_mix Tryz.underlying46 (by kernel_rfl : mixK Tryz.prog 40 46 = some [(3, .ck (.int .i64)), (38, .sl [.int .i64]), (22, .sl [.int .u8]), (37, .sl [(.int .i32), .bool, (.int .u8)]), (22, .sl [.int .u8]), (39, .sl [(.int .i64), (.int .i32)]), (40, .sl [.bool]), (40, .sl [.bool]), (38, .sl [.int .i64]), (22, .sl [.int .u8]), (37, .sl [(.int .i32), .bool, (.int .u8)]), (22, .sl [.int .u8]), (39, .sl [(.int .i64), (.int .i32)]), (40, .sl [.bool]), (40, .sl [.bool]), (9, .ck .str)]) (by kernel_rfl) (by kernel_rfl) (hval 0 46 v0 rfl rfl) h0 (weights_arg hsz (j := 0) (by rw [Tryz.params6]; rfl) rfl)
  obtain ⟨u0a, l0, rfl, c0a, M0⟩ := mall_cons M0
  obtain ⟨x0a, g0a, r0a⟩ := c0a.int
  obtain ⟨u0b, l0, rfl, c0b, M0⟩ := mall_cons M0
  obtain ⟨x0b, g0b, s0b, r0b⟩ := c0b.ints
  obtain ⟨u0c, l0, rfl, c0c, M0⟩ := mall_cons M0
  obtain ⟨x0c, s0c, r0c⟩ := c0c.bytes
  obtain ⟨u0d, l0, rfl, c0d, M0⟩ := mall_cons M0
  obtain ⟨x0d, k0d, s0d, r0d⟩ := MOk.structs rfl c0d
  have o0d := types_of k0d
  obtain ⟨u0e, l0, rfl, c0e, M0⟩ := mall_cons M0
  obtain ⟨x0e, s0e, r0e⟩ := c0e.bytes
  obtain ⟨u0f, l0, rfl, c0f, M0⟩ := mall_cons M0
  obtain ⟨x0f, k0f, s0f, r0f⟩ := MOk.structs rfl c0f
  have o0f := leaps_of k0f
  obtain ⟨u0g, l0, rfl, c0g, M0⟩ := mall_cons M0
  obtain ⟨x0g, s0g, r0g⟩ := c0g.bools
  obtain ⟨u0h, l0, rfl, c0h, M0⟩ := mall_cons M0
  obtain ⟨x0h, s0h, r0h⟩ := c0h.bools
  obtain ⟨u0i, l0, rfl, c0i, M0⟩ := mall_cons M0
  obtain ⟨x0i, g0i, s0i, r0i⟩ := c0i.ints
  obtain ⟨u0j, l0, rfl, c0j, M0⟩ := mall_cons M0
  obtain ⟨x0j, s0j, r0j⟩ := c0j.bytes
  obtain ⟨u0k, l0, rfl, c0k, M0⟩ := mall_cons M0
  obtain ⟨x0k, k0k, s0k, r0k⟩ := MOk.structs rfl c0k
  have o0k := types_of k0k
  obtain ⟨u0l, l0, rfl, c0l, M0⟩ := mall_cons M0
  obtain ⟨x0l, s0l, r0l⟩ := c0l.bytes
  obtain ⟨u0m, l0, rfl, c0m, M0⟩ := mall_cons M0
  obtain ⟨x0m, k0m, s0m, r0m⟩ := MOk.structs rfl c0m
  have o0m := leaps_of k0m
  obtain ⟨u0n, l0, rfl, c0n, M0⟩ := mall_cons M0
  obtain ⟨x0n, s0n, r0n⟩ := c0n.bools
  obtain ⟨u0o, l0, rfl, c0o, M0⟩ := mall_cons M0
  obtain ⟨x0o, s0o, r0o⟩ := c0o.bools
  obtain ⟨u0p, l0, rfl, c0p, M0⟩ := mall_cons M0
  obtain ⟨x0p, s0p, r0p⟩ := c0p.str
  obtain rfl := mall_nil M0
  obtain ⟨a1, rfl, rfl, rfl, w1⟩ := open_int Tryz.underlying47 (hval 1 47 v1 rfl rfl) h1
  have m1 := inR_wf w1
  have hspec : SpecOK Tryz.prog G16 6 [.agg [.imm (.int .i64 x0a), .imm (.ints .i64 x0b), .imm (.bytes x0c), .imm (.sl 3 x0d), .imm (.bytes x0e), .imm (.sl 2 x0f), .imm (.bools x0g), .imm (.bools x0h), .imm (.ints .i64 x0i), .imm (.bytes x0j), .imm (.sl 3 x0k), .imm (.bytes x0l), .imm (.sl 2 x0m), .imm (.bools x0n), .imm (.bools x0o), .imm (.str x0p)], .imm (.int .u16 a1)] [] [.imm (.bool true)] := spec_ok (C := N27) okF38 noCall_ok Tryz.func6 (by kernel_rfl) (by kernel_rfl) (fun _ => f6_ev x0a x0b x0c x0d x0e x0f x0g x0h x0i x0j x0k x0l x0m x0n x0o x0p a1 o0d o0f o0k o0m m1.1 m1.2 _ rfl)
  refine (bool_calls hspec (fun p h => by cases h) W _ rfl (fun j c hc => ?_) (gok_of_laid hL)).mono fun e W' ⟨he, hw⟩ => ?_
  · match j with
    | 0 => simp only [List.getElem?_cons_zero, Option.some.injEq] at hc; subst hc; exact MIs.arep (is := [.int .i64 x0a, .ints .i64 x0b, .bytes x0c, .sl 3 x0d, .bytes x0e, .sl 2 x0f, .bools x0g, .bools x0h, .ints .i64 x0i, .bytes x0j, .sl 3 x0k, .bytes x0l, .sl 2 x0m, .bools x0n, .bools x0o, .str x0p]) (vs := [u0a, u0b, u0c, u0d, u0e, u0f, u0g, u0h, u0i, u0j, u0k, u0l, u0m, u0n, u0o, u0p]) ⟨r0a, r0b, r0c, r0d, r0e, r0f, r0g, r0h, r0i, r0j, r0k, r0l, r0m, r0n, r0o, r0p, trivial⟩
    | 1 => simp only [List.getElem?_cons_succ, List.getElem?_cons_zero, Option.some.injEq] at hc; subst hc; exact .imm (.int m1)
    | j + 2 => simp at hc
  subst he
  exact ⟨_, rfl, row_post hW' rfl (by kernel_rfl) (by kernel_rfl) rfl rfl Tryz.underlying4 hw⟩
theorem f6_row : Rows.CostOfFilesSaid :=
  OpenClaim.holds_of_wide 6 Tryz.f6 rfl rfl rfl rfl rfl rfl rfl ⟨rfl, rfl, rfl, rfl, rfl⟩ rfl rfl rfl rfl rfl (by kernel_rfl) Tryz.func6 (by kernel_rfl)
    (of_decide_eq_true (by kernel_rfl)) (by unfold Func.isWrapper; first | (rw [if_pos (by decide +kernel)]; kernel_rfl) | (rw [if_neg (by decide +kernel)]; exact ⟨rfl, rfl⟩))
    (fun os started H enc _ => f6_lifted os started H enc)
theorem f6_holds : Rows.CostOfFilesCardSaid :=
  Claim7.holds_tied_plain_at .later [] [.data, .data, .handle] true Rows.costOfFilesCard.stood.harness true
    f6_row (fun _ h => by cases h) (by kernel_rfl) (fun _ h => by cases h) costOfFiles_row_tie rfl ⟨rfl, rfl⟩ (by kernel_rfl) rfl
    (fun f fn hf hfn => by
      obtain rfl : f = 6 := Option.some.inj ((show Tryz.prog.funcNamed "zoneinfo/zoneinfolaw27.CostOfFiles" = some 6 by kernel_rfl).symm.trans hf) |>.symm
      obtain rfl : fn = Tryz.f6 := (Option.some.inj (Tryz.func6.symm.trans hfn)).symm
      exact ⟨by kernel_rfl, fun j t ht => by
        rw [Tryz.params6] at ht
        have hm : t ∈ [46, 47] := by simpa using Array.mem_of_getElem? ht
        have hall : ([46, 47].all fun u => !Tryz.prog.wantsStandIn u) = true := by kernel_rfl
        exact (show Tryz.prog.wantsStandIn t = false by simpa using List.all_eq_true.1 hall t hm)⟩)
    (by kernel_rfl)
end Go.Proofs.YthdioiodfodlpaaGreatDoor
