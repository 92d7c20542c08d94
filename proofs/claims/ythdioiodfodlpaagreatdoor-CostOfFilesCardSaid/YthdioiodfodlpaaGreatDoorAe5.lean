/- The walk's evaluator and its laws (over whatever program), and contracts of the program's functions. -/
import Derived.Test.YthdioiodfodlpaaGreatDoorAe4
import Derived.KernelRfl
set_option linter.all false
set_option maxRecDepth 100000
namespace Y27
open Go Go.AE Go.Proofs E6
attribute [local irreducible] loopK evCode evSpec loopB norm
theorem loop_det {C : Cx} {c : Code} {σ α : Type} (I : σ → St) (Gd : σ → Prop) (μ : σ → Nat) (P : α → Prop) (r : α → List AV) (k : (List AV → Prop) → AX → St → Prop) (hu : C.rounds = 0)
    (step : ∀ s, Gd s → (∃ s' p st1, Gd s' ∧ μ s' < μ s ∧ norm p st1 = some (I s') ∧ ∀ K' : AX → St → Prop, K' .normal st1 → evCode C c (I s) K') ∨
      (∃ x st1, x ≠ .normal ∧ (∀ K' : AX → St → Prop, K' x st1 → evCode C c (I s) K') ∧ ∃ v, P v ∧ ∀ K, K (r v) → k K x st1)) :
    ∀ s, Gd s → ∃ v, P v ∧ ∀ K, K (r v) → ∀ p st, norm p st = some (I s) → evCode C (.loop c) st (k K) := by
  have key : ∀ n s, μ s < n → Gd s → ∃ v, P v ∧ ∀ K, K (r v) → ∀ p st, norm p st = some (I s) → ∃ m, LoopN (evCode C c) (k K) m st := by
    intro n
    induction n with
    | zero => intro s h; omega
    | succ n ih =>
      intro s hμ hs
      rcases step s hs with ⟨s', p', st1, hs', hμ', hn', hb⟩ | ⟨x, st1, hx, hb, v, hv, hk⟩
      · obtain ⟨v, hv, hk⟩ := ih s' (by omega) hs'
        refine ⟨v, hv, fun K hK p st hn => ?_⟩
        obtain ⟨m, hm⟩ := hk K hK p' st1 hn'
        exact ⟨m + 1, p, I s, hn, hb _ hm⟩
      · refine ⟨v, hv, fun K hK p st hn => ⟨1, p, I s, hn, hb _ ?_⟩⟩
        cases x with
        | normal => exact absurd rfl hx
        | _ => exact hk K hK
  intro s hs
  obtain ⟨v, hv, hk⟩ := key (μ s + 1) s (by omega) hs
  refine ⟨v, hv, fun K hK p st hn => ?_⟩
  unfold evCode
  simp only [hu]
  exact hk K hK p st hn
theorem brn_T {b : Bool} {x y : Prop} (h : b = true) (hx : x) : brn b x y := by rw [h]; exact hx
theorem brn_Fa {b : Bool} {x y : Prop} (h : b = false) (hy : y) : brn b x y := by rw [h]; exact hy
theorem ok119e : ∀ args pres res, sBI args = some (pres, res) → SpecOK Tryz.prog G16 119 args pres res := by
  intro args pres res h
  unfold sBI at h
  split at h
  case h_2 => cases h
  cases h
  rename_i b
  exact spec_ok (C := N0) okF13 noCall_ok Tryz.func119 (by kernel_rfl) (by kernel_rfl) (fun hp => Eq.mpr (g119_in _ _) (by cases b <;> rfl))
theorem ok123e : ∀ args pres res, sWk args = some (pres, res) → SpecOK Tryz.prog G16 123 args pres res := by
  intro args pres res h
  unfold sWk at h
  split at h
  case h_2 => cases h
  cases h
  rename_i n
  refine spec_ok (C := N0) okF13 noCall_ok Tryz.func123 (by kernel_rfl) (by kernel_rfl) (fun hp => Eq.mpr (g123_in _ _) ⟨by decide, brn_intro (fun h => ?_) (fun h => ?_)⟩)
  · have h' := of_decide_eq_true h
    unfold wkU
    rw [if_pos h']
    first | done | rfl
  · have h' := of_decide_eq_false h
    unfold wkU
    rw [if_neg h']
    first | done | rfl
theorem ok134e : ∀ args pres res, sLeap args = some (pres, res) → SpecOK Tryz.prog G16 134 args pres res := by
  intro args pres res h
  unfold sLeap at h
  split at h
  case h_2 => cases h
  cases h
  rename_i n
  refine spec_ok (C := N0) okF13 noCall_ok Tryz.func134 (by kernel_rfl) (by kernel_rfl) (fun hp => Eq.mpr (g134_in _ _) ⟨by decide, brn_intro (fun h => ?_) (fun h => ⟨by decide, fun _ => by decide, ?_⟩)⟩)
  · unfold leapU
    rw [h]; first | done | rfl
  · unfold leapU
    rw [h]; first | done | rfl
theorem ok140e : ∀ args pres res, sEra args = some (pres, res) → SpecOK Tryz.prog G16 140 args pres res := by
  intro args pres res h
  unfold sEra at h
  split at h
  case h_2 => cases h
  cases h
  rename_i n
  refine spec_ok (C := N0) okF13 noCall_ok Tryz.func140 (by kernel_rfl) (by kernel_rfl) (fun hp => Eq.mpr (g140_in _ _) ⟨by decide, by decide, brn_intro (fun h => ?_) (fun h => ?_)⟩)
  · have h' := of_decide_eq_true h
    unfold eraK eraR
    rw [if_pos h', if_pos h']
    first | done | rfl
  · have h' := of_decide_eq_false h
    unfold eraK eraR
    rw [if_neg h', if_neg h']
    first | done | rfl
theorem ok121e : ∀ args pres res, sCmp args = some (pres, res) → SpecOK Tryz.prog G16 121 args pres res := by
  intro args pres res h
  unfold sCmp at h
  split at h
  case h_2 => cases h
  cases h
  rename_i a b c d
  refine spec_ok (C := N0) okF13 noCall_ok Tryz.func121 (by kernel_rfl) (by kernel_rfl) (fun hp => Eq.mpr (g121_in _ _ _ _ _) (brn_intro (fun h => ?_) (fun h => brn_intro (fun h2 => ?_) (fun h2 => ?_))))
  · unfold cmpU; rw [if_pos h]; first | done | rfl
  · unfold cmpU; rw [if_neg (by rw [h]; decide), if_pos h2]; first | done | rfl
  · unfold cmpU; rw [if_neg (by rw [h]; decide), if_neg (by rw [h2]; decide)]; first | done | rfl
theorem ok69e : ∀ args pres res, sMinus args = some (pres, res) → SpecOK Tryz.prog G16 69 args pres res := by
  intro args pres res h
  unfold sMinus at h
  split at h
  case h_2 => cases h
  cases h
  rename_i t c
  refine spec_ok (C := N0) okF13 noCall_ok Tryz.func69 (by kernel_rfl) (by kernel_rfl) (fun hp => Eq.mpr (g69_in _ _ _) (brn_intro (fun h => ?_) (fun h => brn_intro (fun h2 => ?_) (fun h2 => ?_))))
  · unfold minU; rw [if_pos h]; first | done | rfl
  · unfold minU; rw [if_neg (by rw [h]; decide), if_pos h2]; first | done | rfl
  · unfold minU; rw [if_neg (by rw [h]; decide), if_neg (by rw [h2]; decide)]; first | done | rfl
theorem ok94e : ∀ args pres res, sFail9 args = some (pres, res) → SpecOK Tryz.prog G16 94 args pres res := by
  intro args pres res h
  unfold sFail9 at h
  split at h
  case h_2 => cases h
  cases h
  exact spec_ok (C := N0) okF13 noCall_ok Tryz.func94 (by kernel_rfl) (by kernel_rfl) (fun hp => Eq.mpr (g94_in _ _) rfl)
theorem ok118e : ∀ args pres res, sVDay args = some (pres, res) → SpecOK Tryz.prog G16 118 args pres res := by
  intro args pres res h
  unfold sVDay at h
  split at h
  case h_2 => cases h
  cases h
  rename_i a b c d e f
  refine spec_ok (C := N0) okF13 noCall_ok Tryz.func118 (by kernel_rfl) (by kernel_rfl) (fun hp => Eq.mpr (g118_in _ _ _ _ _ _ _) (brn_intro (fun h => ?_) (fun h => brn_intro (fun h2 => ?_) (fun h2 => brn_intro (fun h3 => ?_) (fun h3 => ?_)))))
  · unfold vDay; rw [if_pos h]; first | done | rfl
  · unfold vDay; rw [if_neg (by rw [h]; decide), if_pos h2]; first | done | rfl
  · unfold vDay; rw [if_neg (by rw [h]; decide), if_neg (by rw [h2]; decide), if_pos h3]; first | done | rfl
  · unfold vDay; rw [if_neg (by rw [h]; decide), if_neg (by rw [h2]; decide), if_neg (by rw [h3]; decide)]; first | done | rfl
theorem okF20 : EOK Tryz.prog F20 G16 := addE_ok (addE_ok (addE_ok (addE_ok (addE_ok (addE_ok (addE_ok (addE_ok okF13 ok119e) ok123e) ok134e) ok140e) ok121e) ok69e) ok94e) ok118e
theorem ok135e : ∀ args pres res, sMD args = some (pres, res) → SpecOK Tryz.prog G16 135 args pres res := by
  intro args pres res h
  unfold sMD at h
  split at h
  case h_2 => cases h
  cases h
  rename_i y m
  refine spec_ok (C := N1) okF20 noCall_ok Tryz.func135 (by kernel_rfl) (by kernel_rfl) (fun hp => Eq.mpr (g135_in _ _ _) ?_)
  unfold mdU
  cases h4 : (m == 4 : Bool) with
  | true => exact brn_T rfl (brn_T rfl rfl)
  | false =>
    cases h6 : (m == 6 : Bool) with
    | true => exact brn_Fa rfl (brn_T rfl (brn_T rfl rfl))
    | false =>
      cases h9 : (m == 9 : Bool) with
      | true => exact brn_Fa rfl (brn_Fa rfl (brn_T rfl (brn_T rfl rfl)))
      | false =>
        cases h11 : (m == 11 : Bool) with
        | true => exact brn_Fa rfl (brn_Fa rfl (brn_Fa rfl (brn_T rfl rfl)))
        | false =>
          refine brn_Fa rfl (brn_Fa rfl (brn_Fa rfl (brn_Fa rfl ?_)))
          cases h2 : (m == 2 : Bool) with
          | true =>
            refine brn_T rfl ?_
            cases leapU y with
            | true => exact brn_T rfl rfl
            | false => exact brn_Fa rfl rfl
          | false => exact brn_Fa rfl rfl
theorem ok100e : ∀ args pres res, sSplit args = some (pres, res) → SpecOK Tryz.prog G16 100 args pres res := by
  intro args pres res h
  unfold sSplit at h
  split at h
  case h_2 => cases h
  cases h
  rename_i t
  refine spec_ok (C := N1) okF20 noCall_ok Tryz.func100 (by kernel_rfl) (by kernel_rfl) (fun hp => Eq.mpr (g100_in _ _) ⟨by decide, brn_intro (fun h => ⟨by decide, by decide, by decide, ?_⟩) (fun h => ⟨by decide, by decide, by decide, ?_⟩)⟩)
  · have h' := of_decide_eq_true h
    unfold splD splS; rw [if_pos h']; first | done | rfl
  · have h' := of_decide_eq_false h
    unfold splD splS; rw [if_neg h']; first | done | rfl
theorem okF21 : EOK Tryz.prog F21 G16 := addE_ok (addE_ok okF20 ok135e) ok100e
theorem md_rng (y m : Int) : 28 ≤ mdU y m ∧ mdU y m ≤ 31 := by
  unfold mdU
  split
  · omega
  · split
    · cases leapU y
      · exact ⟨by decide, by decide⟩
      · exact ⟨by decide, by decide⟩
    · omega
theorem yd_ex (y m d : Int) (m1 : 1 ≤ m) (m2 : m ≤ 14) (d1 : -1000000 ≤ d) (d2 : d ≤ 1000000) : ∃ v : Int, (-2000000 ≤ v ∧ v ≤ 2000000) ∧ ∀ K : List AV → Prop, K [i64 v] → evSpec N2 Tryz.f141 [i64 y, i64 m, i64 d] K := by
  have w1 : IntKind.wrap .i64 (d - 1) = d - 1 := wrap64 (by omega) (by omega)
  refine Exists.elim (loop_det (C := N2) (c := loopB (bodyOf Tryz.f141) 0) (fun s : Int × Int => h141 y m s.2 s.1) (fun s => 1 ≤ s.1 ∧ s.1 ≤ m ∧ -1000001 ≤ s.2 ∧ s.2 ≤ 1000000 + 31 * (s.1 - 1)) (fun s => (m - s.1).toNat) (fun v : Int => -2000000 ≤ v ∧ v ≤ 2000000) (fun v => [i64 v])
    (fun K => loopK N2 (bodyOf Tryz.f141) 0 (finK N2 Tryz.f141 K)) rfl (fun s hs => ?_) (1, d - 1) ⟨Int.le_refl 1, m1, by show -1000001 ≤ d - 1; omega, by show d - 1 ≤ _; omega⟩) (fun v hv' => ?_)
  · obtain ⟨i, n⟩ := s
    obtain ⟨a1, a2, a3, a4⟩ := hs
    simp only at a1 a2 a3 a4
    have hm := md_rng y i
    by_cases h : i < m
    · have e1 : IntKind.wrap .i64 (n + mdU y i) = n + mdU y i := wrap64 (by omega) (by omega)
      have e2 : IntKind.wrap .i64 (i + 1) = i + 1 := wrap64 (by omega) (by omega)
      refine .inl ⟨(i + 1, n + mdU y i), p141, _, ⟨by show 1 ≤ i + 1; omega, by show i + 1 ≤ m; omega, by show _ ≤ n + _; omega, by show n + _ ≤ 1000000 + 31 * (i + 1 - 1); omega⟩, by show (m - (i + 1)).toNat < (m - i).toNat; omega, ?_, fun K' hK' => by
        rw [g141_lp]
        exact brn_T (decide_eq_true h) hK'⟩
      rw [e1, e2]
      kernel_rfl
    · refine .inr ⟨.exit 0, _, by simp, fun K' hK' => by
        rw [g141_lp]
        exact brn_Fa (decide_eq_false h) hK', n, ⟨by omega, by omega⟩, fun K hK => ?_⟩
      have key : loopK N2 (bodyOf Tryz.f141) 0 (finK N2 Tryz.f141 K) (AX.exit 0) (o141 y m n i) := Eq.mpr (g141_out y m n i K) hK
      exact Eq.mp (by kernel_rfl) key
  · obtain ⟨hv, hk⟩ := hv'
    refine ⟨v, hv, fun K hK => ?_⟩
    rw [g141_in]
    unfold LoopI
    exact hk K hK p141 _ (by rw [w1]; kernel_rfl)
theorem sh_ex (a b : Int) (a1 : -1000000000000000 ≤ a) (a2 : a ≤ 1000000000000000) (b1 : -1000000 ≤ b) (b2 : b ≤ 1000000) : ∃ v : Int × Int, True ∧ ∀ K : List AV → Prop, K [.agg [i64 v.1, i64 v.2]] → evSpec N2 Tryz.f132 [i64 a, i64 b] K := by
  have second : ∀ a b : Int, -2000000000000000 ≤ a → a ≤ 2000000000000000 → 0 ≤ b → b ≤ 1000000 → ∃ v : Int × Int, True ∧ ∀ K : List AV → Prop, K [.agg [i64 v.1, i64 v.2]] → ∀ p st, norm p st = some (h132 a b) → evCode N2 (.loop (loopB (bodyOf Tryz.f132) 1)) st (loopK N2 (bodyOf Tryz.f132) 1 (finK N2 Tryz.f132 K)) := by
    intro a b a1 a2 b1 b2
    refine loop_det (C := N2) (c := loopB (bodyOf Tryz.f132) 1) (fun s : Int × Int => h132 s.1 s.2) (fun s => -2000000000000000 ≤ s.1 ∧ s.1 + s.2 ≤ 2000000001000000 ∧ 0 ≤ s.2 ∧ s.2 ≤ 1000000) (fun s => s.2.toNat) (fun _ : Int × Int => True) (fun v => [.agg [i64 v.1, i64 v.2]])
      (fun K => loopK N2 (bodyOf Tryz.f132) 1 (finK N2 Tryz.f132 K)) rfl (fun s hs => ?_) (a, b) ⟨a1, by show a + b ≤ _; omega, b1, b2⟩
    obtain ⟨a, b⟩ := s
    obtain ⟨q1, q2, q3, q4⟩ := hs
    simp only at q1 q2 q3 q4
    by_cases h : b ≥ 86400
    · have e1 : IntKind.wrap .i64 (a + 1) = a + 1 := wrap64 (by omega) (by omega)
      have e2 : IntKind.wrap .i64 (b - 86400) = b - 86400 := wrap64 (by omega) (by omega)
      refine .inl ⟨(a + 1, b - 86400), p132, _, ⟨by show _ ≤ a + 1; omega, by show a + 1 + (b - 86400) ≤ _; omega, by show 0 ≤ b - 86400; omega, by show b - 86400 ≤ _; omega⟩, by show (b - 86400).toNat < b.toNat; omega, ?_, fun K' hK' => by
        rw [g132_lp2]
        exact brn_T (decide_eq_true h) hK'⟩
      rw [e1, e2]
      kernel_rfl
    · refine .inr ⟨.exit 2, _, by simp, fun K' hK' => by
        rw [g132_lp2]
        exact brn_Fa (decide_eq_false h) hK', (a, b), trivial, fun K hK => ?_⟩
      have key : loopK N2 (bodyOf Tryz.f132) 1 (finK N2 Tryz.f132 K) (AX.exit 2) (q132 a b) := Eq.mpr (g132_out2 a b K) hK
      exact Eq.mp (by kernel_rfl) key
  refine Exists.elim (loop_det (C := N2) (c := loopB (bodyOf Tryz.f132) 0) (fun s : Int × Int => h132 s.1 s.2) (fun s => s.1 ≤ 1000000000000000 ∧ -1100000000000000 ≤ s.1 + s.2 ∧ -1000000 ≤ s.2 ∧ s.2 ≤ 1000000) (fun s => (1000000 - s.2).toNat) (fun _ : Int × Int => True) (fun v => [.agg [i64 v.1, i64 v.2]])
    (fun K => loopK N2 (bodyOf Tryz.f132) 0 (finK N2 Tryz.f132 K)) rfl (fun s hs => ?_) (a, b) ⟨a2, by show _ ≤ a + b; omega, b1, b2⟩) (fun v hv' => ?_)
  · obtain ⟨a, b⟩ := s
    obtain ⟨q1, q2, q3, q4⟩ := hs
    simp only at q1 q2 q3 q4
    by_cases h : b < 0
    · have e1 : IntKind.wrap .i64 (a - 1) = a - 1 := wrap64 (by omega) (by omega)
      have e2 : IntKind.wrap .i64 (b + 86400) = b + 86400 := wrap64 (by omega) (by omega)
      refine .inl ⟨(a - 1, b + 86400), p132, _, ⟨by show a - 1 ≤ _; omega, by show _ ≤ a - 1 + (b + 86400); omega, by show _ ≤ b + 86400; omega, by show b + 86400 ≤ _; omega⟩, by show (1000000 - (b + 86400)).toNat < (1000000 - b).toNat; omega, ?_, fun K' hK' => by
        rw [g132_lp]
        exact brn_T (decide_eq_true h) hK'⟩
      rw [e1, e2]
      kernel_rfl
    · obtain ⟨v, hv, hk⟩ := second a b (by omega) (by omega) (by omega) q4
      refine .inr ⟨.exit 0, _, by simp, fun K' hK' => by
        rw [g132_lp]
        exact brn_Fa (decide_eq_false h) hK', v, trivial, fun K hK => ?_⟩
      have key : loopK N2 (bodyOf Tryz.f132) 0 (finK N2 Tryz.f132 K) (AX.exit 0) (o132 a b) := by
        refine Eq.mpr (g132_out a b K) ?_
        unfold LoopI
        exact hk K hK p132 _ (by kernel_rfl)
      exact Eq.mp (by kernel_rfl) key
  · obtain ⟨hv, hk⟩ := hv'
    refine ⟨v, hv, fun K hK => ?_⟩
    rw [g132_in]
    unfold LoopI
    exact hk K hK p132 _ (by kernel_rfl)
theorem tdiv_rng {a b n : Int} (hb : 0 < b) (h1 : -(b * n) ≤ a) (h2 : a ≤ b * n) : -n ≤ a.tdiv b ∧ a.tdiv b ≤ n := by
  have hb' : b ≠ 0 := by omega
  have e := Int.tmod_add_mul_tdiv a b
  have m1 := Int.tmod_lt_of_pos a hb
  have m2 : -b < a.tmod b := by
    have := Int.lt_tmod_of_pos a hb
    omega
  generalize a.tdiv b = q at *
  generalize a.tmod b = r at *
  constructor
  · rcases Int.lt_or_le q (-n) with h | h
    · exfalso
      have : b * q ≤ b * (-n - 1) := Int.mul_le_mul_of_nonneg_left (by omega) (by omega)
      have e2 : b * (-n - 1) = -(b * n) - b := by rw [Int.mul_sub, Int.mul_neg, Int.mul_one]
      omega
    · exact h
  · rcases Int.lt_or_le n q with h | h
    · exfalso
      have : b * (n + 1) ≤ b * q := Int.mul_le_mul_of_nonneg_left (by omega) (by omega)
      have e2 : b * (n + 1) = b * n + b := by rw [Int.mul_add, Int.mul_one]
      omega
    · exact h
theorem date_ex (a : Int) (a1 : -200000000000000 ≤ a) (a2 : a ≤ 200000000000000) : ∃ v : Int × Int × Int, (-900000000000 ≤ v.1 ∧ v.1 ≤ 900000000000) ∧ ∀ K : List AV → Prop, K [i64 v.1, i64 v.2.1, i64 v.2.2] → evSpec N2 Tryz.f122 [i64 a] K := by
  have second : ∀ q n y : Int, -2000000000 ≤ q → q ≤ 2000000000 → 0 ≤ n → n ≤ 400 → 0 ≤ y → y ≤ 1000 → ∃ v : Int × Int × Int, (-900000000000 ≤ v.1 ∧ v.1 ≤ 900000000000) ∧ ∀ K : List AV → Prop, K [i64 v.1, i64 v.2.1, i64 v.2.2] → ∀ p st, norm p st = some (h122b q n y 1) →
      evCode N2 (.loop (loopB (bodyOf Tryz.f122) 1)) st (loopK N2 (bodyOf Tryz.f122) 1 (finK N2 Tryz.f122 K)) := by
    intro q n y q1 q2 n1 n2 y1 y2
    refine loop_det (C := N2) (c := loopB (bodyOf Tryz.f122) 1) (fun s : Int × Int => h122b q s.1 y s.2) (fun s => 0 ≤ s.1 ∧ s.1 ≤ 400 ∧ 1 ≤ s.2 ∧ s.2 + s.1 ≤ 500) (fun s => s.1.toNat) (fun v : Int × Int × Int => -900000000000 ≤ v.1 ∧ v.1 ≤ 900000000000) (fun v => [i64 v.1, i64 v.2.1, i64 v.2.2])
      (fun K => loopK N2 (bodyOf Tryz.f122) 1 (finK N2 Tryz.f122 K)) rfl (fun s hs => ?_) (n, 1) ⟨n1, n2, Int.le_refl 1, by show 1 + n ≤ 500; omega⟩
    obtain ⟨n, m⟩ := s
    obtain ⟨r1, r2, r3, r4⟩ := hs
    simp only at r1 r2 r3 r4
    have hm := md_rng y m
    by_cases h : n ≥ mdU y m
    · have e1 : IntKind.wrap .i64 (n - mdU y m) = n - mdU y m := wrap64 (by omega) (by omega)
      have e2 : IntKind.wrap .i64 (m + 1) = m + 1 := wrap64 (by omega) (by omega)
      refine .inl ⟨(n - mdU y m, m + 1), p122b, _, ⟨by show 0 ≤ n - _; omega, by show n - _ ≤ 400; omega, by show 1 ≤ m + 1; omega, by show m + 1 + (n - _) ≤ 500; omega⟩, by show (n - mdU y m).toNat < n.toNat; omega, ?_, fun K' hK' => by
        rw [g122_lp2]
        exact brn_T (decide_eq_true h) hK'⟩
      rw [e1, e2]
      kernel_rfl
    · have e1 : IntKind.wrap .i64 (400 * q) = 400 * q := wrap64 (by omega) (by omega)
      have e2 : IntKind.wrap .i64 (2000 + 400 * q) = 2000 + 400 * q := wrap64 (by omega) (by omega)
      have e3 : IntKind.wrap .i64 (2000 + 400 * q + y) = 2000 + 400 * q + y := wrap64 (by omega) (by omega)
      refine .inr ⟨.exit 2, _, by simp, fun K' hK' => by
        rw [g122_lp2]
        exact brn_Fa (decide_eq_false h) hK', (2000 + 400 * q + y, m, IntKind.wrap .i64 (n + 1)), ⟨by show _ ≤ 2000 + 400 * q + y; omega, by show 2000 + 400 * q + y ≤ _; omega⟩, fun K hK => ?_⟩
      have key : loopK N2 (bodyOf Tryz.f122) 1 (finK N2 Tryz.f122 K) (AX.exit 2) (o122b q n y m) := by
        refine Eq.mpr (g122_out2 q n y m K) ?_
        rw [e1, e2, e3]
        exact hK
      exact Eq.mp (by kernel_rfl) key
  have first : ∀ q n : Int, -2000000000 ≤ q → q ≤ 2000000000 → 0 ≤ n → n ≤ 146097 → ∃ v : Int × Int × Int, (-900000000000 ≤ v.1 ∧ v.1 ≤ 900000000000) ∧ ∀ K : List AV → Prop, K [i64 v.1, i64 v.2.1, i64 v.2.2] → ∀ p st, norm p st = some (h122 q n 0) →
      evCode N2 (.loop (loopB (bodyOf Tryz.f122) 0)) st (loopK N2 (bodyOf Tryz.f122) 0 (finK N2 Tryz.f122 K)) := by
    intro q n q1 q2 n1 n2
    refine loop_det (C := N2) (c := loopB (bodyOf Tryz.f122) 0) (fun s : Int × Int => h122 q s.1 s.2) (fun s => 0 ≤ s.1 ∧ s.1 ≤ 146097 ∧ 0 ≤ s.2 ∧ 365 * s.2 + s.1 ≤ 146097) (fun s => s.1.toNat) (fun v : Int × Int × Int => -900000000000 ≤ v.1 ∧ v.1 ≤ 900000000000) (fun v => [i64 v.1, i64 v.2.1, i64 v.2.2])
      (fun K => loopK N2 (bodyOf Tryz.f122) 0 (finK N2 Tryz.f122 K)) rfl (fun s hs => ?_) (n, 0) ⟨n1, n2, Int.le_refl 0, by show 365 * 0 + n ≤ _; omega⟩
    obtain ⟨n, y⟩ := s
    obtain ⟨r1, r2, r3, r4⟩ := hs
    simp only at r1 r2 r3 r4
    have e2 : IntKind.wrap .i64 (y + 1) = y + 1 := wrap64 (by omega) (by omega)
    have out : ∀ (l : Int) (b : Bool), n < 366 → ∃ v : Int × Int × Int, (-900000000000 ≤ v.1 ∧ v.1 ≤ 900000000000) ∧ ∀ K : List AV → Prop, K [i64 v.1, i64 v.2.1, i64 v.2.2] → loopK N2 (bodyOf Tryz.f122) 0 (finK N2 Tryz.f122 K) (AX.exit 0) (o122 q n y l b) := by
      intro l b hn
      obtain ⟨v, hv, hk⟩ := second q n y q1 q2 r1 (by omega) r3 (by omega)
      refine ⟨v, hv, fun K hK => ?_⟩
      refine Eq.mpr (g122_out q n y l b K) ?_
      unfold LoopI
      exact hk K hK p122b _ (by kernel_rfl)
    cases hl : leapU y with
    | true =>
      by_cases h : n < 366
      · obtain ⟨v, hv, hk⟩ := out 366 true h
        refine .inr ⟨.exit 0, _, by simp, fun K' hK' => by
          rw [g122_lp, hl]
          exact brn_T rfl (brn_T (decide_eq_true h) hK'), v, hv, fun K hK => ?_⟩
        exact Eq.mp (by kernel_rfl) (hk K hK)
      · have e1 : IntKind.wrap .i64 (n - 366) = n - 366 := wrap64 (by omega) (by omega)
        refine .inl ⟨(n - 366, y + 1), p122, _, ⟨by show 0 ≤ n - 366; omega, by show n - 366 ≤ _; omega, by show 0 ≤ y + 1; omega, by show 365 * (y + 1) + (n - 366) ≤ _; omega⟩, by show (n - 366).toNat < n.toNat; omega, ?_, fun K' hK' => by
          rw [g122_lp, hl]
          exact brn_T rfl (brn_Fa (decide_eq_false h) hK')⟩
        rw [e1, e2]
        kernel_rfl
    | false =>
      by_cases h : n < 365
      · obtain ⟨v, hv, hk⟩ := out 365 false (by omega)
        refine .inr ⟨.exit 0, _, by simp, fun K' hK' => by
          rw [g122_lp, hl]
          exact brn_Fa rfl (brn_T (decide_eq_true h) hK'), v, hv, fun K hK => ?_⟩
        exact Eq.mp (by kernel_rfl) (hk K hK)
      · have e1 : IntKind.wrap .i64 (n - 365) = n - 365 := wrap64 (by omega) (by omega)
        refine .inl ⟨(n - 365, y + 1), p122, _, ⟨by show 0 ≤ n - 365; omega, by show n - 365 ≤ _; omega, by show 0 ≤ y + 1; omega, by show 365 * (y + 1) + (n - 365) ≤ _; omega⟩, by show (n - 365).toNat < n.toNat; omega, ?_, fun K' hK' => by
          rw [g122_lp, hl]
          exact brn_Fa rfl (brn_Fa (decide_eq_false h) hK')⟩
        rw [e1, e2]
        kernel_rfl
  have w0 : IntKind.wrap .i64 (a - 10957) = a - 10957 := wrap64 (by omega) (by omega)
  obtain ⟨t1, t2⟩ := tdiv_rng (a := a - 10957) (b := 146097) (n := 1999999990) (by decide) (by omega) (by omega)
  have m1 := Int.tmod_lt_of_pos (a - 10957) (show (0 : Int) < 146097 by decide)
  have m2 := Int.lt_tmod_of_pos (a - 10957) (show (0 : Int) < 146097 by decide)
  have w1 : IntKind.wrap .i64 (Int.tdiv (a - 10957) 146097) = Int.tdiv (a - 10957) 146097 := wrap64 (by omega) (by omega)
  have w2 : IntKind.wrap .i64 (Int.tdiv (a - 10957) 146097 - 1) = Int.tdiv (a - 10957) 146097 - 1 := wrap64 (by omega) (by omega)
  have w3 : IntKind.wrap .i64 (Int.tmod (a - 10957) 146097 + 146097) = Int.tmod (a - 10957) 146097 + 146097 := wrap64 (by omega) (by omega)
  by_cases h : Int.tmod (a - 10957) 146097 < 0
  · obtain ⟨v, hv, hk⟩ := first (Int.tdiv (a - 10957) 146097 - 1) (Int.tmod (a - 10957) 146097 + 146097) (by omega) (by omega) (by omega) (by omega)
    refine ⟨v, hv, fun K hK => ?_⟩
    rw [g122_in, w0, w1, w2, w3]
    refine ⟨by decide, by decide, brn_T (decide_eq_true h) ?_⟩
    unfold LoopI
    exact hk K hK p122 _ (by kernel_rfl)
  · obtain ⟨v, hv, hk⟩ := first (Int.tdiv (a - 10957) 146097) (Int.tmod (a - 10957) 146097) (by omega) (by omega) (by omega) (by omega)
    refine ⟨v, hv, fun K hK => ?_⟩
    rw [g122_in, w0, w1, w2, w3]
    refine ⟨by decide, by decide, brn_Fa (decide_eq_false h) ?_⟩
    unfold LoopI
    exact hk K hK p122 _ (by kernel_rfl)
end Y27
set_option maxRecDepth 100000
namespace Y27
open Go Go.AE Go.Proofs E6
noncomputable def ydV (y m d : Int) : Int := Classical.epsilon fun v : Int => (-2000000 ≤ v ∧ v ≤ 2000000) ∧ ∀ K : List AV → Prop, K [i64 v] → evSpec N2 Tryz.f141 [i64 y, i64 m, i64 d] K
noncomputable def shV (a b : Int) : Int × Int := Classical.epsilon fun v : Int × Int => True ∧ ∀ K : List AV → Prop, K [.agg [i64 v.1, i64 v.2]] → evSpec N2 Tryz.f132 [i64 a, i64 b] K
noncomputable def dtV (a : Int) : Int × Int × Int := Classical.epsilon fun v : Int × Int × Int => (-900000000000 ≤ v.1 ∧ v.1 ≤ 900000000000) ∧ ∀ K : List AV → Prop, K [i64 v.1, i64 v.2.1, i64 v.2.2] → evSpec N2 Tryz.f122 [i64 a] K
noncomputable def sYD : List AV → Option (List Prop × List AV)
  | [.imm (.int .i64 y), .imm (.int .i64 m), .imm (.int .i64 d)] => some ([1 ≤ m, m ≤ 14, -1000000 ≤ d, d ≤ 1000000], [i64 (ydV y m d)])
  | _ => none
noncomputable def sShift : List AV → Option (List Prop × List AV)
  | [.imm (.int .i64 a), .imm (.int .i64 b)] => some ([-1000000000000000 ≤ a, a ≤ 1000000000000000, -1000000 ≤ b, b ≤ 1000000], [.agg [i64 (shV a b).1, i64 (shV a b).2]])
  | _ => none
noncomputable def sDate : List AV → Option (List Prop × List AV)
  | [.imm (.int .i64 a)] => some ([-200000000000000 ≤ a, a ≤ 200000000000000], [i64 (dtV a).1, i64 (dtV a).2.1, i64 (dtV a).2.2])
  | _ => none
noncomputable def F22 := addE (addE (addE F21 141 sYD) 132 sShift) 122 sDate
noncomputable def N3 : Cx := ⟨Tryz.prog, F22, noCall, G16, 4020⟩
theorem yd_spec {y m d : Int} (m1 : 1 ≤ m) (m2 : m ≤ 14) (d1 : -1000000 ≤ d) (d2 : d ≤ 1000000) : (-2000000 ≤ ydV y m d ∧ ydV y m d ≤ 2000000) ∧ ∀ K : List AV → Prop, K [i64 (ydV y m d)] → evSpec N2 Tryz.f141 [i64 y, i64 m, i64 d] K :=
  Classical.epsilon_spec (yd_ex y m d m1 m2 d1 d2)
theorem sh_spec {a b : Int} (a1 : -1000000000000000 ≤ a) (a2 : a ≤ 1000000000000000) (b1 : -1000000 ≤ b) (b2 : b ≤ 1000000) : True ∧ ∀ K : List AV → Prop, K [.agg [i64 (shV a b).1, i64 (shV a b).2]] → evSpec N2 Tryz.f132 [i64 a, i64 b] K :=
  Classical.epsilon_spec (sh_ex a b a1 a2 b1 b2)
theorem dt_spec {a : Int} (a1 : -200000000000000 ≤ a) (a2 : a ≤ 200000000000000) : (-900000000000 ≤ (dtV a).1 ∧ (dtV a).1 ≤ 900000000000) ∧ ∀ K : List AV → Prop, K [i64 (dtV a).1, i64 (dtV a).2.1, i64 (dtV a).2.2] → evSpec N2 Tryz.f122 [i64 a] K :=
  Classical.epsilon_spec (date_ex a a1 a2)
theorem ok141e : ∀ args pres res, sYD args = some (pres, res) → SpecOK Tryz.prog G16 141 args pres res := by
  intro args pres res h
  unfold sYD at h
  split at h
  case h_2 => cases h
  cases h
  exact spec_ok (C := N2) okF21 noCall_ok Tryz.func141 (by kernel_rfl) (by kernel_rfl) (fun hp => (yd_spec (hp _ (by simp)) (hp _ (by simp)) (hp _ (by simp)) (hp _ (by simp))).2 _ rfl)
theorem ok132e : ∀ args pres res, sShift args = some (pres, res) → SpecOK Tryz.prog G16 132 args pres res := by
  intro args pres res h
  unfold sShift at h
  split at h
  case h_2 => cases h
  cases h
  exact spec_ok (C := N2) okF21 noCall_ok Tryz.func132 (by kernel_rfl) (by kernel_rfl) (fun hp => (sh_spec (hp _ (by simp)) (hp _ (by simp)) (hp _ (by simp)) (hp _ (by simp))).2 _ rfl)
theorem ok122e : ∀ args pres res, sDate args = some (pres, res) → SpecOK Tryz.prog G16 122 args pres res := by
  intro args pres res h
  unfold sDate at h
  split at h
  case h_2 => cases h
  cases h
  exact spec_ok (C := N2) okF21 noCall_ok Tryz.func122 (by kernel_rfl) (by kernel_rfl) (fun hp => (dt_spec (hp _ (by simp)) (hp _ (by simp))).2 _ rfl)
theorem okF22 : EOK Tryz.prog F22 G16 := addE_ok (addE_ok (addE_ok okF21 ok141e) ok132e) ok122e
end Y27
set_option maxRecDepth 100000
namespace Y27
open Go Go.AE Go.Proofs E6
attribute [local irreducible] loopK evCode evSpec loopB norm
theorem g139_in (y : Int) (m : Int) (d : Int) (K : List AV → Prop) : evSpec N3 Tryz.f139 [i64 y, i64 m, i64 d] K = (LoopI N3 (bodyOf Tryz.f139) 0 (St.mk (lapp [i64 y, i64 m, i64 d, .dead, .dead, .dead, i64 0, i64 (eraK y), i64 (eraR y), i64 (IntKind.wrap .i64 ((10957 : Int) + IntKind.wrap .i64 (eraK y * 146097))), i64 0, .tup [i64 (eraK y), i64 (eraR y)], i64 y, .tup [i64 (eraK y), i64 (eraR y)], i64 (eraK y), i64 (eraR y), i64 (eraK y), i64 (IntKind.wrap .i64 (eraK y * 146097)), i64 (IntKind.wrap .i64 ((10957 : Int) + IntKind.wrap .i64 (eraK y * 146097)))] (dN 17)) [] 0 []) (finK N3 Tryz.f139 K)) := by kernel_rfl
theorem g139_lp (y : Int) (m : Int) (d : Int) (r : Int) (n : Int) (i : Int) (k : AX → St → Prop) : evCode N3 (loopB (bodyOf Tryz.f139) 0) (h139 y m d r n i) k = (brn (decide (i < r)) (brn (leapU i) (k AX.normal (St.mk (lapp [i64 y, i64 m, i64 d] (lapp (dN 5) (lapp [i64 r, i64 (IntKind.wrap .i64 (IntKind.wrap .i64 (n + 365) + 1)), i64 (IntKind.wrap .i64 (i + 1))] (lapp (dN 8) (lapp [i64 i, .dead, .dead, i64 i, i64 (IntKind.wrap .i64 (i + 1))] (dN 12)))))) [] 0 [])) (k AX.normal (St.mk (lapp [i64 y, i64 m, i64 d] (lapp (dN 5) (lapp [i64 r, i64 (IntKind.wrap .i64 (n + 365)), i64 (IntKind.wrap .i64 (i + 1))] (lapp (dN 8) (lapp [i64 i, .dead, .dead, i64 i, i64 (IntKind.wrap .i64 (i + 1))] (dN 12)))))) [] 0 []))) (k (AX.exit 0) (St.mk (lapp [i64 y, i64 m, i64 d] (lapp (dN 5) (lapp [i64 r, i64 n, i64 i] (lapp (dN 8) (lapp [i64 i, i64 r, bo (decide (i < r))] (dN 14)))))) [] 0 []))) := by kernel_rfl
theorem g139_out (y : Int) (m : Int) (d : Int) (r : Int) (n : Int) (i : Int) (K : List AV → Prop) : loopK N3 (bodyOf Tryz.f139) 0 (finK N3 Tryz.f139 K) (AX.exit 0) (o139 y m d r n i) = ((1 : Int) ≤ m ∧ m ≤ 14 ∧ (-1000000 : Int) ≤ d ∧ d ≤ 1000000 ∧ K [i64 (IntKind.wrap .i64 (n + ydV y m d))]) := by kernel_rfl
theorem g102_in (t : Int) (K : List AV → Prop) : evSpec N3 Tryz.f102 [i64 t] K = ((-200000000000000 : Int) ≤ splD t ∧ splD t ≤ 200000000000000 ∧ (3600 : Int) ≠ 0 ∧ (3600 : Int) ≠ 0 ∧ (60 : Int) ≠ 0 ∧ (60 : Int) ≠ 0 ∧ K [.agg [i64 ((dtV (splD t)).1), i64 ((dtV (splD t)).2.1), i64 ((dtV (splD t)).2.2), i64 (IntKind.wrap .i64 (Int.tdiv (splS t) (3600 : Int))), i64 (IntKind.wrap .i64 (Int.tdiv (Int.tmod (splS t) (3600 : Int)) (60 : Int))), i64 (Int.tmod (splS t) (60 : Int)), i64 (wkU (splD t))]]) := by kernel_rfl
end Y27
set_option maxRecDepth 100000
namespace Y27
open Go Go.AE Go.Proofs E6
noncomputable def dyV (y m d : Int) : Int := Classical.epsilon fun v : Int => (-500000000000000 ≤ v ∧ v ≤ 500000000000000) ∧ ∀ K : List AV → Prop, K [i64 v] → evSpec N3 Tryz.f139 [i64 y, i64 m, i64 d] K
noncomputable def ofC (t : Int) : List AV := [i64 (dtV (splD t)).1, i64 (dtV (splD t)).2.1, i64 (dtV (splD t)).2.2, i64 (IntKind.wrap .i64 (Int.tdiv (splS t) 3600)), i64 (IntKind.wrap .i64 (Int.tdiv (Int.tmod (splS t) 3600) 60)), i64 (Int.tmod (splS t) 60), i64 (wkU (splD t))]
noncomputable def sDays : List AV → Option (List Prop × List AV)
  | [.imm (.int .i64 y), .imm (.int .i64 m), .imm (.int .i64 d)] => some ([-1000000000000 ≤ y, y ≤ 1000000000000, 1 ≤ m, m ≤ 14, -1000000 ≤ d, d ≤ 1000000], [i64 (dyV y m d)])
  | _ => none
noncomputable def sOf : List AV → Option (List Prop × List AV)
  | [.imm (.int .i64 t)] => some ([-9223372036854775808 ≤ t, t ≤ 9223372036854775807], [.agg (ofC t)])
  | _ => none
noncomputable def F23 := addE (addE F22 139 sDays) 102 sOf
noncomputable def N4 : Cx := ⟨Tryz.prog, F23, noCall, G16, 4012⟩
def rdO (a b c d e f : Int) : List (Nat × Ob) := [(0, ⟨true, 0, .cells (rdC a b c d e f)⟩)]
def h133 (a b c d e f y m g : Int) : St := ⟨spr [(1, i64 y), (2, .ptr 0 0), (6, i64 m), (7, i64 g)] 0 71, rdO a b c d e f, 1, []⟩
def o133 (a b c d e f y m g : Int) : St := ⟨spr [(1, i64 y), (2, .ptr 0 0), (6, i64 m), (7, i64 g), (26, i64 g), (27, i64 m), (28, i64 (mdU 2001 m)), (29, bo (decide (g > mdU 2001 m)))] 0 71, rdO a b c d e f, 1, []⟩
def p133 : Plan := ⟨[], msk [1, 2, 6, 7] 0 71, [0]⟩
def h133b (a b c d e f y s u x n : Int) : St := ⟨spr [(1, i64 y), (2, .ptr 0 0), (8, i64 s), (9, i64 u), (10, i64 x), (11, i64 n)] 0 71, rdO a b c d e f, 1, []⟩
def o133b (a b c d e f y s u x n : Int) : St := ⟨spr [(1, i64 y), (2, .ptr 0 0), (8, i64 s), (9, i64 u), (10, i64 x), (11, i64 n), (46, i64 n), (47, i64 s), (48, i64 y), (49, .ptr 0 2), (50, i64 c), (51, i64 (mdU y c)), (52, i64 (IntKind.wrap .i64 (s + mdU y c))), (53, bo (decide (n < IntKind.wrap .i64 (s + mdU y c))))] 0 71, rdO a b c d e f, 1, []⟩
def p133b : Plan := ⟨[], msk [1, 2, 8, 9, 10, 11] 0 71, [0]⟩
attribute [local irreducible] loopK evCode evSpec loopB norm
theorem era_rng {y : Int} (y1 : -1000000000000 ≤ y) (y2 : y ≤ 1000000000000) : -2600000000 ≤ eraK y ∧ eraK y ≤ 2600000000 ∧ 0 ≤ eraR y ∧ eraR y < 400 := by
  have w0 : IntKind.wrap .i64 (y - 2000) = y - 2000 := wrap64 (by omega) (by omega)
  obtain ⟨t1, t2⟩ := tdiv_rng (a := y - 2000) (b := 400) (n := 2500000010) (by decide) (by omega) (by omega)
  have m1 := Int.tmod_lt_of_pos (y - 2000) (show (0 : Int) < 400 by decide)
  have m2 := Int.lt_tmod_of_pos (y - 2000) (show (0 : Int) < 400 by decide)
  unfold eraK eraR
  rw [w0]
  have w1 : IntKind.wrap .i64 (Int.tdiv (y - 2000) 400) = Int.tdiv (y - 2000) 400 := wrap64 (by omega) (by omega)
  have w2 : IntKind.wrap .i64 (Int.tdiv (y - 2000) 400 - 1) = Int.tdiv (y - 2000) 400 - 1 := wrap64 (by omega) (by omega)
  have w3 : IntKind.wrap .i64 (Int.tmod (y - 2000) 400 + 400) = Int.tmod (y - 2000) 400 + 400 := wrap64 (by omega) (by omega)
  rw [w1, w2, w3]
  split <;> omega
theorem days_ex (y m d : Int) (y1 : -1000000000000 ≤ y) (y2 : y ≤ 1000000000000) (m1 : 1 ≤ m) (m2 : m ≤ 14) (d1 : -1000000 ≤ d) (d2 : d ≤ 1000000) : ∃ v : Int, (-500000000000000 ≤ v ∧ v ≤ 500000000000000) ∧ ∀ K : List AV → Prop, K [i64 v] → evSpec N3 Tryz.f139 [i64 y, i64 m, i64 d] K := by
  obtain ⟨k1, k2, r1, r2⟩ := era_rng y1 y2
  have w1 : IntKind.wrap .i64 (eraK y * 146097) = eraK y * 146097 := wrap64 (by omega) (by omega)
  have w2 : IntKind.wrap .i64 (10957 + eraK y * 146097) = 10957 + eraK y * 146097 := wrap64 (by omega) (by omega)
  obtain ⟨⟨v1, v2⟩, _⟩ := yd_spec (y := y) m1 m2 d1 d2
  refine Exists.elim (loop_det (C := N3) (c := loopB (bodyOf Tryz.f139) 0) (fun s : Int × Int => h139 y m d (eraR y) s.2 s.1) (fun s => 0 ≤ s.1 ∧ s.1 ≤ eraR y ∧ -400000000000000 ≤ s.2 ∧ s.2 ≤ 400000000000000 + 366 * s.1) (fun s => (eraR y - s.1).toNat) (fun v : Int => -500000000000000 ≤ v ∧ v ≤ 500000000000000) (fun v => [i64 v])
    (fun K => loopK N3 (bodyOf Tryz.f139) 0 (finK N3 Tryz.f139 K)) rfl (fun s hs => ?_) (0, 10957 + eraK y * 146097) ⟨Int.le_refl 0, r1, by show _ ≤ 10957 + _; omega, by show 10957 + _ ≤ _; omega⟩) (fun v hv' => ?_)
  · obtain ⟨i, n⟩ := s
    obtain ⟨a1, a2, a3, a4⟩ := hs
    simp only at a1 a2 a3 a4
    have e0 : IntKind.wrap .i64 (i + 1) = i + 1 := wrap64 (by omega) (by omega)
    have e1 : IntKind.wrap .i64 (n + 365) = n + 365 := wrap64 (by omega) (by omega)
    have e2 : IntKind.wrap .i64 (n + 365 + 1) = n + 365 + 1 := wrap64 (by omega) (by omega)
    by_cases h : i < eraR y
    · cases hl : leapU i with
      | true =>
        refine .inl ⟨(i + 1, n + 365 + 1), p139, _, ⟨by show 0 ≤ i + 1; omega, by show i + 1 ≤ _; omega, by show _ ≤ n + 365 + 1; omega, by show n + 365 + 1 ≤ _ + 366 * (i + 1); omega⟩, by show (eraR y - (i + 1)).toNat < (eraR y - i).toNat; omega, ?_, fun K' hK' => by
          rw [g139_lp, hl]
          exact brn_T (decide_eq_true h) (brn_T rfl hK')⟩
        rw [e0, e1, e2]
        kernel_rfl
      | false =>
        refine .inl ⟨(i + 1, n + 365), p139, _, ⟨by show 0 ≤ i + 1; omega, by show i + 1 ≤ _; omega, by show _ ≤ n + 365; omega, by show n + 365 ≤ _ + 366 * (i + 1); omega⟩, by show (eraR y - (i + 1)).toNat < (eraR y - i).toNat; omega, ?_, fun K' hK' => by
          rw [g139_lp, hl]
          exact brn_T (decide_eq_true h) (brn_Fa rfl hK')⟩
        rw [e0, e1]
        kernel_rfl
    · have e3 : IntKind.wrap .i64 (n + ydV y m d) = n + ydV y m d := wrap64 (by omega) (by omega)
      refine .inr ⟨.exit 0, _, by simp, fun K' hK' => by
        rw [g139_lp]
        exact brn_Fa (decide_eq_false h) hK', n + ydV y m d, ⟨by omega, by omega⟩, fun K hK => ?_⟩
      have key : loopK N3 (bodyOf Tryz.f139) 0 (finK N3 Tryz.f139 K) (AX.exit 0) (o139 y m d (eraR y) n i) := Eq.mpr (g139_out y m d (eraR y) n i K) ⟨m1, m2, d1, d2, by rw [e3]; exact hK⟩
      exact Eq.mp (by kernel_rfl) key
  · obtain ⟨hv, hk⟩ := hv'
    refine ⟨v, hv, fun K hK => ?_⟩
    rw [g139_in]
    unfold LoopI
    exact hk K hK p139 _ (by rw [w1, w2]; kernel_rfl)
theorem dy_spec {y m d : Int} (y1 : -1000000000000 ≤ y) (y2 : y ≤ 1000000000000) (m1 : 1 ≤ m) (m2 : m ≤ 14) (d1 : -1000000 ≤ d) (d2 : d ≤ 1000000) : (-500000000000000 ≤ dyV y m d ∧ dyV y m d ≤ 500000000000000) ∧ ∀ K : List AV → Prop, K [i64 (dyV y m d)] → evSpec N3 Tryz.f139 [i64 y, i64 m, i64 d] K :=
  Classical.epsilon_spec (days_ex y m d y1 y2 m1 m2 d1 d2)
theorem spl_rng {t : Int} (t1 : -9223372036854775808 ≤ t) (t2 : t ≤ 9223372036854775807) : -200000000000000 ≤ splD t ∧ splD t ≤ 200000000000000 := by
  have m1 := Int.tmod_lt_of_pos t (show (0 : Int) < 86400 by decide)
  have m2 := Int.lt_tmod_of_pos t (show (0 : Int) < 86400 by decide)
  have e := Int.tmod_add_mul_tdiv t 86400
  have b0 : 0 ≤ biU (decide (Int.tmod t 86400 < 0)) ∧ biU (decide (Int.tmod t 86400 < 0)) ≤ 1 := by
    cases decide (Int.tmod t 86400 < 0)
    · exact ⟨by decide, by decide⟩
    · exact ⟨by decide, by decide⟩
  have hs : t - Int.tmod t 86400 = 86400 * Int.tdiv t 86400 := by omega
  have w0 : IntKind.wrap .i64 (t - Int.tmod t 86400) = t - Int.tmod t 86400 := by
    refine wrap64 ?_ ?_
    · rcases Int.lt_or_le t 0 with h | h
      · have : Int.tmod t 86400 ≤ 0 := by
          have := Int.tmod_nonneg (a := -t) 86400 (by omega)
          rw [Int.neg_tmod] at this
          omega
        omega
      · omega
    · rcases Int.lt_or_le t 0 with h | h
      · omega
      · have : 0 ≤ Int.tmod t 86400 := Int.tmod_nonneg 86400 h
        omega
  obtain ⟨q1, q2⟩ := tdiv_rng (a := t - Int.tmod t 86400) (b := 86400) (n := 110000000000000) (by decide) (by omega) (by omega)
  have w1 : IntKind.wrap .i64 (Int.tdiv (t - Int.tmod t 86400) 86400) = Int.tdiv (t - Int.tmod t 86400) 86400 := wrap64 (by omega) (by omega)
  unfold splD
  rw [w0, w1, wrap64 (by omega) (by omega)]
  omega
theorem ok139e : ∀ args pres res, sDays args = some (pres, res) → SpecOK Tryz.prog G16 139 args pres res := by
  intro args pres res h
  unfold sDays at h
  split at h
  case h_2 => cases h
  cases h
  exact spec_ok (C := N3) okF22 noCall_ok Tryz.func139 (by kernel_rfl) (by kernel_rfl) (fun hp => (dy_spec (hp _ (by simp)) (hp _ (by simp)) (hp _ (by simp)) (hp _ (by simp)) (hp _ (by simp)) (hp _ (by simp))).2 _ rfl)
theorem ok102e : ∀ args pres res, sOf args = some (pres, res) → SpecOK Tryz.prog G16 102 args pres res := by
  intro args pres res h
  unfold sOf at h
  split at h
  case h_2 => cases h
  cases h
  rename_i t
  exact spec_ok (C := N3) okF22 noCall_ok Tryz.func102 (by kernel_rfl) (by kernel_rfl) (fun hp => by
    obtain ⟨q1, q2⟩ := spl_rng (t := t) (hp _ (by simp)) (hp _ (by simp))
    exact Eq.mpr (g102_in t _) ⟨q1, q2, by decide, by decide, by decide, by decide, rfl⟩)
theorem okF23 : EOK Tryz.prog F23 G16 := addE_ok (addE_ok okF22 ok139e) ok102e
end Y27
set_option maxRecDepth 100000
namespace Y27
open Go Go.AE Go.Proofs E6
attribute [local irreducible] loopK evCode evSpec loopB norm
theorem g133_in (a : Int) (b : Int) (c : Int) (d : Int) (e : Int) (f : Int) (y : Int) (K : List AV → Prop) : evSpec N4 Tryz.f133 [.agg (rdC a b c d e f), i64 y] K = ((-1000000000000 : Int) ≤ y ∧ y ≤ 1000000000000 ∧ (1 : Int) ≤ 1 ∧ (1 : Int) ≤ 14 ∧ (-1000000 : Int) ≤ 1 ∧ (1 : Int) ≤ 1000000 ∧ brn (a == 2) (K [i64 (IntKind.wrap .i64 (dyV y (1 : Int) (1 : Int) + b))]) (brn (a == 1) (LoopI N4 (bodyOf Tryz.f133) 0 (St.mk (lapp [.agg [i64 a, i64 b, i64 c, i64 d, i64 e, i64 f], i64 y, .ptr 0 0, .dead, i64 0, i64 (dyV y (1 : Int) (1 : Int)), i64 1, i64 b] (lapp (dN 16) (lapp [.ptr 0 1, i64 b] (dN 45)))) [(0, Ob.mk true 0 (AObj.cells [i64 a, i64 b, i64 c, i64 d, i64 e, i64 f]))] 1 []) (finK N4 Tryz.f133 K)) ((-1000000000000 : Int) ≤ y ∧ y ≤ 1000000000000 ∧ (1 : Int) ≤ c ∧ c ≤ 14 ∧ (-1000000 : Int) ≤ 1 ∧ (1 : Int) ≤ 1000000 ∧ LoopI N4 (bodyOf Tryz.f133) 1 (St.mk (lapp [.agg [i64 a, i64 b, i64 c, i64 d, i64 e, i64 f], i64 y, .ptr 0 0, .dead, i64 0, i64 (dyV y (1 : Int) (1 : Int)), .dead, .dead, i64 (dyV y c (1 : Int)), i64 0, i64 (dyV y c (1 : Int)), i64 (dyV y c (1 : Int))] (lapp (dN 33) (lapp [i64 (dyV y c (1 : Int))] (dN 25)))) [(0, Ob.mk true 0 (AObj.cells [i64 a, i64 b, i64 c, i64 d, i64
 e, i64 f]))] 1 []) (finK N4 Tryz.f133 K)))) := by kernel_rfl
theorem g133_lp (a : Int) (b : Int) (c : Int) (d : Int) (e : Int) (f : Int) (y : Int) (m : Int) (g : Int) (k : AX → St → Prop) : evCode N4 (loopB (bodyOf Tryz.f133) 0) (h133 a b c d e f y m g) k = (brn (decide (g > mdU (2001 : Int) m)) (k AX.normal (St.mk (lapp [.dead, i64 y, .ptr 0 0, .dead, .dead, .dead, i64 (IntKind.wrap .i64 (m + 1)), i64 (IntKind.wrap .i64 (g - mdU (2001 : Int) m))] (lapp (dN 26) (lapp [i64 m, i64 (IntKind.wrap .i64 (m + 1))] (dN 35)))) [(0, Ob.mk true 0 (AObj.cells [i64 a, i64 b, i64 c, i64 d, i64 e, i64 f]))] 1 [])) (k (AX.exit 0) (St.mk (lapp [.dead, i64 y, .ptr 0 0, .dead, .dead, .dead, i64 m, i64 g] (lapp (dN 18) (lapp [i64 g, i64 m, i64 (mdU (2001 : Int) m), bo (decide (g > mdU (2001 : Int) m))] (dN 41)))) [(0, Ob.mk true 0 (AObj.cells [i64 a, i64 b, i64 c, i64 d, i64 e, i64 f]))] 1 []))) := by kernel_rfl
theorem g133_out (a : Int) (b : Int) (c : Int) (d : Int) (e : Int) (f : Int) (y : Int) (m : Int) (g : Int) (K : List AV → Prop) : loopK N4 (bodyOf Tryz.f133) 0 (finK N4 Tryz.f133 K) (AX.exit 0) (o133 a b c d e f y m g) = ((-1000000000000 : Int) ≤ y ∧ y ≤ 1000000000000 ∧ (1 : Int) ≤ m ∧ m ≤ 14 ∧ (-1000000 : Int) ≤ g ∧ g ≤ 1000000 ∧ K [i64 (dyV y m g)]) := by kernel_rfl
theorem g133_lp2 (a : Int) (b : Int) (c : Int) (d : Int) (e : Int) (f : Int) (y : Int) (s : Int) (u : Int) (x : Int) (n : Int) (k : AX → St → Prop) : evCode N4 (loopB (bodyOf Tryz.f133) 1) (h133b a b c d e f y s u x n) k = (let A4 : Prop := ((k AX.normal (St.mk (lapp [.dead, i64 y, .ptr 0 0] (lapp (dN 5) (lapp [i64 s, i64 u, i64 x, i64 (IntKind.wrap .i64 (n + 1))] (lapp (dN 42) (lapp [i64 n, i64 (IntKind.wrap .i64 (n + 1))] (dN 15)))))) [(0, Ob.mk true 0 (AObj.cells [i64 a, i64 b, i64 c, i64 d, i64 e, i64 f]))] 1 []))); let A17 : Prop := ((brn (wkU n == e) (brn (decide (u < d)) (k AX.normal (St.mk (lapp [.dead, i64 y, .ptr 0 0] (lapp (dN 5) (lapp [i64 s, i64 (IntKind.wrap .i64 (u + 1)), i64 n, i64 (IntKind.wrap .i64 (n + 1))] (lapp (dN 42) (lapp [i64 n, i64 (IntKind.wrap .i64 (n + 1))] (dN 15)))))) [(0, Ob.mk true 0 (AObj.cells [i64 a, i64 b, i64 c, i64 d, i64 e, i64 f]))] 1 [])) A4) A4)); brn (decide (n < IntKind.wrap .i64 (s + mdU y c))) (A17 ∧ A17) (k (AX.exit 2) (St.mk (lapp [.dead, i64 y, .ptr 0 0] (lapp (dN 5) (lapp [i64 s, i64 u, i64 x, i64 n] (lapp (dN 34) (lapp [i64 n, i64 s, i64 y, .ptr 0 2, i64 c, i64 (mdU y c), i64 (IntKind.wrap .i64 (s + mdU y c)), bo (decide (n <
 IntKind.wrap .i64 (s + mdU y c)))] (dN 17)))))) [(0, Ob.mk true 0 (AObj.cells [i64 a, i64 b, i64 c, i64 d, i64 e, i64 f]))] 1 []))) := by kernel_rfl
theorem g133_out2 (a : Int) (b : Int) (c : Int) (d : Int) (e : Int) (f : Int) (y : Int) (s : Int) (u : Int) (x : Int) (n : Int) (K : List AV → Prop) : loopK N4 (bodyOf Tryz.f133) 1 (finK N4 Tryz.f133 K) (AX.exit 2) (o133b a b c d e f y s u x n) = (K [i64 x]) := by kernel_rfl
end Y27
set_option maxRecDepth 100000
namespace Y27
open Go Go.AE Go.Proofs E6
attribute [local irreducible] loopK evCode evSpec loopB norm
theorem vDay_elim {a b c d e f : Int} (h : vDay a b c d e f = true) : (-604799 ≤ f ∧ f ≤ 604799) ∧ ((a = 1 ∧ 1 ≤ b ∧ b ≤ 365) ∨ (a = 2 ∧ 0 ≤ b ∧ b ≤ 365) ∨ (a = 3 ∧ 1 ≤ c ∧ c ≤ 12)) := by
  unfold vDay at h
  split at h
  · cases h
  · rename_i h0
    simp only [Bool.or_eq_true, decide_eq_true_eq, not_or] at h0
    refine ⟨by omega, ?_⟩
    split at h
    · rename_i h1
      simp only [Bool.and_eq_true, decide_eq_true_eq, beq_iff_eq] at h h1
      exact .inl ⟨h1, h.1.1.1.1, h.1.1.1.2⟩
    · split at h
      · rename_i h2
        simp only [Bool.and_eq_true, decide_eq_true_eq, beq_iff_eq] at h h2
        exact .inr (.inl ⟨h2, h.1.1.1.1, h.1.1.1.2⟩)
      · simp only [Bool.and_eq_true, decide_eq_true_eq, beq_iff_eq] at h
        exact .inr (.inr ⟨h.1.1.1.1.1.1.1, h.1.1.1.1.1.2, h.1.1.1.1.2⟩)
theorem rday_ex (a b c d e f y : Int) (hv : vDay a b c d e f = true) (y1 : -1000000000000 ≤ y) (y2 : y ≤ 1000000000000) : ∃ v : Int, (-600000000000000 ≤ v ∧ v ≤ 600000000000000) ∧ ∀ K : List AV → Prop, K [i64 v] → evSpec N4 Tryz.f133 [.agg (rdC a b c d e f), i64 y] K := by
  obtain ⟨hf, hcase⟩ := vDay_elim hv
  obtain ⟨⟨q1, q2⟩, _⟩ := dy_spec (y := y) (m := 1) (d := 1) y1 y2 (by decide) (by decide) (by decide) (by decide)
  by_cases h2 : a = 2
  · have hb : 0 ≤ b ∧ b ≤ 365 := by omega
    have w : IntKind.wrap .i64 (dyV y 1 1 + b) = dyV y 1 1 + b := wrap64 (by omega) (by omega)
    refine ⟨dyV y 1 1 + b, ⟨by omega, by omega⟩, fun K hK => ?_⟩
    rw [g133_in, w]
    exact ⟨y1, y2, by decide, by decide, by decide, by decide, brn_T (by rw [h2]; rfl) hK⟩
  · have n2 : (a == (2 : Int)) = false := by rw [beq_eq_false_iff_ne]; exact h2
    by_cases h1 : a = 1
    · have hb : 1 ≤ b ∧ b ≤ 365 := by omega
      refine Exists.elim (loop_det (C := N4) (c := loopB (bodyOf Tryz.f133) 0) (fun s : Int × Int => h133 a b c d e f y s.1 s.2) (fun s => 1 ≤ s.1 ∧ 1 ≤ s.2 ∧ s.2 + 28 * (s.1 - 1) ≤ 365) (fun s => s.2.toNat) (fun v : Int => -600000000000000 ≤ v ∧ v ≤ 600000000000000) (fun v => [i64 v])
        (fun K => loopK N4 (bodyOf Tryz.f133) 0 (finK N4 Tryz.f133 K)) rfl (fun s hs => ?_) (1, b) ⟨Int.le_refl 1, hb.1, by show b + 28 * (1 - 1) ≤ 365; omega⟩) (fun v hv' => ?_)
      · obtain ⟨m, g⟩ := s
        obtain ⟨r1, r2, r3⟩ := hs
        simp only at r1 r2 r3
        have hm := md_rng 2001 m
        by_cases h : g > mdU 2001 m
        · have e1 : IntKind.wrap .i64 (g - mdU 2001 m) = g - mdU 2001 m := wrap64 (by omega) (by omega)
          have e2 : IntKind.wrap .i64 (m + 1) = m + 1 := wrap64 (by omega) (by omega)
          refine .inl ⟨(m + 1, g - mdU 2001 m), p133, _, ⟨by show 1 ≤ m + 1; omega, by show 1 ≤ g - _; omega, by show g - _ + 28 * (m + 1 - 1) ≤ 365; omega⟩, by show (g - mdU 2001 m).toNat < g.toNat; omega, ?_, fun K' hK' => by
            rw [g133_lp]
            exact brn_T (decide_eq_true h) hK'⟩
          rw [e1, e2]
          kernel_rfl
        · have hm13 : m ≤ 14 := by omega
          obtain ⟨⟨v1, v2⟩, _⟩ := dy_spec (y := y) (m := m) (d := g) y1 y2 r1 hm13 (by omega) (by omega)
          refine .inr ⟨.exit 0, _, by simp, fun K' hK' => by
            rw [g133_lp]
            exact brn_Fa (decide_eq_false h) hK', dyV y m g, ⟨by omega, by omega⟩, fun K hK => ?_⟩
          have key : loopK N4 (bodyOf Tryz.f133) 0 (finK N4 Tryz.f133 K) (AX.exit 0) (o133 a b c d e f y m g) := Eq.mpr (g133_out a b c d e f y m g K) ⟨y1, y2, r1, hm13, by omega, by omega, hK⟩
          exact Eq.mp (by kernel_rfl) key
      · obtain ⟨hv1, hk⟩ := hv'
        refine ⟨v, hv1, fun K hK => ?_⟩
        rw [g133_in]
        refine ⟨y1, y2, by decide, by decide, by decide, by decide, brn_Fa n2 (brn_T (by rw [h1]; rfl) ?_)⟩
        unfold LoopI
        exact hk K hK p133 _ (by kernel_rfl)
    · have n1 : (a == (1 : Int)) = false := by rw [beq_eq_false_iff_ne]; exact h1
      have hc : 1 ≤ c ∧ c ≤ 14 := by omega
      obtain ⟨⟨s1, s2⟩, _⟩ := dy_spec (y := y) (m := c) (d := 1) y1 y2 hc.1 hc.2 (by decide) (by decide)
      have hm := md_rng y c
      have ws : IntKind.wrap .i64 (dyV y c 1 + mdU y c) = dyV y c 1 + mdU y c := wrap64 (by omega) (by omega)
      refine Exists.elim (loop_det (C := N4) (c := loopB (bodyOf Tryz.f133) 1) (fun s : Int × Int × Int => h133b a b c d e f y (dyV y c 1) s.1 s.2.1 s.2.2) (fun s => 0 ≤ s.1 ∧ s.1 ≤ s.2.2 - dyV y c 1 ∧ -600000000000000 ≤ s.2.1 ∧ s.2.1 ≤ 600000000000000 ∧ dyV y c 1 ≤ s.2.2 ∧ s.2.2 ≤ dyV y c 1 + mdU y c) (fun s => (dyV y c 1 + mdU y c - s.2.2).toNat) (fun v : Int => -600000000000000 ≤ v ∧ v ≤ 600000000000000) (fun v => [i64 v])
        (fun K => loopK N4 (bodyOf Tryz.f133) 1 (finK N4 Tryz.f133 K)) rfl (fun s hs => ?_) (0, dyV y c 1, dyV y c 1) ⟨Int.le_refl 0, by show 0 ≤ dyV y c 1 - dyV y c 1; omega, by show _ ≤ dyV y c 1; omega, by show dyV y c 1 ≤ _; omega, Int.le_refl _, by show dyV y c 1 ≤ _; omega⟩) (fun v hv' => ?_)
      · obtain ⟨u, x, n⟩ := s
        obtain ⟨r1, r2, r3, r4, r5, r6⟩ := hs
        simp only at r1 r2 r3 r4 r5 r6
        have e0 : IntKind.wrap .i64 (n + 1) = n + 1 := wrap64 (by omega) (by omega)
        have e1 : IntKind.wrap .i64 (u + 1) = u + 1 := wrap64 (by omega) (by omega)
        by_cases h : n < dyV y c 1 + mdU y c
        · have hμ : (dyV y c 1 + mdU y c - (n + 1)).toNat < (dyV y c 1 + mdU y c - n).toNat := by omega
          by_cases hw : wkU n = e ∧ u < d
          · refine .inl ⟨(u + 1, n, n + 1), p133b, _, ⟨by show 0 ≤ u + 1; omega, by show u + 1 ≤ n + 1 - _; omega, by show _ ≤ n; omega, by show n ≤ _; omega, by show _ ≤ n + 1; omega, by show n + 1 ≤ _; omega⟩, hμ, ?_, fun K' hK' => by
              rw [g133_lp2]
              intro A4 A17
              rw [ws]
              have a17 : A17 := brn_T (by rw [hw.1]; exact beq_self_eq_true e) (brn_T (decide_eq_true hw.2) hK')
              exact brn_T (decide_eq_true h) ⟨a17, a17⟩⟩
            rw [e0, e1]
            kernel_rfl
          · refine .inl ⟨(u, x, n + 1), p133b, _, ⟨r1, by show u ≤ n + 1 - _; omega, r3, r4, by show _ ≤ n + 1; omega, by show n + 1 ≤ _; omega⟩, hμ, ?_, fun K' hK' => by
              rw [g133_lp2]
              intro A4 A17
              rw [ws]
              have a17 : A17 := by
                refine brn_intro (fun g1 => brn_intro (fun g2 => ?_) (fun _ => hK')) (fun _ => hK')
                exact absurd ⟨by simpa using g1, of_decide_eq_true g2⟩ hw
              exact brn_T (decide_eq_true h) ⟨a17, a17⟩⟩
            rw [e0]
            kernel_rfl
        · refine .inr ⟨.exit 2, _, by simp, fun K' hK' => by
            rw [g133_lp2]
            intro A4 A17
            exact brn_Fa (by rw [ws]; exact decide_eq_false h) hK', x, ⟨r3, r4⟩, fun K hK => ?_⟩
          have key : loopK N4 (bodyOf Tryz.f133) 1 (finK N4 Tryz.f133 K) (AX.exit 2) (o133b a b c d e f y (dyV y c 1) u x n) := Eq.mpr (g133_out2 a b c d e f y (dyV y c 1) u x n K) hK
          exact Eq.mp (by kernel_rfl) key
      · obtain ⟨hv1, hk⟩ := hv'
        refine ⟨v, hv1, fun K hK => ?_⟩
        rw [g133_in]
        refine ⟨y1, y2, by decide, by decide, by decide, by decide, brn_Fa n2 (brn_Fa n1 ⟨y1, y2, hc.1, hc.2, by decide, by decide, ?_⟩)⟩
        unfold LoopI
        exact hk K hK p133b _ (by kernel_rfl)
end Y27
set_option maxRecDepth 100000
namespace Y27
open Go Go.AE Go.Proofs E6
noncomputable def rdV (a b c d e f y : Int) : Int := Classical.epsilon fun v : Int => (-600000000000000 ≤ v ∧ v ≤ 600000000000000) ∧ ∀ K : List AV → Prop, K [i64 v] → evSpec N4 Tryz.f133 [.agg (rdC a b c d e f), i64 y] K
noncomputable def sRday : List AV → Option (List Prop × List AV)
  | [.agg [.imm (.int .i64 a), .imm (.int .i64 b), .imm (.int .i64 c), .imm (.int .i64 d), .imm (.int .i64 e), .imm (.int .i64 f)], .imm (.int .i64 y)] => some ([vDay a b c d e f = true, -1000000000000 ≤ y, y ≤ 1000000000000], [i64 (rdV a b c d e f y)])
  | _ => none
noncomputable def F24 := addE F23 133 sRday
noncomputable def N5 : Cx := ⟨Tryz.prog, F24, noCall, G16, 4008⟩
def okRu (o p : Int) (h : Bool) (vs ve : Bool) : Prop := -100000 ≤ o ∧ o ≤ 100000 ∧ -200000 ≤ p ∧ p ≤ 200000 ∧ (h = true → vs = true ∧ ve = true)
noncomputable def ch1 (o a b c d e f y : Int) : Int × Int := shV (rdV a b c d e f y) (IntKind.wrap .i64 (f - o))
noncomputable def sChg : List AV → Option (List Prop × List AV)
  | [.agg [.imm (.str s), .imm (.int .i64 o), .imm (.bool h), .imm (.str t), .imm (.int .i64 p), .imm (.int .i64 a), .imm (.int .i64 b), .imm (.int .i64 c), .imm (.int .i64 d), .imm (.int .i64 e), .imm (.int .i64 f), .imm (.int .i64 a'), .imm (.int .i64 b'), .imm (.int .i64 c'), .imm (.int .i64 d'), .imm (.int .i64 e'), .imm (.int .i64 f')], .imm (.int .i64 y)] =>
    some ([okRu o p true (vDay a b c d e f) (vDay a' b' c' d' e' f'), -1000000000000 ≤ y, y ≤ 1000000000000], [.agg [i64 (ch1 o a b c d e f y).1, i64 (ch1 o a b c d e f y).2], .agg [i64 (ch1 p a' b' c' d' e' f' y).1, i64 (ch1 p a' b' c' d' e' f' y).2]])
  | _ => none
noncomputable def F25 := addE F24 120 sChg
noncomputable def N6 : Cx := ⟨Tryz.prog, F25, noCall, G16, 4013⟩
def on0 (s : List UInt8) (o : Int) (h : Bool) (t : List UInt8) (p a b c d e f a' b' c' d' e' f' x z l1 l2 : Int) : List (Nat × Ob) := [(0, ⟨true, 0, .cells (ruC s o h t p (rdC a b c d e f) (rdC a' b' c' d' e' f'))⟩), (1, ⟨true, 0, .cells [i64 x, i64 z]⟩), (2, ⟨true, 0, .cells [i64 l1, i64 l2]⟩)]
def h101 (s : List UInt8) (o : Int) (h : Bool) (t : List UInt8) (p a b c d e f a' b' c' d' e' f' x z y l1 l2 : Int) (on fd : Bool) (i : Int) : St :=
  ⟨spr [(2, i64 y), (3, .ptr 0 0), (4, .ptr 1 0), (7, .ptr 2 0), (8, bo on), (9, bo fd), (10, i64 i)] 0 61, on0 s o h t p a b c d e f a' b' c' d' e' f' x z l1 l2, 3, []⟩
def o101 (s : List UInt8) (o : Int) (h : Bool) (t : List UInt8) (p a b c d e f a' b' c' d' e' f' x z y l1 l2 : Int) (on fd : Bool) (i : Int) : St :=
  ⟨spr [(2, i64 y), (3, .ptr 0 0), (4, .ptr 1 0), (7, .ptr 2 0), (8, bo on), (9, bo fd), (10, i64 i), (18, i64 i), (19, i64 y), (20, i64 (IntKind.wrap .i64 (y + 2))), (21, bo (decide (i ≤ IntKind.wrap .i64 (y + 2))))] 0 61, on0 s o h t p a b c d e f a' b' c' d' e' f' x z l1 l2, 3, []⟩
def p101 : Plan := ⟨[], msk [2, 3, 4, 7, 8, 9, 10] 0 61, [0, 1, 2]⟩
theorem rd_spec {a b c d e f y : Int} (hv : vDay a b c d e f = true) (y1 : -1000000000000 ≤ y) (y2 : y ≤ 1000000000000) : (-600000000000000 ≤ rdV a b c d e f y ∧ rdV a b c d e f y ≤ 600000000000000) ∧ ∀ K : List AV → Prop, K [i64 (rdV a b c d e f y)] → evSpec N4 Tryz.f133 [.agg (rdC a b c d e f), i64 y] K :=
  Classical.epsilon_spec (rday_ex a b c d e f y hv y1 y2)
theorem ok133e : ∀ args pres res, sRday args = some (pres, res) → SpecOK Tryz.prog G16 133 args pres res := by
  intro args pres res h
  unfold sRday at h
  split at h
  case h_2 => cases h
  cases h
  exact spec_ok (C := N4) okF23 noCall_ok Tryz.func133 (by kernel_rfl) (by kernel_rfl) (fun hp => (rd_spec (hp _ (by simp)) (hp _ (by simp)) (hp _ (by simp))).2 _ rfl)
theorem okF24 : EOK Tryz.prog F24 G16 := addE_ok okF23 ok133e
end Y27
set_option maxRecDepth 100000
namespace Y27
open Go Go.AE Go.Proofs E6
attribute [local irreducible] loopK evCode evSpec loopB norm
theorem g120_in (s : List UInt8) (o : Int) (h : Bool) (t : List UInt8) (p : Int) (a : Int) (b : Int) (c : Int) (d : Int) (e : Int) (f : Int) (a' : Int) (b' : Int) (c' : Int) (d' : Int) (e' : Int) (f' : Int) (y : Int) (K : List AV → Prop) : evSpec N5 Tryz.f120 [.agg (ruC s o h t p (rdC a b c d e f) (rdC a' b' c' d' e' f')), i64 y] K = (let E1 : Prop := ((sm (St.mk (lapp [.agg [.imm (.str s), i64 o, bo h, .imm (.str t), i64 p, i64 a, i64 b, i64 c, i64 d, i64 e, i64 f, i64 a', i64 b', i64 c', i64 d', i64 e', i64 f'], i64 y, .ptr 0 0, .dead, .ptr 1 0, .ptr 2 0, .ptr 3 0, .dead, .ptr 0 5, .agg [i64 a, i64 b, i64 c, i64 d, i64 e, i64 f], i64 y, i64 (rdV a b c d e f y), .ptr 0 5, .ptr 0 10, i64 f, .ptr 0 1, i64 o, i64 (IntKind.wrap .i64 (f - o)), .agg [i64 ((shV (rdV a b c d e f y) (IntKind.wrap .i64 (f - o))).1), i64 ((shV (rdV a b c d e f y) (IntKind.wrap .i64 (f - o))).2)]] (dN 13)) [(0, Ob.mk true 0 (AObj.cells [.imm (.str s), i64 o, bo h, .imm (.str t), i64 p, i64 a, i64 b, i64 c, i64 d, i64 e, i64 f, i64 a', i64 b', i64 c', i64 d', i64 e', i64 f'])), (1, Ob.mk true 0 (AObj.cells [i64 0, i64 0])), (2, Ob.mk true 0 (AObj.cells [i64 0, i64 0])), (3, Ob.mk true 0 (AObj.cells [i64 ((shV
 (rdV a b c d e f y) (IntKind.wrap .i64 (f - o))).1), i64 ((shV (rdV a b c d e f y) (IntKind.wrap .i64 (f - o))).2)]))] 4 []))); let E2 : Prop := ((sm (St.mk (lapp [.agg [.imm (.str s), i64 o, bo h, .imm (.str t), i64 p, i64 a, i64 b, i64 c, i64 d, i64 e, i64 f, i64 a', i64 b', i64 c', i64 d', i64 e', i64 f'], i64 y, .ptr 0 0, .dead, .ptr 1 0, .ptr 2 0, .ptr 3 0, .ptr 4 0] (lapp (dN 11) [.ptr 0 11, .agg [i64 a', i64 b', i64 c', i64 d', i64 e', i64 f'], i64 y, i64 (rdV a' b' c' d' e' f' y), .ptr 0 11, .ptr 0 16, i64 f', .ptr 0 4, i64 p, i64 (IntKind.wrap .i64 (f' - p)), .agg [i64 ((shV (rdV a' b' c' d' e' f' y) (IntKind.wrap .i64 (f' - p))).1), i64 ((shV (rdV a' b' c' d' e' f' y) (IntKind.wrap .i64 (f' - p))).2)], .dead, .dead])) [(0, Ob.mk true 0 (AObj.cells [.imm (.str s), i64 o, bo h, .imm (.str t), i64 p, i64 a, i64 b, i64 c, i64 d, i64 e, i64 f, i64 a', i64 b', i64 c', i64 d', i64 e', i64 f'])), (1, Ob.mk true 0 (AObj.cells [i64 0, i64 0])), (2, Ob.mk true 0 (AObj.cells [i64 0, i64 0])), (3, Ob.mk true 0 (AObj.cells [i64 ((shV (rdV a b c d e f y) (IntKind.wrap .i64 (f - o))).1), i64 ((shV (rdV a b c d e f y) (IntKind.wrap .i64 (f - o))).2)])), (4, Ob.mk true 0 (AObj.cells [i64
 ((shV (rdV a' b' c' d' e' f' y) (IntKind.wrap .i64 (f' - p))).1), i64 ((shV (rdV a' b' c' d' e' f' y) (IntKind.wrap .i64 (f' - p))).2)]))] 5 []))); let E3 : Prop := ((sm (St.mk (lapp [.agg [.imm (.str s), i64 o, bo h, .imm (.str t), i64 p, i64 a, i64 b, i64 c, i64 d, i64 e, i64 f, i64 a', i64 b', i64 c', i64 d', i64 e', i64 f'], i64 y, .ptr 0 0, .dead, .ptr 1 0, .ptr 2 0, .ptr 3 0, .ptr 4 0] (lapp (dN 22) [.agg [i64 ((shV (rdV a b c d e f y) (IntKind.wrap .i64 (f - o))).1), i64 ((shV (rdV a b c d e f y) (IntKind.wrap .i64 (f - o))).2)], .agg [i64 ((shV (rdV a' b' c' d' e' f' y) (IntKind.wrap .i64 (f' - p))).1), i64 ((shV (rdV a' b' c' d' e' f' y) (IntKind.wrap .i64 (f' - p))).2)]])) [(0, Ob.mk true 0 (AObj.cells [.imm (.str s), i64 o, bo h, .imm (.str t), i64 p, i64 a, i64 b, i64 c, i64 d, i64 e, i64 f, i64 a', i64 b', i64 c', i64 d', i64 e', i64 f'])), (1, Ob.mk true 0 (AObj.cells [i64 ((shV (rdV a b c d e f y) (IntKind.wrap .i64 (f - o))).1), i64 ((shV (rdV a b c d e f y) (IntKind.wrap .i64 (f - o))).2)])), (2, Ob.mk true 0 (AObj.cells [i64 ((shV (rdV a' b' c' d' e' f' y) (IntKind.wrap .i64 (f' - p))).1), i64 ((shV (rdV a' b' c' d' e' f' y) (IntKind.wrap .i64 (f' - p))).2)])), (3,
 Ob.mk true 0 (AObj.cells [i64 ((shV (rdV a b c d e f y) (IntKind.wrap .i64 (f - o))).1), i64 ((shV (rdV a b c d e f y) (IntKind.wrap .i64 (f - o))).2)])), (4, Ob.mk true 0 (AObj.cells [i64 ((shV (rdV a' b' c' d' e' f' y) (IntKind.wrap .i64 (f' - p))).1), i64 ((shV (rdV a' b' c' d' e' f' y) (IntKind.wrap .i64 (f' - p))).2)]))] 5 []))); ((vDay a b c d e f = true ∧ (-1000000000000 : Int) ≤ y ∧ y ≤ 1000000000000 ∧ ((-1000000000000000 : Int) ≤ rdV a b c d e f y ∧ rdV a b c d e f y ≤ 1000000000000000 ∧ (-1000000 : Int) ≤ IntKind.wrap .i64 (f - o) ∧ IntKind.wrap .i64 (f - o) ≤ 1000000 ∧ E1) ∧ (-1000000000000000 : Int) ≤ rdV a b c d e f y ∧ rdV a b c d e f y ≤ 1000000000000000 ∧ (-1000000 : Int) ≤ IntKind.wrap .i64 (f - o) ∧ IntKind.wrap .i64 (f - o) ≤ 1000000 ∧ E1) ∧ vDay a b c d e f = true ∧ (-1000000000000 : Int) ≤ y ∧ y ≤ 1000000000000 ∧ (-1000000000000000 : Int) ≤ rdV a b c d e f y ∧ rdV a b c d e f y ≤ 1000000000000000 ∧ (-1000000 : Int) ≤ IntKind.wrap .i64 (f - o) ∧ IntKind.wrap .i64 (f - o) ≤ 1000000 ∧ E1) ∧ ((vDay a' b' c' d' e' f' = true ∧ (-1000000000000 : Int) ≤ y ∧ y ≤ 1000000000000 ∧ ((-1000000000000000 : Int) ≤ rdV a' b' c' d' e' f' y ∧ rdV a' b' c' d' e' f' y ≤
 1000000000000000 ∧ (-1000000 : Int) ≤ IntKind.wrap .i64 (f' - p) ∧ IntKind.wrap .i64 (f' - p) ≤ 1000000 ∧ E2) ∧ (-1000000000000000 : Int) ≤ rdV a' b' c' d' e' f' y ∧ rdV a' b' c' d' e' f' y ≤ 1000000000000000 ∧ (-1000000 : Int) ≤ IntKind.wrap .i64 (f' - p) ∧ IntKind.wrap .i64 (f' - p) ≤ 1000000 ∧ E2) ∧ vDay a' b' c' d' e' f' = true ∧ (-1000000000000 : Int) ≤ y ∧ y ≤ 1000000000000 ∧ (-1000000000000000 : Int) ≤ rdV a' b' c' d' e' f' y ∧ rdV a' b' c' d' e' f' y ≤ 1000000000000000 ∧ (-1000000 : Int) ≤ IntKind.wrap .i64 (f' - p) ∧ IntKind.wrap .i64 (f' - p) ≤ 1000000 ∧ E2) ∧ E3 ∧ K [.agg [i64 ((shV (rdV a b c d e f y) (IntKind.wrap .i64 (f - o))).1), i64 ((shV (rdV a b c d e f y) (IntKind.wrap .i64 (f - o))).2)], .agg [i64 ((shV (rdV a' b' c' d' e' f' y) (IntKind.wrap .i64 (f' - p))).1), i64 ((shV (rdV a' b' c' d' e' f' y) (IntKind.wrap .i64 (f' - p))).2)]]) := by kernel_rfl
theorem g101_in (s : List UInt8) (o : Int) (h : Bool) (t : List UInt8) (p : Int) (a : Int) (b : Int) (c : Int) (d : Int) (e : Int) (f : Int) (a' : Int) (b' : Int) (c' : Int) (d' : Int) (e' : Int) (f' : Int) (x : Int) (z : Int) (y : Int) (K : List AV → Prop) : evSpec N6 Tryz.f101 [.agg (ruC s o h t p (rdC a b c d e f) (rdC a' b' c' d' e' f')), .agg [i64 x, i64 z], i64 y] K = (brn (!h) (K [bo false]) (LoopI N6 (bodyOf Tryz.f101) 0 (St.mk (lapp [.agg [.imm (.str s), i64 o, bo h, .imm (.str t), i64 p, i64 a, i64 b, i64 c, i64 d, i64 e, i64 f, i64 a', i64 b', i64 c', i64 d', i64 e', i64 f'], .agg [i64 x, i64 z], i64 y, .ptr 0 0, .ptr 1 0, .dead, bo false, .ptr 2 0, bo false, bo false, i64 (IntKind.wrap .i64 (y - 3))] (lapp (dN 5) (lapp [i64 y, i64 (IntKind.wrap .i64 (y - 3))] (dN 43)))) [(0, Ob.mk true 0 (AObj.cells [.imm (.str s), i64 o, bo h, .imm (.str t), i64 p, i64 a, i64 b, i64 c, i64 d, i64 e, i64 f, i64 a', i64 b', i64 c', i64 d', i64 e', i64 f'])), (1, Ob.mk true 0 (AObj.cells [i64 x, i64 z])), (2, Ob.mk true 0 (AObj.cells [i64 0, i64 0]))] 3 []) (finK N6 Tryz.f101 K))) := by kernel_rfl
end Y27
set_option maxRecDepth 100000
namespace Y27
open Go Go.AE Go.Proofs E6
attribute [local irreducible] loopK evCode evSpec loopB norm
theorem g101_lp (s : List UInt8) (o : Int) (h : Bool) (t : List UInt8) (p : Int) (a : Int) (b : Int) (c : Int) (d : Int) (e : Int) (f : Int) (a' : Int) (b' : Int) (c' : Int) (d' : Int) (e' : Int) (f' : Int) (x : Int) (z : Int) (y : Int) (l1 : Int) (l2 : Int) (on : Bool) (fd : Bool) (i : Int) (k : AX → St → Prop) : evCode N6 (loopB (bodyOf Tryz.f101) 0) (h101 s o h t p a b c d e f a' b' c' d' e' f' x z y l1 l2 on fd i) k = (let A1 : Prop := ((k AX.normal (St.mk (lapp [.dead, .dead, i64 y, .ptr 0 0, .ptr 1 0, .dead, .dead, .ptr 2 0, bo true, bo true, i64 (IntKind.wrap .i64 (i + 1)), .ptr 3 0, .ptr 4 0] (lapp (dN 9) (lapp [i64 i, i64 (IntKind.wrap .i64 (i + 1))] (dN 37)))) [(0, Ob.mk true 0 (AObj.cells [.imm (.str s), i64 o, bo h, .imm (.str t), i64 p, i64 a, i64 b, i64 c, i64 d, i64 e, i64 f, i64 a', i64 b', i64 c', i64 d', i64 e', i64 f'])), (1, Ob.mk true 0 (AObj.cells [i64 x, i64 z])), (2, Ob.mk true 0 (AObj.cells [i64 ((ch1 o a b c d e f i).1), i64 ((ch1 o a b c d e f i).2)])), (3, Ob.mk true 0 (AObj.cells [i64 ((ch1 o a b c d e f i).1), i64 ((ch1 o a b c d e f i).2)])), (4, Ob.mk true 0 (AObj.cells [i64 ((ch1 p a' b' c' d' e' f' i).1), i64 ((ch1 p a' b' c' d' e' f' i).2)]))] 5
 []))); brn (decide (i ≤ IntKind.wrap .i64 (y + 2))) (okRu o p true (vDay a b c d e f) (vDay a' b' c' d' e' f') ∧ (-1000000000000 : Int) ≤ i ∧ i ≤ 1000000000000 ∧ brn (decide (cmpU (ch1 p a' b' c' d' e' f' i).1 (ch1 p a' b' c' d' e' f' i).2 x z ≤ 0) && (!fd || decide (cmpU (ch1 p a' b' c' d' e' f' i).1 (ch1 p a' b' c' d' e' f' i).2 l1 l2 > 0))) (brn (decide (cmpU (ch1 o a b c d e f i).1 (ch1 o a b c d e f i).2 x z ≤ 0) && (!true || decide (cmpU (ch1 o a b c d e f i).1 (ch1 o a b c d e f i).2 (ch1 p a' b' c' d' e' f' i).1 (ch1 p a' b' c' d' e' f' i).2 ≥ 0))) A1 (k AX.normal (St.mk (lapp [.dead, .dead, i64 y, .ptr 0 0, .ptr 1 0, .dead, .dead, .ptr 2 0, bo false, bo true, i64 (IntKind.wrap .i64 (i + 1)), .ptr 3 0, .ptr 4 0] (lapp (dN 9) (lapp [i64 i, i64 (IntKind.wrap .i64 (i + 1))] (dN 37)))) [(0, Ob.mk true 0 (AObj.cells [.imm (.str s), i64 o, bo h, .imm (.str t), i64 p, i64 a, i64 b, i64 c, i64 d, i64 e, i64 f, i64 a', i64 b', i64 c', i64 d', i64 e', i64 f'])), (1, Ob.mk true 0 (AObj.cells [i64 x, i64 z])), (2, Ob.mk true 0 (AObj.cells [i64 ((ch1 p a' b' c' d' e' f' i).1), i64 ((ch1 p a' b' c' d' e' f' i).2)])), (3, Ob.mk true 0 (AObj.cells [i64 ((ch1 o a b c d e f i).1), i64 ((ch1 o
 a b c d e f i).2)])), (4, Ob.mk true 0 (AObj.cells [i64 ((ch1 p a' b' c' d' e' f' i).1), i64 ((ch1 p a' b' c' d' e' f' i).2)]))] 5 []))) (brn (decide (cmpU (ch1 o a b c d e f i).1 (ch1 o a b c d e f i).2 x z ≤ 0) && (!fd || decide (cmpU (ch1 o a b c d e f i).1 (ch1 o a b c d e f i).2 l1 l2 ≥ 0))) A1 (k AX.normal (St.mk (lapp [.dead, .dead, i64 y, .ptr 0 0, .ptr 1 0, .dead, .dead, .ptr 2 0, bo on, bo fd, i64 (IntKind.wrap .i64 (i + 1)), .ptr 3 0, .ptr 4 0] (lapp (dN 9) (lapp [i64 i, i64 (IntKind.wrap .i64 (i + 1))] (dN 37)))) [(0, Ob.mk true 0 (AObj.cells [.imm (.str s), i64 o, bo h, .imm (.str t), i64 p, i64 a, i64 b, i64 c, i64 d, i64 e, i64 f, i64 a', i64 b', i64 c', i64 d', i64 e', i64 f'])), (1, Ob.mk true 0 (AObj.cells [i64 x, i64 z])), (2, Ob.mk true 0 (AObj.cells [i64 l1, i64 l2])), (3, Ob.mk true 0 (AObj.cells [i64 ((ch1 o a b c d e f i).1), i64 ((ch1 o a b c d e f i).2)])), (4, Ob.mk true 0 (AObj.cells [i64 ((ch1 p a' b' c' d' e' f' i).1), i64 ((ch1 p a' b' c' d' e' f' i).2)]))] 5 [])))) (k (AX.exit 0) (St.mk (lapp [.dead, .dead, i64 y, .ptr 0 0, .ptr 1 0, .dead, .dead, .ptr 2 0, bo on, bo fd, i64 i] (lapp (dN 7) (lapp [i64 i, i64 y, i64 (IntKind.wrap .i64 (y + 2)), bo
 (decide (i ≤ IntKind.wrap .i64 (y + 2)))] (dN 39)))) [(0, Ob.mk true 0 (AObj.cells [.imm (.str s), i64 o, bo h, .imm (.str t), i64 p, i64 a, i64 b, i64 c, i64 d, i64 e, i64 f, i64 a', i64 b', i64 c', i64 d', i64 e', i64 f'])), (1, Ob.mk true 0 (AObj.cells [i64 x, i64 z])), (2, Ob.mk true 0 (AObj.cells [i64 l1, i64 l2]))] 3 []))) := by kernel_rfl
theorem g101_out (s : List UInt8) (o : Int) (h : Bool) (t : List UInt8) (p : Int) (a : Int) (b : Int) (c : Int) (d : Int) (e : Int) (f : Int) (a' : Int) (b' : Int) (c' : Int) (d' : Int) (e' : Int) (f' : Int) (x : Int) (z : Int) (y : Int) (l1 : Int) (l2 : Int) (on : Bool) (fd : Bool) (i : Int) (K : List AV → Prop) : loopK N6 (bodyOf Tryz.f101) 0 (finK N6 Tryz.f101 K) (AX.exit 0) (o101 s o h t p a b c d e f a' b' c' d' e' f' x z y l1 l2 on fd i) = (K [bo on]) := by kernel_rfl
end Y27
set_option maxRecDepth 100000
namespace Y27
open Go Go.AE Go.Proofs E6
attribute [local irreducible] loopK evCode evSpec loopB norm
theorem chg_ev (s : List UInt8) (o : Int) (h : Bool) (t : List UInt8) (p a b c d e f a' b' c' d' e' f' y : Int) (hr : okRu o p true (vDay a b c d e f) (vDay a' b' c' d' e' f')) (y1 : -1000000000000 ≤ y) (y2 : y ≤ 1000000000000) (K : List AV → Prop)
    (hK : K [.agg [i64 (ch1 o a b c d e f y).1, i64 (ch1 o a b c d e f y).2], .agg [i64 (ch1 p a' b' c' d' e' f' y).1, i64 (ch1 p a' b' c' d' e' f' y).2]]) : evSpec N5 Tryz.f120 [.agg (ruC s o h t p (rdC a b c d e f) (rdC a' b' c' d' e' f')), i64 y] K := by
  obtain ⟨o1, o2, p1, p2, hv⟩ := hr
  obtain ⟨v1, v2⟩ := hv rfl
  obtain ⟨⟨f1, f2⟩, _⟩ := vDay_elim v1
  obtain ⟨⟨g1, g2⟩, _⟩ := vDay_elim v2
  obtain ⟨⟨q1, q2⟩, _⟩ := rd_spec v1 y1 y2
  obtain ⟨⟨q3, q4⟩, _⟩ := rd_spec v2 y1 y2
  refine Eq.mpr (g120_in s o h t p a b c d e f a' b' c' d' e' f' y K) ?_
  intro E1 E2 E3
  have w1 : IntKind.wrap .i64 (f - o) = f - o := wrap64 (by omega) (by omega)
  have w2 : IntKind.wrap .i64 (f' - p) = f' - p := wrap64 (by omega) (by omega)
  have b1 : -1000000 ≤ IntKind.wrap .i64 (f - o) := by rw [w1]; omega
  have b2 : IntKind.wrap .i64 (f - o) ≤ 1000000 := by rw [w1]; omega
  have b3 : -1000000 ≤ IntKind.wrap .i64 (f' - p) := by rw [w2]; omega
  have b4 : IntKind.wrap .i64 (f' - p) ≤ 1000000 := by rw [w2]; omega
  have q1' : -1000000000000000 ≤ rdV a b c d e f y := by omega
  have q2' : rdV a b c d e f y ≤ 1000000000000000 := by omega
  have q3' : -1000000000000000 ≤ rdV a' b' c' d' e' f' y := by omega
  have q4' : rdV a' b' c' d' e' f' y ≤ 1000000000000000 := by omega
  exact ⟨⟨⟨v1, y1, y2, ⟨q1', q2', b1, b2, rfl⟩, q1', q2', b1, b2, rfl⟩, v1, y1, y2, q1', q2', b1, b2, rfl⟩, ⟨⟨v2, y1, y2, ⟨q3', q4', b3, b4, rfl⟩, q3', q4', b3, b4, rfl⟩, v2, y1, y2, q3', q4', b3, b4, rfl⟩, rfl, hK⟩
theorem ok120e : ∀ args pres res, sChg args = some (pres, res) → SpecOK Tryz.prog G16 120 args pres res := by
  intro args pres res h
  unfold sChg at h
  split at h
  case h_2 => cases h
  cases h
  exact spec_ok (C := N5) okF24 noCall_ok Tryz.func120 (by kernel_rfl) (by kernel_rfl) (fun hp => chg_ev _ _ _ _ _ _ _ _ _ _ _ _ _ _ _ _ _ _ (hp _ (by simp)) (hp _ (by simp)) (hp _ (by simp)) _ rfl)
theorem okF25 : EOK Tryz.prog F25 G16 := addE_ok okF24 ok120e
theorem on_ex (s : List UInt8) (o : Int) (h : Bool) (t : List UInt8) (p a b c d e f a' b' c' d' e' f' x z y : Int) (hr : okRu o p h (vDay a b c d e f) (vDay a' b' c' d' e' f')) (y1 : -999999999000 ≤ y) (y2 : y ≤ 999999999000) :
    ∃ v : Bool, True ∧ ∀ K : List AV → Prop, K [bo v] → evSpec N6 Tryz.f101 [.agg (ruC s o h t p (rdC a b c d e f) (rdC a' b' c' d' e' f')), .agg [i64 x, i64 z], i64 y] K := by
  cases hh : h with
  | false =>
    refine ⟨false, trivial, fun K hK => ?_⟩
    rw [g101_in]
    exact brn_T rfl hK
  | true =>
    subst hh
    have w3 : IntKind.wrap .i64 (y - 3) = y - 3 := wrap64 (by omega) (by omega)
    have w2 : IntKind.wrap .i64 (y + 2) = y + 2 := wrap64 (by omega) (by omega)
    refine Exists.elim (loop_det (C := N6) (c := loopB (bodyOf Tryz.f101) 0) (fun q : Int × Int × Bool × Bool × Int => h101 s o true t p a b c d e f a' b' c' d' e' f' x z y q.1 q.2.1 q.2.2.1 q.2.2.2.1 q.2.2.2.2) (fun q => y - 3 ≤ q.2.2.2.2 ∧ q.2.2.2.2 ≤ y + 3) (fun q => (y + 3 - q.2.2.2.2).toNat) (fun _ : Bool => True) (fun v => [bo v])
      (fun K => loopK N6 (bodyOf Tryz.f101) 0 (finK N6 Tryz.f101 K)) rfl (fun q hq => ?_) (0, 0, false, false, y - 3) ⟨by show y - 3 ≤ y - 3; omega, by show y - 3 ≤ y + 3; omega⟩) (fun v hv' => ?_)
    · obtain ⟨l1, l2, on, fd, i⟩ := q
      obtain ⟨i1, i2⟩ := hq
      simp only at i1 i2
      have e0 : IntKind.wrap .i64 (i + 1) = i + 1 := wrap64 (by omega) (by omega)
      by_cases hi : i ≤ y + 2
      · have j1 : (-1000000000000 : Int) ≤ i := by omega
        have j2 : i ≤ (1000000000000 : Int) := by omega
        have hμ : (y + 3 - (i + 1)).toNat < (y + 3 - i).toNat := by omega
        have hG : y - 3 ≤ i + 1 ∧ i + 1 ≤ y + 3 := by omega
        cases hb : (decide (cmpU (ch1 p a' b' c' d' e' f' i).1 (ch1 p a' b' c' d' e' f' i).2 x z ≤ 0) && (!fd || decide (cmpU (ch1 p a' b' c' d' e' f' i).1 (ch1 p a' b' c' d' e' f' i).2 l1 l2 > 0))) with
        | true =>
          cases hc : (decide (cmpU (ch1 o a b c d e f i).1 (ch1 o a b c d e f i).2 x z ≤ 0) && (!true || decide (cmpU (ch1 o a b c d e f i).1 (ch1 o a b c d e f i).2 (ch1 p a' b' c' d' e' f' i).1 (ch1 p a' b' c' d' e' f' i).2 ≥ 0))) with
          | true =>
            refine .inl ⟨((ch1 o a b c d e f i).1, (ch1 o a b c d e f i).2, true, true, i + 1), p101, _, hG, hμ, ?_, fun K' hK' => by
              rw [g101_lp, w2]
              intro A1
              exact brn_T (decide_eq_true hi) ⟨hr, j1, j2, brn_T hb (brn_T hc hK')⟩⟩
            rw [e0]
            kernel_rfl
          | false =>
            refine .inl ⟨((ch1 p a' b' c' d' e' f' i).1, (ch1 p a' b' c' d' e' f' i).2, false, true, i + 1), p101, _, hG, hμ, ?_, fun K' hK' => by
              rw [g101_lp, w2]
              intro A1
              exact brn_T (decide_eq_true hi) ⟨hr, j1, j2, brn_T hb (brn_Fa hc hK')⟩⟩
            rw [e0]
            kernel_rfl
        | false =>
          cases hc : (decide (cmpU (ch1 o a b c d e f i).1 (ch1 o a b c d e f i).2 x z ≤ 0) && (!fd || decide (cmpU (ch1 o a b c d e f i).1 (ch1 o a b c d e f i).2 l1 l2 ≥ 0))) with
          | true =>
            refine .inl ⟨((ch1 o a b c d e f i).1, (ch1 o a b c d e f i).2, true, true, i + 1), p101, _, hG, hμ, ?_, fun K' hK' => by
              rw [g101_lp, w2]
              intro A1
              exact brn_T (decide_eq_true hi) ⟨hr, j1, j2, brn_Fa hb (brn_T hc hK')⟩⟩
            rw [e0]
            kernel_rfl
          | false =>
            refine .inl ⟨(l1, l2, on, fd, i + 1), p101, _, hG, hμ, ?_, fun K' hK' => by
              rw [g101_lp, w2]
              intro A1
              exact brn_T (decide_eq_true hi) ⟨hr, j1, j2, brn_Fa hb (brn_Fa hc hK')⟩⟩
            rw [e0]
            kernel_rfl
      · refine .inr ⟨.exit 0, _, by simp, fun K' hK' => by
          rw [g101_lp, w2]
          intro A1
          exact brn_Fa (decide_eq_false hi) hK', on, trivial, fun K hK => ?_⟩
        have key : loopK N6 (bodyOf Tryz.f101) 0 (finK N6 Tryz.f101 K) (AX.exit 0) (o101 s o true t p a b c d e f a' b' c' d' e' f' x z y l1 l2 on fd i) := Eq.mpr (g101_out s o true t p a b c d e f a' b' c' d' e' f' x z y l1 l2 on fd i K) hK
        unfold o101 at key
        rw [w2] at key
        exact Eq.mp (by kernel_rfl) key
    · obtain ⟨_, hk⟩ := hv'
      refine ⟨v, trivial, fun K hK => ?_⟩
      rw [g101_in, w3]
      refine brn_Fa rfl ?_
      unfold LoopI
      exact hk K hK p101 _ (by kernel_rfl)
end Y27
set_option maxRecDepth 100000
namespace Y27
open Go Go.AE Go.Proofs E6
noncomputable def onV (R : List AV) (x z y : Int) : Bool := Classical.epsilon fun v : Bool => True ∧ ∀ K : List AV → Prop, K [bo v] → evSpec N6 Tryz.f101 [.agg R, .agg [i64 x, i64 z], i64 y] K
noncomputable def sOn : List AV → Option (List Prop × List AV)
  | [.agg [.imm (.str s), .imm (.int .i64 o), .imm (.bool h), .imm (.str t), .imm (.int .i64 p), .imm (.int .i64 a), .imm (.int .i64 b), .imm (.int .i64 c), .imm (.int .i64 d), .imm (.int .i64 e), .imm (.int .i64 f), .imm (.int .i64 a'), .imm (.int .i64 b'), .imm (.int .i64 c'), .imm (.int .i64 d'), .imm (.int .i64 e'), .imm (.int .i64 f')], .agg [.imm (.int .i64 x), .imm (.int .i64 z)], .imm (.int .i64 y)] =>
    some ([okRu o p h (vDay a b c d e f) (vDay a' b' c' d' e' f'), -999999999000 ≤ y, y ≤ 999999999000], [bo (onV (ruC s o h t p (rdC a b c d e f) (rdC a' b' c' d' e' f')) x z y)])
  | _ => none
noncomputable def F26 := addE F25 101 sOn
noncomputable def N7 : Cx := ⟨Tryz.prog, F26, noCall, G16, 4007⟩
theorem ok101e : ∀ args pres res, sOn args = some (pres, res) → SpecOK Tryz.prog G16 101 args pres res := by
  intro args pres res h
  unfold sOn at h
  split at h
  case h_2 => cases h
  cases h
  exact spec_ok (C := N6) okF25 noCall_ok Tryz.func101 (by kernel_rfl) (by kernel_rfl) (fun hp => (Classical.epsilon_spec (on_ex _ _ _ _ _ _ _ _ _ _ _ _ _ _ _ _ _ _ _ _ (hp _ (by simp)) (hp _ (by simp)) (hp _ (by simp)))).2 _ rfl)
theorem okF26 : EOK Tryz.prog F26 G16 := addE_ok okF25 ok101e
end Y27
set_option maxRecDepth 100000
namespace Y27
open Go Go.AE Go.Proofs E6
attribute [local irreducible] loopK evCode evSpec loopB norm
theorem g71_in (s : List UInt8) (o : Int) (h : Bool) (t : List UInt8) (p : Int) (a : Int) (b : Int) (c : Int) (d : Int) (e : Int) (f : Int) (a' : Int) (b' : Int) (c' : Int) (d' : Int) (e' : Int) (f' : Int) (x : Int) (K : List AV → Prop) : evSpec N7 Tryz.f71 [.agg (ruC s o h t p (rdC a b c d e f) (rdC a' b' c' d' e' f')), i64 x] K = (let E1 : Prop := ((sm (St.mk (lapp [.agg [.imm (.str s), i64 o, bo h, .imm (.str t), i64 p, i64 a, i64 b, i64 c, i64 d, i64 e, i64 f, i64 a', i64 b', i64 c', i64 d', i64 e', i64 f'], i64 x, .ptr 0 0, .dead, .ptr 1 0, i64 (splD x), i64 (splS x)] (lapp (dN 5) (lapp [.agg [.imm (.str s), i64 o, bo h, .imm (.str t), i64 p, i64 a, i64 b, i64 c, i64 d, i64 e, i64 f, i64 a', i64 b', i64 c', i64 d', i64 e', i64 f'], i64 (splD x), i64 (splS x), .agg [i64 (splD x), i64 (splS x)], i64 x, .agg [i64 ((dtV (splD x)).1), i64 ((dtV (splD x)).2.1), i64 ((dtV (splD x)).2.2), i64 (IntKind.wrap .i64 (Int.tdiv (splS x) (3600 : Int))), i64 (IntKind.wrap .i64 (Int.tdiv (Int.tmod (splS x) (3600 : Int)) (60 : Int))), i64 (Int.tmod (splS x) (60 : Int)), i64 (wkU (splD x))], i64 ((dtV (splD x)).1), bo (onV (ruC s o h t p (rdC a b c d e f) (rdC a' b' c' d' e' f')) (splD x) (splS x)
 (dtV (splD x)).1)] (dN 10)))) [(0, Ob.mk true 0 (AObj.cells [.imm (.str s), i64 o, bo h, .imm (.str t), i64 p, i64 a, i64 b, i64 c, i64 d, i64 e, i64 f, i64 a', i64 b', i64 c', i64 d', i64 e', i64 f'])), (1, Ob.mk true 0 (AObj.cells [bo false, i64 0, bo false, .imm (.str [])]))] 2 []))); (((-9223372036854775808 : Int) ≤ x ∧ x ≤ 9223372036854775807 ∧ okRu o p h (vDay a b c d e f) (vDay a' b' c' d' e' f') ∧ (-999999999000 : Int) ≤ (dtV (splD x)).1 ∧ (dtV (splD x)).1 ≤ 999999999000 ∧ E1) ∧ (-9223372036854775808 : Int) ≤ x ∧ x ≤ 9223372036854775807 ∧ (okRu o p h (vDay a b c d e f) (vDay a' b' c' d' e' f') ∧ (-999999999000 : Int) ≤ (dtV (splD x)).1 ∧ (dtV (splD x)).1 ≤ 999999999000 ∧ E1) ∧ okRu o p h (vDay a b c d e f) (vDay a' b' c' d' e' f') ∧ (-999999999000 : Int) ≤ (dtV (splD x)).1 ∧ (dtV (splD x)).1 ≤ 999999999000 ∧ E1) ∧ brn (onV (ruC s o h t p (rdC a b c d e f) (rdC a' b' c' d' e' f')) (splD x) (splS x) (dtV (splD x)).1) (K [.agg [bo true, i64 p, bo true, .imm (.str t)]]) (K [.agg [bo true, i64 o, bo false, .imm (.str s)]])) := by kernel_rfl
end Y27
set_option maxRecDepth 100000
namespace Y27
open Go Go.AE Go.Proofs E6
noncomputable def atC (s : List UInt8) (o : Int) (h : Bool) (t : List UInt8) (p a b c d e f a' b' c' d' e' f' x : Int) : List AV :=
  [bo true, i64 (bif onV (ruC s o h t p (rdC a b c d e f) (rdC a' b' c' d' e' f')) (splD x) (splS x) (dtV (splD x)).1 then p else o), bo (onV (ruC s o h t p (rdC a b c d e f) (rdC a' b' c' d' e' f')) (splD x) (splS x) (dtV (splD x)).1), .imm (.str (bif onV (ruC s o h t p (rdC a b c d e f) (rdC a' b' c' d' e' f')) (splD x) (splS x) (dtV (splD x)).1 then t else s))]
noncomputable def sAt : List AV → Option (List Prop × List AV)
  | [.agg [.imm (.str s), .imm (.int .i64 o), .imm (.bool h), .imm (.str t), .imm (.int .i64 p), .imm (.int .i64 a), .imm (.int .i64 b), .imm (.int .i64 c), .imm (.int .i64 d), .imm (.int .i64 e), .imm (.int .i64 f), .imm (.int .i64 a'), .imm (.int .i64 b'), .imm (.int .i64 c'), .imm (.int .i64 d'), .imm (.int .i64 e'), .imm (.int .i64 f')], .imm (.int .i64 x)] =>
    some ([okRu o p h (vDay a b c d e f) (vDay a' b' c' d' e' f'), -9223372036854775808 ≤ x, x ≤ 9223372036854775807], [.agg (atC s o h t p a b c d e f a' b' c' d' e' f' x)])
  | _ => none
noncomputable def F27 := addE F26 71 sAt
noncomputable def N8 : Cx := ⟨Tryz.prog, F27, noCall, G16, 4020⟩
def h70 (L : List Lp) (t i : Int) : St := ⟨spr [(0, .imm (.sl 2 (L.map cellsL))), (1, i64 t), (5, i64 i)] 0 26, [], 0, []⟩
def o70 (L : List Lp) (t i : Int) : St := ⟨spr [(0, .imm (.sl 2 (L.map cellsL))), (1, i64 t), (5, i64 i), (9, i64 i), (10, bo (decide (i ≥ 0)))] 0 26, [], 0, []⟩
def p70 : Plan := ⟨[], msk [0, 1, 5] 0 26, []⟩
def h103 (b s : List UInt8) (i : Int) : St := ⟨spr [(0, by' b), (6, .imm (.str s)), (7, i64 i)] 0 39, [], 0, []⟩
def p103 : Plan := ⟨[], msk [0, 6, 7] 0 39, []⟩
attribute [local irreducible] loopK evCode evSpec loopB norm
theorem at_ev (s : List UInt8) (o : Int) (h : Bool) (t : List UInt8) (p a b c d e f a' b' c' d' e' f' x : Int) (hr : okRu o p h (vDay a b c d e f) (vDay a' b' c' d' e' f')) (x1 : -9223372036854775808 ≤ x) (x2 : x ≤ 9223372036854775807) (K : List AV → Prop)
    (hK : K [.agg (atC s o h t p a b c d e f a' b' c' d' e' f' x)]) : evSpec N7 Tryz.f71 [.agg (ruC s o h t p (rdC a b c d e f) (rdC a' b' c' d' e' f')), i64 x] K := by
  refine Eq.mpr (g71_in s o h t p a b c d e f a' b' c' d' e' f' x K) ?_
  intro E1
  obtain ⟨q1, q2⟩ := spl_rng x1 x2
  obtain ⟨⟨y1, y2⟩, _⟩ := dt_spec q1 q2
  have z1 : -999999999000 ≤ (dtV (splD x)).1 := by omega
  have z2 : (dtV (splD x)).1 ≤ 999999999000 := by omega
  refine ⟨⟨⟨x1, x2, hr, z1, z2, rfl⟩, x1, x2, ⟨hr, z1, z2, rfl⟩, hr, z1, z2, rfl⟩, ?_⟩
  unfold atC at hK
  cases ho : onV (ruC s o h t p (rdC a b c d e f) (rdC a' b' c' d' e' f')) (splD x) (splS x) (dtV (splD x)).1 with
  | true => rw [ho] at hK; exact brn_T rfl hK
  | false => rw [ho] at hK; exact brn_Fa rfl hK
theorem ok71e : ∀ args pres res, sAt args = some (pres, res) → SpecOK Tryz.prog G16 71 args pres res := by
  intro args pres res h
  unfold sAt at h
  split at h
  case h_2 => cases h
  cases h
  exact spec_ok (C := N7) okF26 noCall_ok Tryz.func71 (by kernel_rfl) (by kernel_rfl) (fun hp => at_ev _ _ _ _ _ _ _ _ _ _ _ _ _ _ _ _ _ _ (hp _ (by simp)) (hp _ (by simp)) (hp _ (by simp)) _ rfl)
theorem okF27 : EOK Tryz.prog F27 G16 := addE_ok okF26 ok71e
end Y27
set_option maxRecDepth 100000
namespace Y27
open Go Go.AE Go.Proofs E6
attribute [local irreducible] loopK evCode evSpec loopB norm
theorem g70_in (L : List Lp) (t : Int) (K : List AV → Prop) : evSpec N8 Tryz.f70 [.imm (.sl 2 (List.map cellsL L)), i64 t] K = (LoopI N8 (bodyOf Tryz.f70) 0 (St.mk (lapp [.imm (.sl 2 (List.map cellsL L)), i64 t, .dead, .dead, i64 0, i64 (IntKind.wrap .i64 ((↑(List.map cellsL L).length : Int) - 1)), .imm (.sl 2 (List.map cellsL L)), i64 (↑(List.map cellsL L).length : Int), i64 (IntKind.wrap .i64 ((↑(List.map cellsL L).length : Int) - 1))] (dN 17)) [] 0 []) (finK N8 Tryz.f70 K)) := by kernel_rfl
theorem g70_lp (L : List Lp) (t : Int) (i : Int) (k : AX → St → Prop) : evCode N8 (loopB (bodyOf Tryz.f70) 0) (h70 L t i) k = (brn (decide (i ≥ 0)) ((0 : Int) ≤ i ∧ i < (↑(List.map cellsL L).length : Int) ∧ kcells (List.getD (List.map cellsL L) i.toNat []) 0 (lapp [CK.int IntKind.i64] (lapp [CK.int IntKind.i32] [])) = List.getD (List.map cellsL L) i.toNat [] ∧ brn (decide (ivInt (ivNth (List.getD (List.map cellsL L) i.toNat []) 0) ≤ t)) ((0 : Int) ≤ i ∧ i < (↑(List.map cellsL L).length : Int) ∧ kcells (List.getD (List.map cellsL L) i.toNat []) 0 (lapp [CK.int IntKind.i64] (lapp [CK.int IntKind.i32] [])) = List.getD (List.map cellsL L) i.toNat [] ∧ k AX.ret (St.mk [.imm (.sl 2 (List.map cellsL L)), i64 t, .dead, .dead, i64 (IntKind.wrap .i64 (ivInt (ivNth (List.getD (List.map cellsL L) i.toNat []) (0 + 1)))), i64 i, .dead, .dead, .dead, i64 i, bo (decide (i ≥ 0)), .dead, .dead, .imm (.sl 2 (List.map cellsL L)), i64 i, AV.elv [IV.int .i64 (ivInt (ivNth (List.getD (List.map cellsL L) i.toNat []) 0)), IV.int IntKind.i32 (ivInt (ivNth (List.getD (List.map cellsL L) i.toNat []) (0 + 1)))], AV.elv [IV.int .i64 (ivInt (ivNth (List.getD (List.map cellsL L) i.toNat []) 0)), IV.int IntKind.i32
 (ivInt (ivNth (List.getD (List.map cellsL L) i.toNat []) (0 + 1)))], i64 (ivInt (ivNth (List.getD (List.map cellsL L) i.toNat []) 0)), i64 t, bo (decide (ivInt (ivNth (List.getD (List.map cellsL L) i.toNat []) 0) ≤ t)), .imm (.sl 2 (List.map cellsL L)), i64 i, AV.elv [IV.int .i64 (ivInt (ivNth (List.getD (List.map cellsL L) i.toNat []) 0)), IV.int IntKind.i32 (ivInt (ivNth (List.getD (List.map cellsL L) i.toNat []) (0 + 1)))], AV.elv [IV.int IntKind.i32 (ivInt (ivNth (List.getD (List.map cellsL L) i.toNat []) (0 + 1)))], .imm (.int IntKind.i32 (ivInt (ivNth (List.getD (List.map cellsL L) i.toNat []) (0 + 1)))), i64 (IntKind.wrap .i64 (ivInt (ivNth (List.getD (List.map cellsL L) i.toNat []) (0 + 1))))] [] 0 [])) (k AX.normal (St.mk (lapp [.imm (.sl 2 (List.map cellsL L)), i64 t, .dead, .dead, .dead, i64 (IntKind.wrap .i64 (i - 1)), .dead, .dead, .dead, i64 i, bo (decide (i ≥ 0)), i64 i, i64 (IntKind.wrap .i64 (i - 1)), .imm (.sl 2 (List.map cellsL L)), i64 i, AV.elv [IV.int .i64 (ivInt (ivNth (List.getD (List.map cellsL L) i.toNat []) 0)), IV.int IntKind.i32 (ivInt (ivNth (List.getD (List.map cellsL L) i.toNat []) (0 + 1)))], AV.elv [IV.int .i64 (ivInt (ivNth (List.getD (List.map
 cellsL L) i.toNat []) 0)), IV.int IntKind.i32 (ivInt (ivNth (List.getD (List.map cellsL L) i.toNat []) (0 + 1)))], i64 (ivInt (ivNth (List.getD (List.map cellsL L) i.toNat []) 0)), i64 t, bo (decide (ivInt (ivNth (List.getD (List.map cellsL L) i.toNat []) 0) ≤ t))] (dN 6)) [] 0 []))) (k (AX.exit 0) (St.mk (lapp [.imm (.sl 2 (List.map cellsL L)), i64 t, .dead, .dead, .dead, i64 i, .dead, .dead, .dead, i64 i, bo (decide (i ≥ 0))] (dN 15)) [] 0 []))) := by kernel_rfl
theorem g70_out (L : List Lp) (t : Int) (i : Int) (K : List AV → Prop) : loopK N8 (bodyOf Tryz.f70) 0 (finK N8 Tryz.f70 K) (AX.exit 0) (o70 L t i) = (K [i64 0]) := by kernel_rfl
theorem g103_in (b : List UInt8) (i : Int) (K : List AV → Prop) : evSpec N8 Tryz.f103 [by' b, i64 i] K = (brn (decide (i < 0) || decide (i ≥ (b.length : Int))) (K [.imm (.str []), bo false]) (LoopI N8 (bodyOf Tryz.f103) 0 (St.mk (lapp [by' b, i64 i, .dead, .dead, .imm (.str []), bo false, .imm (.str []), i64 i, i64 i, bo (decide (i < 0)), bo (decide (i < 0)), .opt [(10, false)] (i64 i), .opt [(10, false)] (by' b), .opt [(10, false)] (i64 (b.length : Int)), .opt [(10, false)] (bo (decide (i ≥ (b.length : Int)))), bo (decide (i < 0) || decide (i ≥ (b.length : Int))), i64 i] (dN 22)) [] 0 []) (finK N8 Tryz.f103 K))) := by kernel_rfl
theorem g103_lp (b : List UInt8) (s : List UInt8) (i : Int) (k : AX → St → Prop) : evCode N8 (loopB (bodyOf Tryz.f103) 0) (h103 b s i) k = ((decide (i < (b.length : Int)) = true → (0 : Int) ≤ i) ∧ (decide (i < (b.length : Int)) = true → i < (b.length : Int)) ∧ brn (decide (i < (b.length : Int)) && (↑(UInt8.toNat (List.getD b i.toNat (0 : UInt8))) : Int) != 0) ((0 : Int) ≤ i ∧ i < (b.length : Int) ∧ s.length + (List.map u8 [(↑(UInt8.toNat (List.getD b i.toNat (0 : UInt8))) : Int)]).length ≤ 9223372036854775807 ∧ k AX.normal (St.mk (lapp [by' b] (lapp (dN 5) (lapp [.imm (.str (s ++ List.map u8 [(↑(UInt8.toNat (List.getD b i.toNat (0 : UInt8))) : Int)])), i64 (IntKind.wrap .i64 (i + 1))] (lapp (dN 9) (lapp [i64 i, by' b, i64 (b.length : Int)] (lapp (dN 8) (lapp [i64 i, i64 (IntKind.wrap .i64 (i + 1))] (dN 9)))))))) [] 0 [])) (k (AX.exit 0) (St.mk (lapp [by' b] (lapp (dN 5) (lapp [.imm (.str s), i64 i] (lapp (dN 9) (lapp [i64 i, by' b, i64 (b.length : Int), bo (decide (i < (b.length : Int))), bo (decide (i < (b.length : Int))), .opt [(21, true)] (by' b), .opt [(21, true)] (i64 i), .opt [(21, true)] (AV.elv [IV.int .u8 (↑(UInt8.toNat (List.getD b i.toNat (0 : UInt8))) : Int)]), .opt
 [(21, true)] (.imm (.int .u8 (↑(UInt8.toNat (List.getD b i.toNat (0 : UInt8))) : Int))), .opt [(21, true)] (bo ((↑(UInt8.toNat (List.getD b i.toNat (0 : UInt8))) : Int) != 0)), bo (decide (i < (b.length : Int)) && (↑(UInt8.toNat (List.getD b i.toNat (0 : UInt8))) : Int) != 0)] (dN 11)))))) [] 0 []))) := by kernel_rfl
end Y27
set_option maxRecDepth 100000
namespace Y27
open Go Go.AE Go.Proofs E6
noncomputable def coV (L : List Lp) (t : Int) : Int := Classical.epsilon fun v : Int => True ∧ ∀ K : List AV → Prop, K [i64 v] → evSpec N8 Tryz.f70 [.imm (.sl 2 (L.map cellsL)), i64 t] K
noncomputable def nmV (b : List UInt8) (i : Int) : List UInt8 × Bool := Classical.epsilon fun v : List UInt8 × Bool => True ∧ ∀ K : List AV → Prop, K [.imm (.str v.1), bo v.2] → evSpec N8 Tryz.f103 [by' b, i64 i] K
noncomputable def sCorr : List AV → Option (List Prop × List AV)
  | [.imm (.sl 2 xs), .imm (.int .i64 t)] => some ([okL xs, (xs.length : Int) ≤ 1000000], [i64 (coV (lps xs) t)])
  | _ => none
noncomputable def sName : List AV → Option (List Prop × List AV)
  | [.imm (.bytes b), .imm (.int .i64 i)] => some ([(b.length : Int) ≤ 1000000], [.imm (.str (nmV b i).1), bo (nmV b i).2])
  | _ => none
noncomputable def F28 := addE (addE F27 70 sCorr) 103 sName
noncomputable def N9 : Cx := ⟨Tryz.prog, F28, noCall, G16, 4008⟩
attribute [local irreducible] loopK evCode evSpec loopB norm
theorem getL9 {L : List Lp} {i : Nat} (h : i < L.length) : (L.map cellsL).getD i [] = cellsL (L[i]) := by
  rw [List.getD_eq_getElem?_getD, List.getElem?_map, List.getElem?_eq_getElem h]
  first | done | rfl
theorem corr_ex (L : List Lp) (t : Int) (hl : (L.length : Int) ≤ 1000000) : ∃ v : Int, True ∧ ∀ K : List AV → Prop, K [i64 v] → evSpec N8 Tryz.f70 [.imm (.sl 2 (L.map cellsL)), i64 t] K := by
  have hlen : (L.map cellsL).length = L.length := List.length_map _
  have w1 : IntKind.wrap .i64 ((L.length : Int) - 1) = (L.length : Int) - 1 := wrap64 (by omega) (by omega)
  refine Exists.elim (loop_det (C := N8) (c := loopB (bodyOf Tryz.f70) 0) (fun i : Int => h70 L t i) (fun i => -1 ≤ i ∧ i < L.length) (fun i => (i + 1).toNat) (fun _ : Int => True) (fun v => [i64 v])
    (fun K => loopK N8 (bodyOf Tryz.f70) 0 (finK N8 Tryz.f70 K)) rfl (fun i hs => ?_) ((L.length : Int) - 1) ⟨by omega, by omega⟩) (fun v hv' => ?_)
  · obtain ⟨i1, i2⟩ := hs
    by_cases h : i ≥ 0
    · have hi : i.toNat < L.length := by omega
      have hg := getL9 hi
      have hk : kcells (List.getD (List.map cellsL L) i.toNat []) 0 (lapp [CK.int IntKind.i64] (lapp [CK.int IntKind.i32] [])) = List.getD (List.map cellsL L) i.toNat [] := by rw [hg]; first | done | rfl
      have hb : i < ((L.map cellsL).length : Int) := by rw [hlen]; exact i2
      by_cases hx : ivInt (ivNth (List.getD (List.map cellsL L) i.toNat []) 0) ≤ t
      · refine .inr ⟨.ret, _, by simp, fun K' hK' => by
          rw [g70_lp]
          exact brn_T (decide_eq_true h) ⟨h, hb, hk, brn_T (decide_eq_true hx) ⟨h, hb, hk, hK'⟩⟩, IntKind.wrap .i64 (ivInt (ivNth (List.getD (List.map cellsL L) i.toNat []) (0 + 1))), trivial, fun K hK => ?_⟩
        exact Eq.mp (by kernel_rfl) hK
      · have e1 : IntKind.wrap .i64 (i - 1) = i - 1 := wrap64 (by omega) (by omega)
        refine .inl ⟨i - 1, p70, _, ⟨by omega, by omega⟩, by omega, ?_, fun K' hK' => by
          rw [g70_lp]
          exact brn_T (decide_eq_true h) ⟨h, hb, hk, brn_Fa (decide_eq_false hx) hK'⟩⟩
        rw [e1]
        kernel_rfl
    · refine .inr ⟨.exit 0, _, by simp, fun K' hK' => by
        rw [g70_lp]
        exact brn_Fa (decide_eq_false h) hK', 0, trivial, fun K hK => ?_⟩
      have key : loopK N8 (bodyOf Tryz.f70) 0 (finK N8 Tryz.f70 K) (AX.exit 0) (o70 L t i) := Eq.mpr (g70_out L t i K) hK
      exact Eq.mp (by kernel_rfl) key
  · obtain ⟨hv, hk⟩ := hv'
    refine ⟨v, hv, fun K hK => ?_⟩
    rw [g70_in, hlen]
    unfold LoopI
    exact hk K hK p70 _ (by rw [w1]; kernel_rfl)
theorem name_ex (b : List UInt8) (i : Int) (hl : (b.length : Int) ≤ 1000000) : ∃ v : List UInt8 × Bool, True ∧ ∀ K : List AV → Prop, K [.imm (.str v.1), bo v.2] → evSpec N8 Tryz.f103 [by' b, i64 i] K := by
  by_cases h0 : i < 0 ∨ i ≥ b.length
  · refine ⟨([], false), trivial, fun K hK => ?_⟩
    rw [g103_in]
    refine brn_T ?_ hK
    rcases h0 with h | h
    · rw [decide_eq_true h]; first | done | rfl
    · rw [decide_eq_true h]; exact Bool.or_true _
  · refine Exists.elim (loop_det (C := N8) (c := loopB (bodyOf Tryz.f103) 0) (fun s : Int × List UInt8 => h103 b s.2 s.1) (fun s => 0 ≤ s.1 ∧ s.1 ≤ b.length ∧ (s.2.length : Int) ≤ s.1) (fun s => ((b.length : Int) - s.1).toNat) (fun _ : List UInt8 × Bool => True) (fun v => [.imm (.str v.1), bo v.2])
      (fun K => loopK N8 (bodyOf Tryz.f103) 0 (finK N8 Tryz.f103 K)) rfl (fun s hs => ?_) (i, []) ⟨by show 0 ≤ i; omega, by show i ≤ b.length; omega, by show (0 : Int) ≤ i; omega⟩) (fun v hv' => ?_)
    · obtain ⟨i, s⟩ := s
      obtain ⟨i1, i2, i3⟩ := hs
      simp only at i1 i2 i3
      cases hb : (decide (i < (b.length : Int)) && ((b.getD i.toNat 0).toNat : Int) != 0) with
      | true =>
        have hi : i < (b.length : Int) := of_decide_eq_true ((Bool.and_eq_true _ _).mp hb).1
        have e1 : IntKind.wrap .i64 (i + 1) = i + 1 := wrap64 (by omega) (by omega)
        refine .inl ⟨(i + 1, s ++ List.map u8 [((b.getD i.toNat 0).toNat : Int)]), p103, _, ⟨by show 0 ≤ i + 1; omega, by show i + 1 ≤ _; omega, by show ((s ++ List.map u8 [((b.getD i.toNat 0).toNat : Int)]).length : Int) ≤ i + 1; rw [List.length_append]; show ((s.length + 1 : Nat) : Int) ≤ i + 1; omega⟩, by show ((b.length : Int) - (i + 1)).toNat < ((b.length : Int) - i).toNat; omega, ?_, fun K' hK' => by
          rw [g103_lp]
          exact ⟨fun _ => i1, fun h => of_decide_eq_true h, brn_T hb ⟨i1, hi, by show s.length + 1 ≤ _; omega, hK'⟩⟩⟩
        rw [e1]
        kernel_rfl
      | false =>
        refine .inr ⟨.exit 0, _, by simp, fun K' hK' => by
          rw [g103_lp]
          exact ⟨fun _ => i1, fun h => of_decide_eq_true h, brn_Fa hb hK'⟩, (s, true), trivial, fun K hK => ?_⟩
        exact Eq.mp (by kernel_rfl) hK
    · obtain ⟨hv, hk⟩ := hv'
      refine ⟨v, hv, fun K hK => ?_⟩
      rw [g103_in]
      refine brn_Fa ?_ ?_
      · rw [decide_eq_false (by omega), decide_eq_false (by omega)]; first | done | rfl
      · unfold LoopI
        exact hk K hK p103 _ (by kernel_rfl)
theorem ok70e : ∀ args pres res, sCorr args = some (pres, res) → SpecOK Tryz.prog G16 70 args pres res := by
  intro args pres res h
  unfold sCorr at h
  split at h
  case h_2 => cases h
  cases h
  rename_i xs t
  refine spec_ok (C := N8) okF27 noCall_ok Tryz.func70 (by kernel_rfl) (by kernel_rfl) (fun hp => ?_)
  obtain ⟨L, rfl, e, hL⟩ := okL_elim (hp (okL xs) (by simp))
  have h1 := hp (((L.map cellsL).length : Int) ≤ 1000000) (by simp)
  rw [List.length_map] at h1
  rw [e]
  exact (Classical.epsilon_spec (corr_ex L t h1)).2 _ rfl
theorem ok103e : ∀ args pres res, sName args = some (pres, res) → SpecOK Tryz.prog G16 103 args pres res := by
  intro args pres res h
  unfold sName at h
  split at h
  case h_2 => cases h
  cases h
  exact spec_ok (C := N8) okF27 noCall_ok Tryz.func103 (by kernel_rfl) (by kernel_rfl) (fun hp => (Classical.epsilon_spec (name_ex _ _ (hp _ (by simp)))).2 _ rfl)
theorem okF28 : EOK Tryz.prog F28 G16 := addE_ok (addE_ok okF27 ok70e) ok103e
end Y27
set_option maxRecDepth 100000
namespace Y27
open Go Go.AE Go.Proofs E6
attribute [local irreducible] loopK evCode evSpec loopB norm
theorem g72_in (T : List Int) (I : List UInt8) (X : List (List IV)) (C : List UInt8) (L : List (List IV)) (S : List Bool) (U : List Bool) (i : Int) (K : List AV → Prop) : evSpec N9 Tryz.f72 [blkAV T I X C L S U, i64 i] K = ((0 : Int) ≤ i ∧ i < (↑(List.length X) : Int) ∧ kcells (List.getD X i.toNat []) 0 (lapp [CK.int IntKind.i32] (lapp [CK.bool] (lapp [CK.int IntKind.u8] []))) = List.getD X i.toNat [] ∧ (↑(List.length C) : Int) ≤ 1000000 ∧ K [.agg [bo true, i64 (IntKind.wrap .i64 (ivInt (ivNth (List.getD X i.toNat []) 0))), bo (ivBool (ivNth (List.getD X i.toNat []) (0 + 1))), .imm (.str (nmV C (IntKind.wrap .i64 (ivInt (ivNth (List.getD X i.toNat []) (0 + 1 + 1))))).1)]]) := by kernel_rfl
end Y27
set_option maxRecDepth 100000
namespace Y27
open Go Go.AE Go.Proofs E6
noncomputable def trC (X : List (List IV)) (C : List UInt8) (i : Int) : List AV := [bo true, i64 (IntKind.wrap .i64 (ivInt (ivNth (List.getD X i.toNat []) 0))), bo (ivBool (ivNth (List.getD X i.toNat []) (0 + 1))), .imm (.str (nmV C (IntKind.wrap .i64 (ivInt (ivNth (List.getD X i.toNat []) (0 + 1 + 1))))).1)]
noncomputable def sTyRes : List AV → Option (List Prop × List AV)
  | [.agg [.imm (.ints .i64 T), .imm (.bytes I), .imm (.sl 3 X), .imm (.bytes C), .imm (.sl 2 L), .imm (.bools S), .imm (.bools U)], .imm (.int .i64 i)] => some ([okT X, 0 ≤ i, i < (X.length : Int), (C.length : Int) ≤ 1000000], [.agg (trC X C i)])
  | _ => none
noncomputable def F29 := addE F28 72 sTyRes
noncomputable def N10 : Cx := ⟨Tryz.prog, F29, noCall, G16, 4004⟩
noncomputable def N11 : Cx := ⟨Tryz.prog, F29, noCall, G16, 4009⟩
def k57 (T : List Int) (i : Int) : St := ⟨spr [(0, ii T), (3, i64 i)] 0 21, [], 0, []⟩
def q57 : Plan := ⟨[], msk [0, 3] 0 21, []⟩
def xT (X : List Ty) : AV := .imm (.sl 3 (X.map cellsT))
def xL (L : List Lp) : AV := .imm (.sl 2 (L.map cellsL))
def k58 (X : List Ty) (n i : Int) : St := ⟨spr [(0, xT X), (1, i64 n), (5, i64 i)] 0 33, [], 0, []⟩
def r58 (X : List Ty) (n i : Int) : St := ⟨spr [(0, xT X), (1, i64 n), (5, i64 i), (7, i64 i), (8, xT X), (9, i64 ((X.map cellsT).length : Int)), (10, bo (decide (i < ((X.map cellsT).length : Int))))] 0 33, [], 0, []⟩
def q58 : Plan := ⟨[], msk [0, 1, 5] 0 33, []⟩
def k58b (X : List Ty) (n i : Int) : St := ⟨spr [(0, xT X), (1, i64 n), (6, i64 i)] 0 33, [], 0, []⟩
def q58b : Plan := ⟨[], msk [0, 1, 6] 0 33, []⟩
def h92 (b : List UInt8) (i : Int) : St := ⟨spr [(0, by' b), (3, i64 i)] 0 38, [], 0, []⟩
def o92 (b : List UInt8) (i : Int) : St := ⟨spr [(0, by' b), (3, i64 i), (4, i64 i), (5, by' b), (6, ln b.length), (7, bo (decide (i < (b.length : Int))))] 0 38, [], 0, []⟩
def p92 : Plan := ⟨[], msk [0, 3] 0 38, []⟩
def k60 (L : List Lp) (v i : Int) : St := ⟨spr [(0, xL L), (1, i64 v), (5, i64 i)] 0 99, [], 0, []⟩
def q60 : Plan := ⟨[], msk [0, 1, 5] 0 99, []⟩
def k61 (S U : List Bool) (i : Int) : St := ⟨spr [(0, oo S), (1, oo U), (5, i64 i)] 0 31, [], 0, []⟩
def q61 : Plan := ⟨[], msk [0, 1, 5] 0 31, []⟩
attribute [local irreducible] loopK evCode evSpec loopB norm
theorem getT9 {X : List Ty} {i : Nat} (h : i < X.length) : (X.map cellsT).getD i [] = cellsT (X[i]) := by
  rw [List.getD_eq_getElem?_getD, List.getElem?_map, List.getElem?_eq_getElem h]
  first | done | rfl
theorem kcT {X : List Ty} {i : Int} (h0 : 0 ≤ i) (h : i < (X.length : Int)) : kcells (List.getD (List.map cellsT X) i.toNat []) 0 (lapp [CK.int IntKind.i32] (lapp [CK.bool] (lapp [CK.int IntKind.u8] []))) = List.getD (List.map cellsT X) i.toNat [] := by
  rw [getT9 (by omega)]; first | done | rfl
theorem kcL {L : List Lp} {i : Int} (h0 : 0 ≤ i) (h : i < (L.length : Int)) : kcells (List.getD (List.map cellsL L) i.toNat []) 0 (lapp [CK.int IntKind.i64] (lapp [CK.int IntKind.i32] [])) = List.getD (List.map cellsL L) i.toNat [] := by
  rw [getL9 (by omega)]; first | done | rfl
theorem ok72e : ∀ args pres res, sTyRes args = some (pres, res) → SpecOK Tryz.prog G16 72 args pres res := by
  intro args pres res h
  unfold sTyRes at h
  split at h
  case h_2 => cases h
  cases h
  rename_i T I X C L S U i
  refine spec_ok (C := N9) okF28 noCall_ok Tryz.func72 (by kernel_rfl) (by kernel_rfl) (fun hp => ?_)
  have hX : okT X := hp _ (by simp)
  have h0 : 0 ≤ i := hp _ (by simp)
  have h1 : i < (X.length : Int) := hp _ (by simp)
  have h2 : (C.length : Int) ≤ 1000000 := hp _ (by simp)
  refine Eq.mpr (g72_in T I X C L S U i _) ⟨h0, h1, ?_, h2, rfl⟩
  rw [hX.1]
  refine kcT h0 ?_
  rw [hX.1, List.length_map] at h1
  exact h1
theorem okF29 : EOK Tryz.prog F29 G16 := addE_ok okF28 ok72e
end Y27
set_option maxRecDepth 100000
namespace Y27
open Go Go.AE Go.Proofs E6
attribute [local irreducible] loopK evCode evSpec loopB norm
theorem g57_in (T : List Int) (K : List AV → Prop) : evSpec N10 Tryz.f57 [ii T] K = (LoopI N10 (bodyOf Tryz.f57) 0 (St.mk (lapp [.imm (.ints IntKind.i64 T), .dead, i64 0, i64 1] (dN 17)) [] 0 []) (finK N10 Tryz.f57 K)) := by kernel_rfl
theorem g57_lp (T : List Int) (i : Int) (k : AX → St → Prop) : evCode N10 (loopB (bodyOf Tryz.f57) 0) (k57 T i) k = (let E1 : Prop := ((sm (St.mk (lapp [.imm (.ints IntKind.i64 T), .dead, .dead, i64 i] (lapp (dN 6) [.imm (.ints IntKind.i64 T), i64 i, i64 (IntKind.wrap .i64 (i - 1)), AV.elv [IV.int .i64 (List.getD T (IntKind.wrap .i64 (i - 1)).toNat (0 : Int))], i64 (List.getD T (IntKind.wrap .i64 (i - 1)).toNat (0 : Int)), .imm (.ints IntKind.i64 T), i64 i, AV.elv [IV.int .i64 (List.getD T i.toNat (0 : Int))], i64 (List.getD T i.toNat (0 : Int)), bo (decide (List.getD T (IntKind.wrap .i64 (i - 1)).toNat (0 : Int) ≥ List.getD T i.toNat (0 : Int))), .dead])) [] 0 []))); brn (decide (i < (↑(List.length T) : Int))) (((0 : Int) ≤ IntKind.wrap .i64 (i - 1) ∧ IntKind.wrap .i64 (i - 1) < (↑(List.length T) : Int) ∧ (0 : Int) ≤ i ∧ i < (↑(List.length T) : Int) ∧ E1 ∧ E1) ∧ brn (decide (List.getD T (IntKind.wrap .i64 (i - 1)).toNat (0 : Int) ≥ List.getD T i.toNat (0 : Int))) (k AX.ret (St.mk (lapp [.imm (.ints IntKind.i64 T), .dead, i64 i, i64 i] (lapp (dN 16) [i64 i])) [] 0 [])) (k AX.normal (St.mk (lapp [.imm (.ints IntKind.i64 T), .dead, .dead, i64 (IntKind.wrap .i64 (i + 1))] (lapp (dN 4)
 (lapp [i64 i, i64 (IntKind.wrap .i64 (i + 1))] (dN 11)))) [] 0 []))) (k (AX.exit 0) (St.mk (lapp [.imm (.ints IntKind.i64 T), .dead, .dead, i64 i, i64 i, .imm (.ints IntKind.i64 T), i64 (↑(List.length T) : Int), bo (decide (i < (↑(List.length T) : Int)))] (dN 13)) [] 0 []))) := by kernel_rfl
theorem g58_in (X : List Ty) (n : Int) (K : List AV → Prop) : evSpec N11 Tryz.f58 [xT X, i64 n] K = (LoopI N11 (bodyOf Tryz.f58) 0 (St.mk (lapp [.imm (.sl 3 (List.map cellsT X)), i64 n, .dead, .dead, i64 0, i64 0] (dN 27)) [] 0 []) (finK N11 Tryz.f58 K)) := by kernel_rfl
theorem g58_lp (X : List Ty) (n : Int) (i : Int) (k : AX → St → Prop) : evCode N11 (loopB (bodyOf Tryz.f58) 0) (k58 X n i) k = (brn (decide (i < (↑(List.map cellsT X).length : Int))) ((0 : Int) ≤ i ∧ i < (↑(List.map cellsT X).length : Int) ∧ kcells (List.getD (List.map cellsT X) i.toNat []) 0 (lapp [CK.int IntKind.i32] (lapp [CK.bool] (lapp [CK.int IntKind.u8] []))) = List.getD (List.map cellsT X) i.toNat [] ∧ brn (ivInt (ivNth (List.getD (List.map cellsT X) i.toNat []) 0) == (-2147483648 : Int)) (k AX.ret (St.mk (lapp [.imm (.sl 3 (List.map cellsT X)), i64 n, .dead, .dead, i64 9, i64 i, .dead, i64 i, .imm (.sl 3 (List.map cellsT X))] (dN 24)) [] 0 [])) (k AX.normal (St.mk (lapp [.imm (.sl 3 (List.map cellsT X)), i64 n, .dead, .dead, .dead, i64 (IntKind.wrap .i64 (i + 1)), .dead, i64 i, .imm (.sl 3 (List.map cellsT X)), .dead, .dead, i64 i, i64 (IntKind.wrap .i64 (i + 1))] (dN 20)) [] 0 []))) (k (AX.exit 0) (St.mk (lapp [.imm (.sl 3 (List.map cellsT X)), i64 n, .dead, .dead, .dead, i64 i, .dead, i64 i, .imm (.sl 3 (List.map cellsT X)), i64 (↑(List.map cellsT X).length : Int), bo (decide (i < (↑(List.map cellsT X).length : Int)))] (dN 22)) [] 0 []))) := by kernel_rfl
theorem g58_out (X : List Ty) (n : Int) (i : Int) (K : List AV → Prop) : loopK N11 (bodyOf Tryz.f58) 0 (finK N11 Tryz.f58 K) (AX.exit 0) (r58 X n i) = (LoopI N11 (bodyOf Tryz.f58) 1 (St.mk (lapp [.imm (.sl 3 (List.map cellsT X)), i64 n, .dead, .dead, .dead, i64 i, i64 0, i64 i, .imm (.sl 3 (List.map cellsT X))] (dN 24)) [] 0 []) (finK N11 Tryz.f58 K)) := by kernel_rfl
theorem g58_lp2 (X : List Ty) (n : Int) (i : Int) (k : AX → St → Prop) : evCode N11 (loopB (bodyOf Tryz.f58) 1) (k58b X n i) k = (brn (decide (i < (↑(List.map cellsT X).length : Int))) ((0 : Int) ≤ i ∧ i < (↑(List.map cellsT X).length : Int) ∧ kcells (List.getD (List.map cellsT X) i.toNat []) 0 (lapp [CK.int IntKind.i32] (lapp [CK.bool] (lapp [CK.int IntKind.u8] []))) = List.getD (List.map cellsT X) i.toNat [] ∧ brn (decide (IntKind.wrap .i64 (ivInt (ivNth (List.getD (List.map cellsT X) i.toNat []) (0 + 1 + 1))) ≥ n)) (k AX.ret (St.mk (lapp [.imm (.sl 3 (List.map cellsT X)), i64 n, .dead, .dead, i64 8, .dead, i64 i] (dN 26)) [] 0 [])) (k AX.normal (St.mk (lapp [.imm (.sl 3 (List.map cellsT X)), i64 n] (lapp (dN 4) (lapp [i64 (IntKind.wrap .i64 (i + 1))] (lapp (dN 16) (lapp [i64 i, i64 (IntKind.wrap .i64 (i + 1))] (dN 8)))))) [] 0 []))) (k (AX.exit 2) (St.mk (lapp [.imm (.sl 3 (List.map cellsT X)), i64 n] (lapp (dN 4) (lapp [i64 i] (lapp (dN 12) (lapp [i64 i, .imm (.sl 3 (List.map cellsT X)), i64 (↑(List.map cellsT X).length : Int), bo (decide (i < (↑(List.map cellsT X).length : Int)))] (dN 10)))))) [] 0 []))) := by kernel_rfl
theorem g92_in (b : List UInt8) (K : List AV → Prop) : evSpec N10 Tryz.f92 [by' b] K = (LoopI N10 (bodyOf Tryz.f92) 0 (St.mk (lapp [by' b, .dead, i64 0, i64 0] (dN 34)) [] 0 []) (finK N10 Tryz.f92 K)) := by kernel_rfl
theorem g92_lp (b : List UInt8) (i : Int) (k : AX → St → Prop) : evCode N10 (loopB (bodyOf Tryz.f92) 0) (h92 b i) k = (brn (decide (i < (b.length : Int))) ((0 : Int) ≤ i ∧ i < (b.length : Int) ∧ (((↑(UInt8.toNat (List.getD b i.toNat (0 : UInt8))) : Int) != 0) = true → (0 : Int) ≤ i) ∧ (((↑(UInt8.toNat (List.getD b i.toNat (0 : UInt8))) : Int) != 0) = true → i < (b.length : Int)) ∧ brn ((↑(UInt8.toNat (List.getD b i.toNat (0 : UInt8))) : Int) != 0 && !alwU (↑(UInt8.toNat (List.getD b i.toNat (0 : UInt8))) : Int)) (k AX.ret (St.mk (lapp [by' b, .dead, i64 i, i64 i] (lapp (dN 19) (lapp [i64 i] (dN 14)))) [] 0 [])) (k AX.normal (St.mk (lapp [by' b, .dead, .dead, i64 (IntKind.wrap .i64 (i + 1))] (lapp (dN 4) (lapp [i64 i, i64 (IntKind.wrap .i64 (i + 1))] (dN 28)))) [] 0 []))) (k (AX.exit 0) (St.mk (lapp [by' b, .dead, .dead, i64 i, i64 i, by' b, i64 (b.length : Int), bo (decide (i < (b.length : Int)))] (dN 30)) [] 0 []))) := by kernel_rfl
theorem g92_out (b : List UInt8) (i : Int) (K : List AV → Prop) : loopK N10 (bodyOf Tryz.f92) 0 (finK N10 Tryz.f92 K) (AX.exit 0) (o92 b i) = ((decide ((b.length : Int) > 0) = true → (0 : Int) ≤ IntKind.wrap .i64 ((b.length : Int) - 1)) ∧ (decide ((b.length : Int) > 0) = true → IntKind.wrap .i64 ((b.length : Int) - 1) < (b.length : Int)) ∧ brn (decide ((b.length : Int) > 0) && (↑(UInt8.toNat (List.getD b (IntKind.wrap .i64 ((b.length : Int) - 1)).toNat (0 : UInt8))) : Int) == 0) (K [i64 (-1 : Int)]) (K [i64 (b.length : Int)])) := by kernel_rfl
theorem g60_in (L : List Lp) (v : Int) (K : List AV → Prop) : evSpec N11 Tryz.f60 [xL L, i64 v] K = (LoopI N11 (bodyOf Tryz.f60) 0 (St.mk (lapp [.imm (.sl 2 (List.map cellsL L)), i64 v, .dead, .dead, bo false, i64 0] (dN 93)) [] 0 []) (finK N11 Tryz.f60 K)) := by kernel_rfl
theorem g60_lp (L : List Lp) (v : Int) (i : Int) (k : AX → St → Prop) : evCode N11 (loopB (bodyOf Tryz.f60) 0) (k60 L v i) k = (let A4 : Prop := ((k AX.ret (St.mk (lapp [.imm (.sl 2 (List.map cellsL L)), i64 v, .dead, .dead, bo false, i64 i, i64 (IntKind.wrap .i64 (ivInt (ivNth (List.getD (List.map cellsL L) i.toNat []) (0 + 1)))), i64 (IntKind.wrap .i64 (IntKind.wrap .i64 (ivInt (ivNth (List.getD (List.map cellsL L) i.toNat []) (0 + 1))) - IntKind.wrap .i64 (ivInt (ivNth (List.getD (List.map cellsL L) (IntKind.wrap .i64 (i - 1)).toNat []) (0 + 1))))), bo (i == IntKind.wrap .i64 ((↑(List.map cellsL L).length : Int) - 1))] (dN 90)) [] 0 []))); brn (decide (i < (↑(List.map cellsL L).length : Int))) ((0 : Int) ≤ i ∧ i < (↑(List.map cellsL L).length : Int) ∧ kcells (List.getD (List.map cellsL L) i.toNat []) 0 (lapp [CK.int IntKind.i64] (lapp [CK.int IntKind.i32] [])) = List.getD (List.map cellsL L) i.toNat [] ∧ brn (i == 0) ((0 : Int) ≤ 0 ∧ (0 : Int) < (↑(List.map cellsL L).length : Int) ∧ kcells (List.getD (List.map cellsL L) (0 : Int).toNat []) 0 (lapp [CK.int IntKind.i64] (lapp [CK.int IntKind.i32] [])) = List.getD (List.map cellsL L) (0 : Int).toNat [] ∧ brn (decide (ivInt (ivNth
 (List.getD (List.map cellsL L) (0 : Int).toNat []) 0) < 0) || decide (v < 4) && IntKind.wrap .i64 (ivInt (ivNth (List.getD (List.map cellsL L) i.toNat []) (0 + 1))) != 1 && IntKind.wrap .i64 (ivInt (ivNth (List.getD (List.map cellsL L) i.toNat []) (0 + 1))) != (-1 : Int)) (k AX.ret (St.mk (lapp [.imm (.sl 2 (List.map cellsL L)), i64 v, .dead, .dead, bo false, i64 i, i64 (IntKind.wrap .i64 (ivInt (ivNth (List.getD (List.map cellsL L) i.toNat []) (0 + 1))))] (dN 92)) [] 0 [])) (k AX.normal (St.mk (lapp [.imm (.sl 2 (List.map cellsL L)), i64 v, .dead, .dead, .dead, i64 (IntKind.wrap .i64 (i + 1)), i64 (IntKind.wrap .i64 (ivInt (ivNth (List.getD (List.map cellsL L) i.toNat []) (0 + 1))))] (lapp (dN 6) (lapp [i64 i, i64 (IntKind.wrap .i64 (i + 1))] (dN 84)))) [] 0 []))) ((0 : Int) ≤ IntKind.wrap .i64 (i - 1) ∧ IntKind.wrap .i64 (i - 1) < (↑(List.map cellsL L).length : Int) ∧ kcells (List.getD (List.map cellsL L) (IntKind.wrap .i64 (i - 1)).toNat []) 0 (lapp [CK.int IntKind.i64] (lapp [CK.int IntKind.i32] [])) = List.getD (List.map cellsL L) (IntKind.wrap .i64 (i - 1)).toNat [] ∧ (0 : Int) ≤ i ∧ i < (↑(List.map cellsL L).length : Int) ∧ kcells (List.getD (List.map cellsL L) i.toNat []) 0
 (lapp [CK.int IntKind.i64] (lapp [CK.int IntKind.i32] [])) = List.getD (List.map cellsL L) i.toNat [] ∧ (0 : Int) ≤ IntKind.wrap .i64 (i - 1) ∧ IntKind.wrap .i64 (i - 1) < (↑(List.map cellsL L).length : Int) ∧ kcells (List.getD (List.map cellsL L) (IntKind.wrap .i64 (i - 1)).toNat []) 0 (lapp [CK.int IntKind.i64] (lapp [CK.int IntKind.i32] [])) = List.getD (List.map cellsL L) (IntKind.wrap .i64 (i - 1)).toNat [] ∧ brn (decide (ivInt (ivNth (List.getD (List.map cellsL L) i.toNat []) 0) < ivInt (ivNth (List.getD (List.map cellsL L) (IntKind.wrap .i64 (i - 1)).toNat []) 0))) A4 ((0 : Int) ≤ i ∧ i < (↑(List.map cellsL L).length : Int) ∧ kcells (List.getD (List.map cellsL L) i.toNat []) 0 (lapp [CK.int IntKind.i64] (lapp [CK.int IntKind.i32] [])) = List.getD (List.map cellsL L) i.toNat [] ∧ (0 : Int) ≤ IntKind.wrap .i64 (i - 1) ∧ IntKind.wrap .i64 (i - 1) < (↑(List.map cellsL L).length : Int) ∧ kcells (List.getD (List.map cellsL L) (IntKind.wrap .i64 (i - 1)).toNat []) 0 (lapp [CK.int IntKind.i64] (lapp [CK.int IntKind.i32] [])) = List.getD (List.map cellsL L) (IntKind.wrap .i64 (i - 1)).toNat [] ∧ brn (decide (IntKind.wrap .i64 (ivInt (ivNth (List.getD (List.map cellsL L) i.toNat []) 0)
 - ivInt (ivNth (List.getD (List.map cellsL L) (IntKind.wrap .i64 (i - 1)).toNat []) 0)) < 2419199)) A4 (brn (IntKind.wrap .i64 (IntKind.wrap .i64 (ivInt (ivNth (List.getD (List.map cellsL L) i.toNat []) (0 + 1))) - IntKind.wrap .i64 (ivInt (ivNth (List.getD (List.map cellsL L) (IntKind.wrap .i64 (i - 1)).toNat []) (0 + 1)))) != 1 && IntKind.wrap .i64 (IntKind.wrap .i64 (ivInt (ivNth (List.getD (List.map cellsL L) i.toNat []) (0 + 1))) - IntKind.wrap .i64 (ivInt (ivNth (List.getD (List.map cellsL L) (IntKind.wrap .i64 (i - 1)).toNat []) (0 + 1)))) != (-1 : Int) && (IntKind.wrap .i64 (IntKind.wrap .i64 (ivInt (ivNth (List.getD (List.map cellsL L) i.toNat []) (0 + 1))) - IntKind.wrap .i64 (ivInt (ivNth (List.getD (List.map cellsL L) (IntKind.wrap .i64 (i - 1)).toNat []) (0 + 1)))) != 0 || decide (v < 4) || !i == IntKind.wrap .i64 ((↑(List.map cellsL L).length : Int) - 1))) (k AX.ret (St.mk (lapp [.imm (.sl 2 (List.map cellsL L)), i64 v, .dead, .dead, bo false, i64 i, i64 (IntKind.wrap .i64 (ivInt (ivNth (List.getD (List.map cellsL L) i.toNat []) (0 + 1)))), i64 (IntKind.wrap .i64 (IntKind.wrap .i64 (ivInt (ivNth (List.getD (List.map cellsL L) i.toNat []) (0 + 1))) - IntKind.wrap .i64
 (ivInt (ivNth (List.getD (List.map cellsL L) (IntKind.wrap .i64 (i - 1)).toNat []) (0 + 1))))), bo (i == IntKind.wrap .i64 ((↑(List.map cellsL L).length : Int) - 1))] (dN 90)) [] 0 [])) (k AX.normal (St.mk (lapp [.imm (.sl 2 (List.map cellsL L)), i64 v, .dead, .dead, .dead, i64 (IntKind.wrap .i64 (i + 1)), i64 (IntKind.wrap .i64 (ivInt (ivNth (List.getD (List.map cellsL L) i.toNat []) (0 + 1)))), i64 (IntKind.wrap .i64 (IntKind.wrap .i64 (ivInt (ivNth (List.getD (List.map cellsL L) i.toNat []) (0 + 1))) - IntKind.wrap .i64 (ivInt (ivNth (List.getD (List.map cellsL L) (IntKind.wrap .i64 (i - 1)).toNat []) (0 + 1))))), bo (i == IntKind.wrap .i64 ((↑(List.map cellsL L).length : Int) - 1))] (lapp (dN 4) (lapp [i64 i, i64 (IntKind.wrap .i64 (i + 1))] (dN 84)))) [] 0 [])))))) (k (AX.exit 0) (St.mk (lapp [.imm (.sl 2 (List.map cellsL L)), i64 v, .dead, .dead, .dead, i64 i, .dead, .dead, .dead, i64 i, .imm (.sl 2 (List.map cellsL L)), i64 (↑(List.map cellsL L).length : Int), bo (decide (i < (↑(List.map cellsL L).length : Int)))] (dN 86)) [] 0 []))) := by kernel_rfl
theorem g61_in (S : List Bool) (U : List Bool) (K : List AV → Prop) : evSpec N11 Tryz.f61 [oo S, oo U] K = (LoopI N11 (bodyOf Tryz.f61) 0 (St.mk (lapp [.imm (.bools S), .imm (.bools U), .dead, .dead, bo false, i64 0] (dN 25)) [] 0 []) (finK N11 Tryz.f61 K)) := by kernel_rfl
theorem g61_lp (S : List Bool) (U : List Bool) (i : Int) (k : AX → St → Prop) : evCode N11 (loopB (bodyOf Tryz.f61) 0) (k61 S U i) k = (brn (decide (i < (↑(List.length U) : Int))) ((decide (i < (↑(List.length S) : Int)) = true → (0 : Int) ≤ i) ∧ (decide (i < (↑(List.length S) : Int)) = true → i < (↑(List.length S) : Int)) ∧ (0 : Int) ≤ i ∧ i < (↑(List.length U) : Int) ∧ brn (List.getD U i.toNat false && !(decide (i < (↑(List.length S) : Int)) && List.getD S i.toNat false)) (k AX.ret (St.mk (lapp [.imm (.bools S), .imm (.bools U), .dead, .dead, bo false, i64 i, bo (decide (i < (↑(List.length S) : Int)) && List.getD S i.toNat false), i64 i, .imm (.bools U)] (dN 22)) [] 0 [])) (k AX.normal (St.mk (lapp [.imm (.bools S), .imm (.bools U), .dead, .dead, .dead, i64 (IntKind.wrap .i64 (i + 1)), bo (decide (i < (↑(List.length S) : Int)) && List.getD S i.toNat false), i64 i, .imm (.bools U), .dead, .dead, i64 i, i64 (IntKind.wrap .i64 (i + 1))] (dN 18)) [] 0 []))) (k (AX.exit 0) (St.mk (lapp [.imm (.bools S), .imm (.bools U), .dead, .dead, .dead, i64 i, .dead, i64 i, .imm (.bools U), i64 (↑(List.length U) : Int), bo (decide (i < (↑(List.length U) : Int)))] (dN 20)) [] 0 []))) := by kernel_rfl
end Y27
set_option maxRecDepth 100000
namespace Y27
open Go Go.AE Go.Proofs E6
attribute [local irreducible] loopK evCode evSpec loopB norm
theorem w1 {i : Int} (h0 : 0 ≤ i) (h : i ≤ 10000000000) : IntKind.wrap .i64 (i + 1) = i + 1 := wrap64 (by omega) (by omega)
theorem desc_ex (T : List Int) (hl : (T.length : Int) ≤ 1000000) : ∃ v : Int, True ∧ ∀ K : List AV → Prop, K [i64 v] → evSpec N10 Tryz.f57 [ii T] K := by
  refine Exists.elim (loop_det (C := N10) (c := loopB (bodyOf Tryz.f57) 0) (fun i : Int => k57 T i) (fun i => 1 ≤ i ∧ i ≤ T.length + 1) (fun i => ((T.length : Int) + 1 - i).toNat) (fun _ : Int => True) (fun v => [i64 v])
    (fun K => loopK N10 (bodyOf Tryz.f57) 0 (finK N10 Tryz.f57 K)) rfl (fun i hs => ?_) 1 ⟨Int.le_refl 1, by omega⟩) (fun v hv' => ?_)
  · obtain ⟨i1, i2⟩ := hs
    have e0 : IntKind.wrap .i64 (i - 1) = i - 1 := wrap64 (by omega) (by omega)
    by_cases h : i < T.length
    · have b1 : 0 ≤ i - 1 := by omega
      have b2 : i - 1 < T.length := by omega
      have b3 : 0 ≤ i := by omega
      by_cases hx : List.getD T (Int.toNat (i - 1)) 0 ≥ List.getD T i.toNat 0
      · refine .inr ⟨.ret, _, by simp, fun K' hK' => by
          rw [g57_lp]
          intro E1
          rw [e0]
          exact brn_T (decide_eq_true h) ⟨⟨b1, b2, b3, h, rfl, rfl⟩, brn_T (decide_eq_true hx) hK'⟩, i, trivial, fun K hK => ?_⟩
        exact Eq.mp (by kernel_rfl) hK
      · refine .inl ⟨i + 1, q57, _, ⟨by omega, by omega⟩, by omega, ?_, fun K' hK' => by
          rw [g57_lp]
          intro E1
          rw [e0]
          exact brn_T (decide_eq_true h) ⟨⟨b1, b2, b3, h, rfl, rfl⟩, brn_Fa (decide_eq_false hx) hK'⟩⟩
        rw [w1 (by omega) (by omega)]
        kernel_rfl
    · refine .inr ⟨.exit 0, _, by simp, fun K' hK' => by
        rw [g57_lp]
        intro E1
        exact brn_Fa (decide_eq_false h) hK', -1, trivial, fun K hK => ?_⟩
      exact Eq.mp (by kernel_rfl) hK
  · obtain ⟨hv, hk⟩ := hv'
    refine ⟨v, hv, fun K hK => ?_⟩
    rw [g57_in]
    unfold LoopI
    exact hk K hK q57 _ (by kernel_rfl)
theorem chk_ex (X : List Ty) (n : Int) (hl : (X.length : Int) ≤ 1000000) : ∃ v : Int, True ∧ ∀ K : List AV → Prop, K [i64 v] → evSpec N11 Tryz.f58 [xT X, i64 n] K := by
  have hlen : (X.map cellsT).length = X.length := List.length_map _
  have second : ∃ v : Int, True ∧ ∀ K : List AV → Prop, K [i64 v] → ∀ p st, norm p st = some (k58b X n 0) → evCode N11 (.loop (loopB (bodyOf Tryz.f58) 1)) st (loopK N11 (bodyOf Tryz.f58) 1 (finK N11 Tryz.f58 K)) := by
    refine loop_det (C := N11) (c := loopB (bodyOf Tryz.f58) 1) (fun i : Int => k58b X n i) (fun i => 0 ≤ i ∧ i ≤ X.length) (fun i => ((X.length : Int) - i).toNat) (fun _ : Int => True) (fun v => [i64 v])
      (fun K => loopK N11 (bodyOf Tryz.f58) 1 (finK N11 Tryz.f58 K)) rfl (fun i hs => ?_) 0 ⟨Int.le_refl 0, by omega⟩
    obtain ⟨i1, i2⟩ := hs
    by_cases h : i < X.length
    · have hb : i < ((X.map cellsT).length : Int) := by rw [hlen]; exact h
      have hk := kcT i1 h
      by_cases hx : IntKind.wrap .i64 (ivInt (ivNth (List.getD (List.map cellsT X) i.toNat []) (0 + 1 + 1))) ≥ n
      · refine .inr ⟨.ret, _, by simp, fun K' hK' => by
          rw [g58_lp2]
          exact brn_T (decide_eq_true hb) ⟨i1, hb, hk, brn_T (decide_eq_true hx) hK'⟩, 8, trivial, fun K hK => ?_⟩
        exact Eq.mp (by kernel_rfl) hK
      · refine .inl ⟨i + 1, q58b, _, ⟨by omega, by omega⟩, by omega, ?_, fun K' hK' => by
          rw [g58_lp2]
          exact brn_T (decide_eq_true hb) ⟨i1, hb, hk, brn_Fa (decide_eq_false hx) hK'⟩⟩
        rw [w1 (by omega) (by omega)]
        kernel_rfl
    · refine .inr ⟨.exit 2, _, by simp, fun K' hK' => by
        rw [g58_lp2]
        exact brn_Fa (decide_eq_false (by rw [hlen]; exact h)) hK', 0, trivial, fun K hK => ?_⟩
      exact Eq.mp (by kernel_rfl) hK
  refine Exists.elim (loop_det (C := N11) (c := loopB (bodyOf Tryz.f58) 0) (fun i : Int => k58 X n i) (fun i => 0 ≤ i ∧ i ≤ X.length) (fun i => ((X.length : Int) - i).toNat) (fun _ : Int => True) (fun v => [i64 v])
    (fun K => loopK N11 (bodyOf Tryz.f58) 0 (finK N11 Tryz.f58 K)) rfl (fun i hs => ?_) 0 ⟨Int.le_refl 0, by omega⟩) (fun v hv' => ?_)
  · obtain ⟨i1, i2⟩ := hs
    by_cases h : i < X.length
    · have hb : i < ((X.map cellsT).length : Int) := by rw [hlen]; exact h
      have hk := kcT i1 h
      cases hx : (ivInt (ivNth (List.getD (List.map cellsT X) i.toNat []) 0) == -2147483648) with
      | true =>
        refine .inr ⟨.ret, _, by simp, fun K' hK' => by
          rw [g58_lp]
          exact brn_T (decide_eq_true hb) ⟨i1, hb, hk, brn_T hx hK'⟩, 9, trivial, fun K hK => ?_⟩
        exact Eq.mp (by kernel_rfl) hK
      | false =>
        refine .inl ⟨i + 1, q58, _, ⟨by omega, by omega⟩, by omega, ?_, fun K' hK' => by
          rw [g58_lp]
          exact brn_T (decide_eq_true hb) ⟨i1, hb, hk, brn_Fa hx hK'⟩⟩
        rw [w1 (by omega) (by omega)]
        kernel_rfl
    · obtain ⟨v, hv, hk⟩ := second
      refine .inr ⟨.exit 0, _, by simp, fun K' hK' => by
        rw [g58_lp]
        exact brn_Fa (decide_eq_false (by rw [hlen]; exact h)) hK', v, trivial, fun K hK => ?_⟩
      have key : loopK N11 (bodyOf Tryz.f58) 0 (finK N11 Tryz.f58 K) (AX.exit 0) (r58 X n i) := by
        refine Eq.mpr (g58_out X n i K) ?_
        unfold LoopI
        exact hk K hK q58b _ (by kernel_rfl)
      exact Eq.mp (by kernel_rfl) key
  · obtain ⟨hv, hk⟩ := hv'
    refine ⟨v, hv, fun K hK => ?_⟩
    rw [g58_in]
    unfold LoopI
    exact hk K hK q58 _ (by kernel_rfl)
theorem bad_ex (b : List UInt8) (hl : (b.length : Int) ≤ 1000000) : ∃ v : Int, True ∧ ∀ K : List AV → Prop, K [i64 v] → evSpec N10 Tryz.f92 [by' b] K := by
  refine Exists.elim (loop_det (C := N10) (c := loopB (bodyOf Tryz.f92) 0) (fun i : Int => h92 b i) (fun i => 0 ≤ i ∧ i ≤ b.length) (fun i => ((b.length : Int) - i).toNat) (fun _ : Int => True) (fun v => [i64 v])
    (fun K => loopK N10 (bodyOf Tryz.f92) 0 (finK N10 Tryz.f92 K)) rfl (fun i hs => ?_) 0 ⟨Int.le_refl 0, by omega⟩) (fun v hv' => ?_)
  · obtain ⟨i1, i2⟩ := hs
    by_cases h : i < b.length
    · cases hx : (((b.getD i.toNat 0).toNat : Int) != 0 && !alwU ((b.getD i.toNat 0).toNat : Int)) with
      | true =>
        refine .inr ⟨.ret, _, by simp, fun K' hK' => by
          rw [g92_lp]
          exact brn_T (decide_eq_true h) ⟨i1, h, fun _ => i1, fun _ => h, brn_T hx hK'⟩, i, trivial, fun K hK => ?_⟩
        exact Eq.mp (by kernel_rfl) hK
      | false =>
        refine .inl ⟨i + 1, p92, _, ⟨by omega, by omega⟩, by omega, ?_, fun K' hK' => by
          rw [g92_lp]
          exact brn_T (decide_eq_true h) ⟨i1, h, fun _ => i1, fun _ => h, brn_Fa hx hK'⟩⟩
        rw [w1 (by omega) (by omega)]
        kernel_rfl
    · have hw : IntKind.wrap .i64 ((b.length : Int) - 1) = (b.length : Int) - 1 := wrap64 (by omega) (by omega)
      have c1 : decide ((b.length : Int) > 0) = true → 0 ≤ IntKind.wrap .i64 ((b.length : Int) - 1) := fun h => by
        have := of_decide_eq_true h
        rw [hw]; omega
      have c2 : decide ((b.length : Int) > 0) = true → IntKind.wrap .i64 ((b.length : Int) - 1) < (b.length : Int) := fun h => by
        rw [hw]; omega
      cases hx : (decide ((b.length : Int) > 0) && ((b.getD (Int.toNat (IntKind.wrap .i64 ((b.length : Int) - 1))) 0).toNat : Int) == 0) with
      | true =>
        refine .inr ⟨.exit 0, _, by simp, fun K' hK' => by
          rw [g92_lp]
          exact brn_Fa (decide_eq_false h) hK', -1, trivial, fun K hK => ?_⟩
        have key : loopK N10 (bodyOf Tryz.f92) 0 (finK N10 Tryz.f92 K) (AX.exit 0) (o92 b i) := Eq.mpr (g92_out b i K) ⟨c1, c2, brn_T hx hK⟩
        exact Eq.mp (by kernel_rfl) key
      | false =>
        refine .inr ⟨.exit 0, _, by simp, fun K' hK' => by
          rw [g92_lp]
          exact brn_Fa (decide_eq_false h) hK', (b.length : Int), trivial, fun K hK => ?_⟩
        have key : loopK N10 (bodyOf Tryz.f92) 0 (finK N10 Tryz.f92 K) (AX.exit 0) (o92 b i) := Eq.mpr (g92_out b i K) ⟨c1, c2, brn_Fa hx hK⟩
        exact Eq.mp (by kernel_rfl) key
  · obtain ⟨hv, hk⟩ := hv'
    refine ⟨v, hv, fun K hK => ?_⟩
    rw [g92_in]
    unfold LoopI
    exact hk K hK p92 _ (by kernel_rfl)
theorem con_ex (S U : List Bool) (hl : (U.length : Int) ≤ 1000000) : ∃ v : Bool, True ∧ ∀ K : List AV → Prop, K [bo v] → evSpec N11 Tryz.f61 [oo S, oo U] K := by
  refine Exists.elim (loop_det (C := N11) (c := loopB (bodyOf Tryz.f61) 0) (fun i : Int => k61 S U i) (fun i => 0 ≤ i ∧ i ≤ U.length) (fun i => ((U.length : Int) - i).toNat) (fun _ : Bool => True) (fun v => [bo v])
    (fun K => loopK N11 (bodyOf Tryz.f61) 0 (finK N11 Tryz.f61 K)) rfl (fun i hs => ?_) 0 ⟨Int.le_refl 0, by omega⟩) (fun v hv' => ?_)
  · obtain ⟨i1, i2⟩ := hs
    by_cases h : i < U.length
    · cases hx : (List.getD U i.toNat false && !(decide (i < (S.length : Int)) && List.getD S i.toNat false)) with
      | true =>
        refine .inr ⟨.ret, _, by simp, fun K' hK' => by
          rw [g61_lp]
          exact brn_T (decide_eq_true h) ⟨fun _ => i1, fun h => of_decide_eq_true h, i1, h, brn_T hx hK'⟩, false, trivial, fun K hK => ?_⟩
        exact Eq.mp (by kernel_rfl) hK
      | false =>
        refine .inl ⟨i + 1, q61, _, ⟨by omega, by omega⟩, by omega, ?_, fun K' hK' => by
          rw [g61_lp]
          exact brn_T (decide_eq_true h) ⟨fun _ => i1, fun h => of_decide_eq_true h, i1, h, brn_Fa hx hK'⟩⟩
        rw [w1 (by omega) (by omega)]
        kernel_rfl
    · refine .inr ⟨.exit 0, _, by simp, fun K' hK' => by
        rw [g61_lp]
        exact brn_Fa (decide_eq_false h) hK', true, trivial, fun K hK => ?_⟩
      exact Eq.mp (by kernel_rfl) hK
  · obtain ⟨hv, hk⟩ := hv'
    refine ⟨v, hv, fun K hK => ?_⟩
    rw [g61_in]
    unfold LoopI
    exact hk K hK q61 _ (by kernel_rfl)
end Y27
set_option maxRecDepth 100000
namespace Y27
open Go Go.AE Go.Proofs E6
attribute [local irreducible] loopK evCode evSpec loopB norm
theorem lv_ex (L : List Lp) (n : Int) (hl : (L.length : Int) ≤ 1000000) : ∃ v : Bool, True ∧ ∀ K : List AV → Prop, K [bo v] → evSpec N11 Tryz.f60 [xL L, i64 n] K := by
  have hlen : (L.map cellsL).length = L.length := List.length_map _
  refine Exists.elim (loop_det (C := N11) (c := loopB (bodyOf Tryz.f60) 0) (fun i : Int => k60 L n i) (fun i => 0 ≤ i ∧ i ≤ L.length) (fun i => ((L.length : Int) - i).toNat) (fun _ : Bool => True) (fun v => [bo v])
    (fun K => loopK N11 (bodyOf Tryz.f60) 0 (finK N11 Tryz.f60 K)) rfl (fun i hs => ?_) 0 ⟨Int.le_refl 0, by omega⟩) (fun v hv' => ?_)
  · obtain ⟨i1, i2⟩ := hs
    have e0 : IntKind.wrap .i64 (i - 1) = i - 1 := wrap64 (by omega) (by omega)
    by_cases h : i < L.length
    · have hb : i < ((L.map cellsL).length : Int) := by rw [hlen]; exact h
      have hk := kcL i1 h
      by_cases hz : i = 0
      · have hz' : (i == (0 : Int)) = true := by rw [hz]; first | done | rfl
        have hb0 : (0 : Int) < ((L.map cellsL).length : Int) := by omega
        have hk0 := kcL (L := L) (i := 0) (Int.le_refl 0) (by omega)
        cases hx : (decide (ivInt (ivNth (List.getD (List.map cellsL L) (Int.toNat (0 : Int)) []) (0 : Nat)) < (0 : Int)) || decide (n < (4 : Int)) && IntKind.wrap IntKind.i64 (ivInt (ivNth (List.getD (List.map cellsL L) (Int.toNat i) []) ((0 : Nat) + (1 : Nat)))) != (1 : Int) && IntKind.wrap IntKind.i64 (ivInt (ivNth (List.getD (List.map cellsL L) (Int.toNat i) []) ((0 : Nat) + (1 : Nat)))) != (-1 : Int)) with
        | true =>
          refine .inr ⟨.ret, _, by simp, fun K' hK' => by
            rw [g60_lp]
            intro A4
            exact brn_T (decide_eq_true hb) ⟨i1, hb, hk, brn_T hz' ⟨Int.le_refl 0, hb0, hk0, brn_T hx hK'⟩⟩, false, trivial, fun K hK => ?_⟩
          exact Eq.mp (by kernel_rfl) hK
        | false =>
          refine .inl ⟨i + 1, q60, _, ⟨by omega, by omega⟩, by omega, ?_, fun K' hK' => by
            rw [g60_lp]
            intro A4
            exact brn_T (decide_eq_true hb) ⟨i1, hb, hk, brn_T hz' ⟨Int.le_refl 0, hb0, hk0, brn_Fa hx hK'⟩⟩⟩
          rw [w1 (by omega) (by omega)]
          kernel_rfl
      · have hz' : (i == (0 : Int)) = false := by
          cases he : (i == (0 : Int)) with
          | false => rfl
          | true => exact absurd (eq_of_beq he) hz
        have j0 : 0 ≤ i - 1 := by omega
        have j1 : i - 1 < ((L.map cellsL).length : Int) := by omega
        have hkj := kcL (L := L) (i := i - 1) j0 (by omega)
        by_cases hx : (decide (ivInt (ivNth (List.getD (List.map cellsL L) (Int.toNat i) []) (0 : Nat)) < ivInt (ivNth (List.getD (List.map cellsL L) (Int.toNat (i - (1 : Int))) []) (0 : Nat)))) = true
        · refine .inr ⟨.ret, _, by simp, fun K' hK' => by
            rw [g60_lp]
            intro A4
            have hA : A4 := hK'
            clear_value A4
            rw [e0]
            exact brn_T (decide_eq_true hb) ⟨i1, hb, hk, brn_Fa hz' ⟨j0, j1, hkj, i1, hb, hk, j0, j1, hkj, brn_T hx hA⟩⟩, false, trivial, fun K hK => ?_⟩
          exact Eq.mp (by kernel_rfl) hK
        · have hxf := Bool.eq_false_iff.mpr hx
          by_cases hy : (decide (IntKind.wrap IntKind.i64 (ivInt (ivNth (List.getD (List.map cellsL L) (Int.toNat i) []) (0 : Nat)) - ivInt (ivNth (List.getD (List.map cellsL L) (Int.toNat (i - (1 : Int))) []) (0 : Nat))) < (2419199 : Int))) = true
          · refine .inr ⟨.ret, _, by simp, fun K' hK' => by
              rw [g60_lp]
              intro A4
              have hA : A4 := hK'
              clear_value A4
              rw [e0]
              exact brn_T (decide_eq_true hb) ⟨i1, hb, hk, brn_Fa hz' ⟨j0, j1, hkj, i1, hb, hk, j0, j1, hkj, brn_Fa hxf ⟨i1, hb, hk, j0, j1, hkj, brn_T hy hA⟩⟩⟩, false, trivial, fun K hK => ?_⟩
            exact Eq.mp (by kernel_rfl) hK
          · have hyf := Bool.eq_false_iff.mpr hy
            cases hw : (IntKind.wrap IntKind.i64 (IntKind.wrap IntKind.i64 (ivInt (ivNth (List.getD (List.map cellsL L) (Int.toNat i) []) ((0 : Nat) + (1 : Nat)))) - IntKind.wrap IntKind.i64 (ivInt (ivNth (List.getD (List.map cellsL L) (Int.toNat (i - (1 : Int))) []) ((0 : Nat) + (1 : Nat))))) != (1 : Int) && IntKind.wrap IntKind.i64 (IntKind.wrap IntKind.i64 (ivInt (ivNth (List.getD (List.map cellsL L) (Int.toNat i) []) ((0 : Nat) + (1 : Nat)))) - IntKind.wrap IntKind.i64 (ivInt (ivNth (List.getD (List.map cellsL L) (Int.toNat (i - (1 : Int))) []) ((0 : Nat) + (1 : Nat))))) != (-1 : Int) && (IntKind.wrap IntKind.i64 (IntKind.wrap IntKind.i64 (ivInt (ivNth (List.getD (List.map cellsL L) (Int.toNat i) []) ((0 : Nat) + (1 : Nat)))) - IntKind.wrap IntKind.i64 (ivInt (ivNth (List.getD (List.map cellsL L) (Int.toNat (i - (1 : Int))) []) ((0 : Nat) + (1 : Nat))))) != (0 : Int) || decide (n < (4 : Int)) || !i == IntKind.wrap IntKind.i64 ((↑(List.length (List.map cellsL L)) : Int) - (1 : Int)))) with
            | true =>
              refine .inr ⟨.ret, _, by simp, fun K' hK' => by
                rw [g60_lp]
                intro A4
                clear_value A4
                rw [e0]
                exact brn_T (decide_eq_true hb) ⟨i1, hb, hk, brn_Fa hz' ⟨j0, j1, hkj, i1, hb, hk, j0, j1, hkj, brn_Fa hxf ⟨i1, hb, hk, j0, j1, hkj, brn_Fa hyf (brn_T hw hK')⟩⟩⟩, false, trivial, fun K hK => ?_⟩
              exact Eq.mp (by kernel_rfl) hK
            | false =>
              refine .inl ⟨i + 1, q60, _, ⟨by omega, by omega⟩, by omega, ?_, fun K' hK' => by
                rw [g60_lp]
                intro A4
                clear_value A4
                rw [e0]
                exact brn_T (decide_eq_true hb) ⟨i1, hb, hk, brn_Fa hz' ⟨j0, j1, hkj, i1, hb, hk, j0, j1, hkj, brn_Fa hxf ⟨i1, hb, hk, j0, j1, hkj, brn_Fa hyf (brn_Fa hw hK')⟩⟩⟩⟩
              rw [w1 (by omega) (by omega)]
              kernel_rfl
    · refine .inr ⟨.exit 0, _, by simp, fun K' hK' => by
        rw [g60_lp]
        exact brn_Fa (decide_eq_false (by rw [hlen]; exact h)) hK', true, trivial, fun K hK => ?_⟩
      exact Eq.mp (by kernel_rfl) hK
  · obtain ⟨hv, hk⟩ := hv'
    refine ⟨v, hv, fun K hK => ?_⟩
    rw [g60_in]
    unfold LoopI
    exact hk K hK q60 _ (by kernel_rfl)
end Y27
set_option maxRecDepth 100000
namespace Y27
open Go Go.AE Go.Proofs E6
noncomputable section
def desV (T : List Int) : Int := Classical.epsilon fun v : Int => True ∧ ∀ K : List AV → Prop, K [i64 v] → evSpec N10 Tryz.f57 [ii T] K
def chkV (X : List Ty) (n : Int) : Int := Classical.epsilon fun v : Int => True ∧ ∀ K : List AV → Prop, K [i64 v] → evSpec N11 Tryz.f58 [xT X, i64 n] K
def badV (b : List UInt8) : Int := Classical.epsilon fun v : Int => True ∧ ∀ K : List AV → Prop, K [i64 v] → evSpec N10 Tryz.f92 [by' b] K
def lvV (L : List Lp) (n : Int) : Bool := Classical.epsilon fun v : Bool => True ∧ ∀ K : List AV → Prop, K [bo v] → evSpec N11 Tryz.f60 [xL L, i64 n] K
def conV (S U : List Bool) : Bool := Classical.epsilon fun v : Bool => True ∧ ∀ K : List AV → Prop, K [bo v] → evSpec N11 Tryz.f61 [oo S, oo U] K
def sDesc : List AV → Option (List Prop × List AV)
  | [.imm (.ints .i64 T)] => some ([(T.length : Int) ≤ 1000000], [i64 (desV T)])
  | _ => none
def sChk : List AV → Option (List Prop × List AV)
  | [.imm (.sl 3 X), .imm (.int .i64 n)] => some ([okT X, (X.length : Int) ≤ 1000000], [i64 (chkV (tys X) n)])
  | _ => none
def sBad : List AV → Option (List Prop × List AV)
  | [.imm (.bytes b)] => some ([(b.length : Int) ≤ 1000000], [i64 (badV b)])
  | _ => none
def sLvl : List AV → Option (List Prop × List AV)
  | [.imm (.sl 2 xs), .imm (.int .i64 n)] => some ([okL xs, (xs.length : Int) ≤ 1000000], [bo (lvV (lps xs) n)])
  | _ => none
def sCon : List AV → Option (List Prop × List AV)
  | [.imm (.bools S), .imm (.bools U)] => some ([(U.length : Int) ≤ 1000000], [bo (conV S U)])
  | _ => none
def F30 := addE (addE (addE (addE (addE F29 57 sDesc) 58 sChk) 92 sBad) 60 sLvl) 61 sCon
def N12 : Cx := ⟨Tryz.prog, F30, noCall, G16, 4003⟩
def N13 : Cx := ⟨Tryz.prog, F30, noCall, G16, 4005⟩
def N14 : Cx := ⟨Tryz.prog, F30, noCall, G16, 4004⟩
def N15 : Cx := ⟨Tryz.prog, F30, noCall, G16, 4006⟩
def N16 : Cx := ⟨Tryz.prog, F30, noCall, G16, 4008⟩
def sx (s : List UInt8) : AV := .imm (.str s)
def k113 (s : List UInt8) (i : Int) : St := ⟨spr [(0, sx s), (3, i64 i)] 0 41, [], 0, []⟩
def q113 : Plan := ⟨[], msk [0, 3] 0 41, []⟩
def k114 (s : List UInt8) (i : Int) : St := ⟨spr [(0, sx s), (3, i64 i)] 0 17, [], 0, []⟩
def q114 : Plan := ⟨[], msk [0, 3] 0 17, []⟩
def k117 (s : List UInt8) (i v n : Int) : St := ⟨spr [(0, sx s), (1, i64 i), (6, i64 v), (7, i64 n)] 0 51, [], 0, []⟩
def q117 : Plan := ⟨[], msk [0, 1, 6, 7] 0 51, []⟩
end
attribute [local irreducible] loopK evCode evSpec loopB norm
theorem xT_tys {X : List (List IV)} (h : okT X) : AV.imm (.sl 3 X) = xT (tys X) := by
  have := h.1
  unfold xT
  rw [← this]
theorem tys_len {X : List (List IV)} (h : okT X) : (tys X).length = X.length := by
  have := congrArg List.length h.1
  rw [List.length_map] at this
  exact this.symm
theorem ok57e : ∀ args pres res, sDesc args = some (pres, res) → SpecOK Tryz.prog G16 57 args pres res := by
  intro args pres res h
  unfold sDesc at h
  split at h
  case h_2 => cases h
  cases h
  exact spec_ok (C := N10) okF29 noCall_ok Tryz.func57 (by kernel_rfl) (by kernel_rfl) (fun hp => (Classical.epsilon_spec (desc_ex _ (hp _ (by simp)))).2 _ rfl)
theorem ok58e : ∀ args pres res, sChk args = some (pres, res) → SpecOK Tryz.prog G16 58 args pres res := by
  intro args pres res h
  unfold sChk at h
  split at h
  case h_2 => cases h
  cases h
  rename_i X n
  refine spec_ok (C := N11) okF29 noCall_ok Tryz.func58 (by kernel_rfl) (by kernel_rfl) (fun hp => ?_)
  have hX : okT X := hp _ (by simp)
  have hl : (X.length : Int) ≤ 1000000 := hp _ (by simp)
  rw [xT_tys hX]
  exact (Classical.epsilon_spec (chk_ex (tys X) n (by rw [tys_len hX]; exact hl))).2 _ rfl
theorem ok92e : ∀ args pres res, sBad args = some (pres, res) → SpecOK Tryz.prog G16 92 args pres res := by
  intro args pres res h
  unfold sBad at h
  split at h
  case h_2 => cases h
  cases h
  exact spec_ok (C := N10) okF29 noCall_ok Tryz.func92 (by kernel_rfl) (by kernel_rfl) (fun hp => (Classical.epsilon_spec (bad_ex _ (hp _ (by simp)))).2 _ rfl)
theorem ok60e : ∀ args pres res, sLvl args = some (pres, res) → SpecOK Tryz.prog G16 60 args pres res := by
  intro args pres res h
  unfold sLvl at h
  split at h
  case h_2 => cases h
  cases h
  rename_i xs n
  refine spec_ok (C := N11) okF29 noCall_ok Tryz.func60 (by kernel_rfl) (by kernel_rfl) (fun hp => ?_)
  obtain ⟨L, rfl, e, hL⟩ := okL_elim (hp (okL xs) (by simp))
  have h1 := hp (((L.map cellsL).length : Int) ≤ 1000000) (by simp)
  rw [List.length_map] at h1
  rw [e]
  exact (Classical.epsilon_spec (lv_ex L n h1)).2 _ rfl
theorem ok61e : ∀ args pres res, sCon args = some (pres, res) → SpecOK Tryz.prog G16 61 args pres res := by
  intro args pres res h
  unfold sCon at h
  split at h
  case h_2 => cases h
  cases h
  exact spec_ok (C := N11) okF29 noCall_ok Tryz.func61 (by kernel_rfl) (by kernel_rfl) (fun hp => (Classical.epsilon_spec (con_ex _ _ (hp _ (by simp)))).2 _ rfl)
theorem okF30 : EOK Tryz.prog F30 G16 := addE_ok (addE_ok (addE_ok (addE_ok (addE_ok okF29 ok57e) ok58e) ok92e) ok60e) ok61e
end Y27
set_option maxRecDepth 100000
namespace Y27
open Go Go.AE Go.Proofs E6
attribute [local irreducible] loopK evCode evSpec loopB norm
theorem g59_in (b : List UInt8) (K : List AV → Prop) : evSpec N12 Tryz.f59 [by' b] K =
  ((↑(List.length b) : Int) ≤ (1000000 : Int) ∧ K [AV.imm (IV.bool (badV b == (-1 : Int)))]) := by kernel_rfl
theorem g113_in (s : List UInt8) (K : List AV → Prop) : evSpec N13 Tryz.f113 [sx s] K = (LoopI N13 (bodyOf Tryz.f113) 0 (St.mk (lapp [.imm (.str s), .dead, bo false, i64 0] (dN 37)) [] 0 []) (finK N13 Tryz.f113 K)) := by kernel_rfl
theorem g113_lp (s : List UInt8) (i : Int) (k : AX → St → Prop) : evCode N13 (loopB (bodyOf Tryz.f113) 0) (k113 s i) k = (brn (decide (i < (s.length : Int))) ((0 : Int) ≤ i ∧ i < (s.length : Int) ∧ brn (!alphaU (↑(UInt8.toNat (List.getD s i.toNat (0 : UInt8))) : Int) && (decide ((↑(UInt8.toNat (List.getD s i.toNat (0 : UInt8))) : Int) < 48) || decide ((↑(UInt8.toNat (List.getD s i.toNat (0 : UInt8))) : Int) > 57)) && (↑(UInt8.toNat (List.getD s i.toNat (0 : UInt8))) : Int) != 43 && (↑(UInt8.toNat (List.getD s i.toNat (0 : UInt8))) : Int) != 45) (k AX.ret (St.mk (lapp [.imm (.str s), .dead, bo false, i64 i, .imm (.int .u8 (↑(UInt8.toNat (List.getD s i.toNat (0 : UInt8))) : Int))] (dN 36)) [] 0 [])) (k AX.normal (St.mk (lapp [.imm (.str s), .dead, .dead, i64 (IntKind.wrap .i64 (i + 1)), .imm (.int .u8 (↑(UInt8.toNat (List.getD s i.toNat (0 : UInt8))) : Int))] (lapp (dN 4) (lapp [i64 i, i64 (IntKind.wrap .i64 (i + 1))] (dN 30)))) [] 0 []))) (k (AX.exit 0) (St.mk (lapp [.imm (.str s), .dead, .dead, i64 i, .dead, i64 i, .imm (.str s), i64 (s.length : Int), bo (decide (i < (s.length : Int)))] (dN 32)) [] 0 []))) := by kernel_rfl
theorem g114_in (s : List UInt8) (K : List AV → Prop) : evSpec N14 Tryz.f114 [sx s] K = (LoopI N14 (bodyOf Tryz.f114) 0 (St.mk (lapp [.imm (.str s), .dead, i64 0, i64 0] (dN 13)) [] 0 []) (finK N14 Tryz.f114 K)) := by kernel_rfl
theorem g114_lp (s : List UInt8) (i : Int) (k : AX → St → Prop) : evCode N14 (loopB (bodyOf Tryz.f114) 0) (k114 s i) k = ((decide (i < (s.length : Int)) = true → (0 : Int) ≤ i) ∧ (decide (i < (s.length : Int)) = true → i < (s.length : Int)) ∧ brn (decide (i < (s.length : Int)) && alphaU (↑(UInt8.toNat (List.getD s i.toNat (0 : UInt8))) : Int)) (k AX.normal (St.mk (lapp [.imm (.str s), .dead, .dead, i64 (IntKind.wrap .i64 (i + 1))] (lapp (dN 10) [i64 i, i64 (IntKind.wrap .i64 (i + 1)), .dead])) [] 0 [])) (k (AX.exit 0) (St.mk [.imm (.str s), .dead, .dead, i64 i, i64 i, .imm (.str s), i64 (s.length : Int), bo (decide (i < (s.length : Int))), bo (decide (i < (s.length : Int))), .opt [(8, true)] (.imm (.str s)), .opt [(8, true)] (i64 i), .opt [(8, true)] (.imm (.int .u8 (↑(UInt8.toNat (List.getD s i.toNat (0 : UInt8))) : Int))), .opt [(8, true)] (bo (alphaU (↑(UInt8.toNat (List.getD s i.toNat (0 : UInt8))) : Int))), bo (decide (i < (s.length : Int)) && alphaU (↑(UInt8.toNat (List.getD s i.toNat (0 : UInt8))) : Int)), .dead, .dead, .dead] [] 0 []))) := by kernel_rfl
theorem g116_in (s : List UInt8) (i : Int) (K : List AV → Prop) : evSpec N15 Tryz.f116 [sx s, i64 i] K = (let E1 : Prop := ((sm (St.mk (lapp [.imm (.str s), i64 i, .dead, .dead, i64 0, i64 (IntKind.wrap .i64 (IntKind.wrap .i64 (IntKind.wrap .i64 ((10 : Int) * IntKind.wrap .i64 (IntKind.wrap .i64 (↑(UInt8.toNat (List.getD s (IntKind.wrap .i64 (i + 1)).toNat (0 : UInt8))) : Int) - 48)) + IntKind.wrap .i64 (↑(UInt8.toNat (List.getD s (IntKind.wrap .i64 (i + 2)).toNat (0 : UInt8))) : Int)) - 48))] (lapp (dN 24) [.imm (.str s), i64 i, i64 (IntKind.wrap .i64 (i + 1)), .imm (.int .u8 (↑(UInt8.toNat (List.getD s (IntKind.wrap .i64 (i + 1)).toNat (0 : UInt8))) : Int)), i64 (IntKind.wrap .i64 (↑(UInt8.toNat (List.getD s (IntKind.wrap .i64 (i + 1)).toNat (0 : UInt8))) : Int)), i64 (IntKind.wrap .i64 (IntKind.wrap .i64 (↑(UInt8.toNat (List.getD s (IntKind.wrap .i64 (i + 1)).toNat (0 : UInt8))) : Int) - 48)), i64 (IntKind.wrap .i64 ((10 : Int) * IntKind.wrap .i64 (IntKind.wrap .i64 (↑(UInt8.toNat (List.getD s (IntKind.wrap .i64 (i + 1)).toNat (0 : UInt8))) : Int) - 48))), .imm (.str s), i64 i, i64 (IntKind.wrap .i64 (i + 2)), .imm (.int .u8 (↑(UInt8.toNat (List.getD s (IntKind.wrap .i64 (i +
 2)).toNat (0 : UInt8))) : Int)), i64 (IntKind.wrap .i64 (↑(UInt8.toNat (List.getD s (IntKind.wrap .i64 (i + 2)).toNat (0 : UInt8))) : Int)), i64 (IntKind.wrap .i64 (IntKind.wrap .i64 ((10 : Int) * IntKind.wrap .i64 (IntKind.wrap .i64 (↑(UInt8.toNat (List.getD s (IntKind.wrap .i64 (i + 1)).toNat (0 : UInt8))) : Int) - 48)) + IntKind.wrap .i64 (↑(UInt8.toNat (List.getD s (IntKind.wrap .i64 (i + 2)).toNat (0 : UInt8))) : Int))), i64 (IntKind.wrap .i64 (IntKind.wrap .i64 (IntKind.wrap .i64 ((10 : Int) * IntKind.wrap .i64 (IntKind.wrap .i64 (↑(UInt8.toNat (List.getD s (IntKind.wrap .i64 (i + 1)).toNat (0 : UInt8))) : Int) - 48)) + IntKind.wrap .i64 (↑(UInt8.toNat (List.getD s (IntKind.wrap .i64 (i + 2)).toNat (0 : UInt8))) : Int)) - 48)), .dead, .dead, .dead])) [] 0 []))); (decide (i ≥ (s.length : Int)) = false → (0 : Int) ≤ i) ∧ (decide (i ≥ (s.length : Int)) = false → i < (s.length : Int)) ∧ ((decide (i ≥ (s.length : Int)) || (↑(UInt8.toNat (List.getD s i.toNat (0 : UInt8))) : Int) != 58) = false → (0 : Int) ≤ IntKind.wrap .i64 (i + 1)) ∧ ((decide (i ≥ (s.length : Int)) || (↑(UInt8.toNat (List.getD s i.toNat (0 : UInt8))) : Int) != 58 || !digU s (IntKind.wrap .i64 (i + 1))) = false →
 (0 : Int) ≤ IntKind.wrap .i64 (i + 2)) ∧ brn (decide (i ≥ (s.length : Int)) || (↑(UInt8.toNat (List.getD s i.toNat (0 : UInt8))) : Int) != 58 || !digU s (IntKind.wrap .i64 (i + 1)) || !digU s (IntKind.wrap .i64 (i + 2))) (K [i64 (-1 : Int)]) (((0 : Int) ≤ IntKind.wrap .i64 (i + 1) ∧ IntKind.wrap .i64 (i + 1) < (s.length : Int) ∧ (0 : Int) ≤ IntKind.wrap .i64 (i + 2) ∧ IntKind.wrap .i64 (i + 2) < (s.length : Int) ∧ E1) ∧ brn (decide (IntKind.wrap .i64 (IntKind.wrap .i64 (IntKind.wrap .i64 ((10 : Int) * IntKind.wrap .i64 (IntKind.wrap .i64 (↑(UInt8.toNat (List.getD s (IntKind.wrap .i64 (i + 1)).toNat (0 : UInt8))) : Int) - 48)) + IntKind.wrap .i64 (↑(UInt8.toNat (List.getD s (IntKind.wrap .i64 (i + 2)).toNat (0 : UInt8))) : Int)) - 48) > 59)) (K [i64 (-1 : Int)]) (K [i64 (IntKind.wrap .i64 (IntKind.wrap .i64 (IntKind.wrap .i64 ((10 : Int) * IntKind.wrap .i64 (IntKind.wrap .i64 (↑(UInt8.toNat (List.getD s (IntKind.wrap .i64 (i + 1)).toNat (0 : UInt8))) : Int) - 48)) + IntKind.wrap .i64 (↑(UInt8.toNat (List.getD s (IntKind.wrap .i64 (i + 2)).toNat (0 : UInt8))) : Int)) - 48))]))) := by kernel_rfl
theorem g117_in (s : List UInt8) (i : Int) (K : List AV → Prop) : evSpec N16 Tryz.f117 [sx s, i64 i] K = (LoopI N16 (bodyOf Tryz.f117) 0 (St.mk (lapp [.imm (.str s), i64 i, .dead, .dead, i64 0, i64 0, i64 0, i64 i, i64 i] (dN 42)) [] 0 []) (finK N16 Tryz.f117 K)) := by kernel_rfl
theorem g117_lp (s : List UInt8) (i : Int) (v : Int) (n : Int) (k : AX → St → Prop) : evCode N16 (loopB (bodyOf Tryz.f117) 0) (k117 s i v n) k = ((decide (n < (s.length : Int)) = true → (0 : Int) ≤ n) ∧ (decide (n < (s.length : Int)) = true → n < (s.length : Int)) ∧ ((decide (n < (s.length : Int)) && decide ((↑(UInt8.toNat (List.getD s n.toNat (0 : UInt8))) : Int) ≥ 48)) = true → (0 : Int) ≤ n) ∧ ((decide (n < (s.length : Int)) && decide ((↑(UInt8.toNat (List.getD s n.toNat (0 : UInt8))) : Int) ≥ 48)) = true → n < (s.length : Int)) ∧ brn (decide (n < (s.length : Int)) && decide ((↑(UInt8.toNat (List.getD s n.toNat (0 : UInt8))) : Int) ≥ 48) && decide ((↑(UInt8.toNat (List.getD s n.toNat (0 : UInt8))) : Int) ≤ 57)) (brn (decide (IntKind.wrap .i64 (n - i) < 4)) ((0 : Int) ≤ n ∧ n < (s.length : Int) ∧ k AX.normal (St.mk (lapp [.imm (.str s), i64 i] (lapp (dN 4) (lapp [i64 (IntKind.wrap .i64 (IntKind.wrap .i64 (IntKind.wrap .i64 ((10 : Int) * v) + IntKind.wrap .i64 (↑(UInt8.toNat (List.getD s n.toNat (0 : UInt8))) : Int)) - 48)), i64 (IntKind.wrap .i64 (n + 1))] (lapp (dN 29) (lapp [i64 n, i64 (IntKind.wrap .i64 (n + 1))] (dN 12)))))) [] 0 [])) (k AX.normal (St.mk (lapp [.imm (.str s),
 i64 i] (lapp (dN 4) (lapp [i64 v, i64 (IntKind.wrap .i64 (n + 1))] (lapp (dN 29) (lapp [i64 n, i64 (IntKind.wrap .i64 (n + 1))] (dN 12)))))) [] 0 []))) (k (AX.exit 0) (St.mk (lapp [.imm (.str s), i64 i] (lapp (dN 4) (lapp [i64 v, i64 n, .dead, i64 n, .imm (.str s), i64 (s.length : Int), bo (decide (n < (s.length : Int))), bo (decide (n < (s.length : Int))), .opt [(13, true)] (.imm (.str s)), .opt [(13, true)] (i64 n), .opt [(13, true)] (.imm (.int .u8 (↑(UInt8.toNat (List.getD s n.toNat (0 : UInt8))) : Int))), .opt [(13, true)] (bo (decide ((↑(UInt8.toNat (List.getD s n.toNat (0 : UInt8))) : Int) ≥ 48))), bo (decide (n < (s.length : Int)) && decide ((↑(UInt8.toNat (List.getD s n.toNat (0 : UInt8))) : Int) ≥ 48)), bo (decide (n < (s.length : Int)) && decide ((↑(UInt8.toNat (List.getD s n.toNat (0 : UInt8))) : Int) ≥ 48)), .opt [(19, true)] (.imm (.str s)), .opt [(19, true)] (i64 n), .opt [(19, true)] (.imm (.int .u8 (↑(UInt8.toNat (List.getD s n.toNat (0 : UInt8))) : Int))), .opt [(19, true)] (bo (decide ((↑(UInt8.toNat (List.getD s n.toNat (0 : UInt8))) : Int) ≤ 57))), bo (decide (n < (s.length : Int)) && decide ((↑(UInt8.toNat (List.getD s n.toNat (0 : UInt8))) : Int) ≥ 48) &&
 decide ((↑(UInt8.toNat (List.getD s n.toNat (0 : UInt8))) : Int) ≤ 57))] (dN 26)))) [] 0 []))) := by kernel_rfl
theorem g117_out (s : List UInt8) (i : Int) (v : Int) (n : Int) (K : List AV → Prop) : loopK N16 (bodyOf Tryz.f117) 0 (finK N16 Tryz.f117 K) (AX.exit 0) (St.mk (let y := let y := let y := [.dead, .dead, .dead, .dead, .dead, .dead, .dead]; AV.dead :: AV.dead :: AV.dead :: AV.dead :: AV.dead :: AV.dead :: y; let y := AV.dead :: AV.dead :: AV.dead :: AV.dead :: AV.dead :: AV.dead :: AV.dead :: y; AV.dead :: AV.dead :: AV.dead :: AV.dead :: AV.dead :: AV.dead :: y; let y := let y := bo (decide (n < (s.length : Int)) && decide ((↑(UInt8.toNat (List.getD s n.toNat (0 : UInt8))) : Int) ≥ 48)) :: bo (decide (n < (s.length : Int)) && decide ((↑(UInt8.toNat (List.getD s n.toNat (0 : UInt8))) : Int) ≥ 48)) :: AV.opt [(19, true)] (.imm (.str s)) :: AV.opt [(19, true)] (i64 n) :: AV.opt [(19, true)] (.imm (.int .u8 (↑(UInt8.toNat (List.getD s n.toNat (0 : UInt8))) : Int))) :: AV.opt [(19, true)] (bo (decide ((↑(UInt8.toNat (List.getD s n.toNat (0 : UInt8))) : Int) ≤ 57))) :: bo (decide (n < (s.length : Int)) && decide ((↑(UInt8.toNat (List.getD s n.toNat (0 : UInt8))) : Int) ≥ 48) && decide ((↑(UInt8.toNat (List.getD s n.toNat (0 : UInt8))) : Int) ≤ 57)) :: y; bo (decide (n < (s.length : Int))) :: bo (decide (n < (s.length : Int))) :: AV.opt [(13, true)] (.imm (.str s)) :: AV.opt [(13, true)] (i64 n) :: AV.opt [(13, true)] (.imm (.int .u8 (↑(UInt8.toNat (List.getD s n.toNat (0 : UInt8))) : Int))) :: AV.opt [(13, true)] (bo (decide ((↑(UInt8.toNat (List.getD s n.toNat (0 : UInt8))) : Int) ≥ 48))) :: y; let y := i64 v :: i64 n :: AV.dead :: i64 n :: AV.imm (.str s) :: i64 (s.length : Int) :: y; AV.imm (.str s) :: i64 i :: AV.dead :: AV.dead :: AV.dead :: AV.dead :: y) [] 0 []) = (brn (n == i || decide (n > IntKind.wrap .i64 (i + 3))) (K [i64 (-1 : Int), i64 i]) (K [i64 v, i64 n])) := by kernel_rfl
end Y27
set_option maxRecDepth 100000
namespace Y27
open Go Go.AE Go.Proofs E6
attribute [local irreducible] loopK evCode evSpec loopB norm
def clr (s : List UInt8) (a b : Int) : Prop := ∀ j : Nat, a ≤ (j : Int) → (j : Int) < b → s.getD j 0 ≠ 10
def cln (s : List UInt8) (n : Int) : Prop := 0 ≤ n ∧ n ≤ (s.length : Int) ∧ clr s 0 n
theorem clr_step {s : List UInt8} {a i : Int} (h0 : 0 ≤ i) (h : clr s a i) (hi : s.getD i.toNat 0 ≠ 10) : clr s a (i + 1) := by
  intro j ha hj
  by_cases hji : (j : Int) = i
  · have : j = i.toNat := by omega
    rw [this]; exact hi
  · exact h j ha (by omega)
theorem clr_nil (s : List UInt8) (a : Int) : clr s a a := fun j h1 h2 => by omega
theorem byte_ne {c : UInt8} (h : (c.toNat : Int) ≠ 10) : c ≠ 10 := fun e => h (by rw [e]; rfl)
theorem nv_ex (s : List UInt8) (hl : (s.length : Int) ≤ 1000000) : ∃ v : Bool, (v = true → cln s s.length) ∧ ∀ K : List AV → Prop, K [bo v] → evSpec N13 Tryz.f113 [sx s] K := by
  refine Exists.elim (loop_det (C := N13) (c := loopB (bodyOf Tryz.f113) 0) (fun i : Int => k113 s i) (fun i => 0 ≤ i ∧ i ≤ s.length ∧ clr s 0 i) (fun i => ((s.length : Int) - i).toNat) (fun v : Bool => v = true → cln s s.length) (fun v => [bo v])
    (fun K => loopK N13 (bodyOf Tryz.f113) 0 (finK N13 Tryz.f113 K)) rfl (fun i hs => ?_) 0 ⟨Int.le_refl 0, by omega, clr_nil s 0⟩) (fun v hv' => ?_)
  · obtain ⟨i1, i2, i3⟩ := hs
    by_cases h : i < s.length
    · cases hx : (!alphaU ((s.getD i.toNat 0).toNat : Int) && (decide (((s.getD i.toNat 0).toNat : Int) < (48 : Int)) || decide (((s.getD i.toNat 0).toNat : Int) > (57 : Int))) && ((s.getD i.toNat 0).toNat : Int) != (43 : Int) && ((s.getD i.toNat 0).toNat : Int) != (45 : Int)) with
      | true =>
        refine .inr ⟨.ret, _, by simp, fun K' hK' => by
          rw [g113_lp]
          exact brn_T (decide_eq_true h) ⟨i1, h, brn_T hx hK'⟩, false, fun h => (by cases h), fun K hK => ?_⟩
        exact Eq.mp (by kernel_rfl) hK
      | false =>
        have hne : s.getD i.toNat 0 ≠ 10 := fun e => by rw [e] at hx; exact absurd hx (by decide)
        refine .inl ⟨i + 1, q113, _, ⟨by omega, by omega, clr_step i1 i3 hne⟩, by omega, ?_, fun K' hK' => by
          rw [g113_lp]
          exact brn_T (decide_eq_true h) ⟨i1, h, brn_Fa hx hK'⟩⟩
        rw [w1 (by omega) (by omega)]
        kernel_rfl
    · have hi : i = (s.length : Int) := by omega
      refine .inr ⟨.exit 0, _, by simp, fun K' hK' => by
        rw [g113_lp]
        exact brn_Fa (decide_eq_false h) hK', decide ((s.length : Int) ≥ 3) && decide ((s.length : Int) ≤ 255), fun _ => ⟨by omega, Int.le_refl _, hi ▸ i3⟩, fun K hK => ?_⟩
      exact Eq.mp (by kernel_rfl) hK
  · obtain ⟨hv, hk⟩ := hv'
    refine ⟨v, hv, fun K hK => ?_⟩
    rw [g113_in]
    unfold LoopI
    exact hk K hK q113 _ (by kernel_rfl)
theorem lt_ex (s : List UInt8) (hl : (s.length : Int) ≤ 1000000) : ∃ v : Int, (0 ≤ v ∧ v ≤ s.length) ∧ ∀ K : List AV → Prop, K [i64 v] → evSpec N14 Tryz.f114 [sx s] K := by
  refine Exists.elim (loop_det (C := N14) (c := loopB (bodyOf Tryz.f114) 0) (fun i : Int => k114 s i) (fun i => 0 ≤ i ∧ i ≤ s.length) (fun i => ((s.length : Int) - i).toNat) (fun v : Int => 0 ≤ v ∧ v ≤ s.length) (fun v => [i64 v])
    (fun K => loopK N14 (bodyOf Tryz.f114) 0 (finK N14 Tryz.f114 K)) rfl (fun i hs => ?_) 0 ⟨Int.le_refl 0, by omega⟩) (fun v hv' => ?_)
  · obtain ⟨i1, i2⟩ := hs
    cases hx : (decide (i < (s.length : Int)) && alphaU ((s.getD i.toNat 0).toNat : Int)) with
    | true =>
      have h : i < (s.length : Int) := of_decide_eq_true ((Bool.and_eq_true _ _).mp hx).1
      refine .inl ⟨i + 1, q114, _, ⟨by omega, by omega⟩, by omega, ?_, fun K' hK' => by
        rw [g114_lp]
        exact ⟨fun _ => i1, fun h => of_decide_eq_true h, brn_T hx hK'⟩⟩
      rw [w1 (by omega) (by omega)]
      kernel_rfl
    | false =>
      refine .inr ⟨.exit 0, _, by simp, fun K' hK' => by
        rw [g114_lp]
        exact ⟨fun _ => i1, fun h => of_decide_eq_true h, brn_Fa hx hK'⟩, i, ⟨i1, i2⟩, fun K hK => ?_⟩
      exact Eq.mp (by kernel_rfl) hK
  · obtain ⟨hv, hk⟩ := hv'
    refine ⟨v, hv, fun K hK => ?_⟩
    rw [g114_in]
    unfold LoopI
    exact hk K hK q114 _ (by kernel_rfl)
theorem nu_ex (s : List UInt8) (i : Int) (hl : (s.length : Int) ≤ 1000000) (h0 : 0 ≤ i) (h1 : i ≤ s.length) : ∃ v : Int × Int, (0 ≤ v.2 ∧ v.2 ≤ s.length ∧ i ≤ v.2 ∧ clr s i v.2) ∧ ∀ K : List AV → Prop, K [i64 v.1, i64 v.2] → evSpec N16 Tryz.f117 [sx s, i64 i] K := by
  refine Exists.elim (loop_det (C := N16) (c := loopB (bodyOf Tryz.f117) 0) (fun q : Int × Int => k117 s i q.1 q.2) (fun q => i ≤ q.2 ∧ q.2 ≤ s.length ∧ clr s i q.2) (fun q => ((s.length : Int) - q.2).toNat) (fun v : Int × Int => 0 ≤ v.2 ∧ v.2 ≤ s.length ∧ i ≤ v.2 ∧ clr s i v.2) (fun v => [i64 v.1, i64 v.2])
    (fun K => loopK N16 (bodyOf Tryz.f117) 0 (finK N16 Tryz.f117 K)) rfl (fun q hs => ?_) (0, i) ⟨Int.le_refl i, h1, clr_nil s i⟩) (fun v hv' => ?_)
  · obtain ⟨v, n⟩ := q
    obtain ⟨i1, i2, i3⟩ := hs
    simp only at i1 i2 i3
    have n0 : 0 ≤ n := by omega
    have c1 : decide (n < (s.length : Int)) = true → 0 ≤ n := fun _ => n0
    have c2 : decide (n < (s.length : Int)) = true → n < (s.length : Int) := fun h => of_decide_eq_true h
    have c4 : (decide (n < (s.length : Int)) && decide (((s.getD n.toNat 0).toNat : Int) ≥ (48 : Int))) = true → n < (s.length : Int) := fun h => of_decide_eq_true ((Bool.and_eq_true _ _).mp h).1
    cases hx : (decide (n < (s.length : Int)) && decide (((s.getD n.toNat 0).toNat : Int) ≥ (48 : Int)) && decide (((s.getD n.toNat 0).toNat : Int) ≤ (57 : Int))) with
    | true =>
      have hb := (Bool.and_eq_true _ _).mp ((Bool.and_eq_true _ _).mp hx).1
      have h : n < (s.length : Int) := of_decide_eq_true hb.1
      have hge : ((s.getD n.toNat 0).toNat : Int) ≥ (48 : Int) := of_decide_eq_true hb.2
      have hne : s.getD n.toNat 0 ≠ 10 := byte_ne (by omega)
      have hw : IntKind.wrap .i64 (n + 1) = n + 1 := w1 n0 (by omega)
      have hst := clr_step n0 i3 hne
      by_cases h4 : IntKind.wrap .i64 (n - i) < 4
      · refine .inl ⟨(IntKind.wrap IntKind.i64 (IntKind.wrap IntKind.i64 (IntKind.wrap IntKind.i64 ((10 : Int) * v) + IntKind.wrap IntKind.i64 ((s.getD n.toNat 0).toNat : Int)) - (48 : Int)), n + 1), q117, _, ⟨by show i ≤ n + 1; omega, by show n + 1 ≤ (s.length : Int); omega, hst⟩, by show ((s.length : Int) - (n + 1)).toNat < ((s.length : Int) - n).toNat; omega, ?_, fun K' hK' => by
          show evCode N16 (loopB (bodyOf Tryz.f117) 0) (k117 s i v n) K'
          rw [g117_lp]
          exact ⟨c1, c2, fun _ => n0, c4, brn_T hx (brn_T (decide_eq_true h4) ⟨n0, h, hK'⟩)⟩⟩
        rw [hw]
        kernel_rfl
      · refine .inl ⟨(v, n + 1), q117, _, ⟨by show i ≤ n + 1; omega, by show n + 1 ≤ (s.length : Int); omega, hst⟩, by show ((s.length : Int) - (n + 1)).toNat < ((s.length : Int) - n).toNat; omega, ?_, fun K' hK' => by
          show evCode N16 (loopB (bodyOf Tryz.f117) 0) (k117 s i v n) K'
          rw [g117_lp]
          exact ⟨c1, c2, fun _ => n0, c4, brn_T hx (brn_Fa (decide_eq_false h4) hK')⟩⟩
        rw [hw]
        kernel_rfl
    | false =>
      cases hy : (n == i || decide (n > IntKind.wrap IntKind.i64 (i + (3 : Int)))) with
      | true =>
        refine .inr ⟨.exit 0, _, by simp, fun K' hK' => by
          show evCode N16 (loopB (bodyOf Tryz.f117) 0) (k117 s i v n) K'
          rw [g117_lp]
          exact ⟨c1, c2, fun _ => n0, c4, brn_Fa hx hK'⟩, (-1, i), ⟨h0, h1, Int.le_refl i, clr_nil s i⟩, fun K hK => ?_⟩
        have key := Eq.mpr (g117_out s i v n K) (brn_T hy hK)
        exact Eq.mp (by kernel_rfl) key
      | false =>
        refine .inr ⟨.exit 0, _, by simp, fun K' hK' => by
          show evCode N16 (loopB (bodyOf Tryz.f117) 0) (k117 s i v n) K'
          rw [g117_lp]
          exact ⟨c1, c2, fun _ => n0, c4, brn_Fa hx hK'⟩, (v, n), ⟨n0, i2, i1, i3⟩, fun K hK => ?_⟩
        have key := Eq.mpr (g117_out s i v n K) (brn_Fa hy hK)
        exact Eq.mp (by kernel_rfl) key
  · obtain ⟨hv, hk⟩ := hv'
    refine ⟨v, hv, fun K hK => ?_⟩
    rw [g117_in]
    unfold LoopI
    exact hk K hK q117 _ (by kernel_rfl)
theorem dig_el {s : List UInt8} {i : Int} (h : digU s i = true) : i < (s.length : Int) ∧ s.getD i.toNat 0 ≠ 10 := by
  unfold digU at h
  simp only [Bool.and_eq_true, decide_eq_true_eq] at h
  obtain ⟨⟨h1, h2⟩, h3⟩ := h
  exact ⟨h1, byte_ne (by omega)⟩
theorem fd_ex (s : List UInt8) (i : Int) (hl : (s.length : Int) ≤ 1000000) (h0 : 0 ≤ i) (h1 : i ≤ 2000000) : ∃ v : Int, (v ≤ 59 ∧ (v ≥ 0 → i + 3 ≤ s.length ∧ clr s i (i + 3))) ∧ ∀ K : List AV → Prop, K [i64 v] → evSpec N15 Tryz.f116 [sx s, i64 i] K := by
  have e1 : IntKind.wrap .i64 (i + 1) = i + 1 := w1 h0 (by omega)
  have e2 : IntKind.wrap .i64 (i + 2) = i + 2 := wrap64 (by omega) (by omega)
  have a1 : decide (i ≥ (s.length : Int)) = false → 0 ≤ i := fun _ => h0
  have a2 : decide (i ≥ (s.length : Int)) = false → i < (s.length : Int) := fun h => by
    have := of_decide_eq_false h
    omega
  cases hx : (decide (i ≥ (s.length : Int)) || ((s.getD i.toNat 0).toNat : Int) != (58 : Int) || !digU s (i + (1 : Int)) || !digU s (i + (2 : Int))) with
  | true =>
    refine ⟨-1, ⟨by decide, fun h => absurd h (by decide)⟩, fun K hK => ?_⟩
    rw [g116_in]
    intro E1
    clear_value E1
    rw [e1, e2]
    exact ⟨a1, a2, fun _ => by omega, fun _ => by omega, brn_T hx hK⟩
  | false =>
    have hx' := hx
    simp only [Bool.or_eq_false_iff, Bool.not_eq_false', decide_eq_false_iff_not, bne_eq_false_iff_eq] at hx'
    obtain ⟨⟨⟨b1, b2⟩, b3⟩, b4⟩ := hx'
    obtain ⟨d1, d2⟩ := dig_el b3
    obtain ⟨d3, d4⟩ := dig_el b4
    have hc : clr s i (i + 3) := by
      have k1 := clr_step h0 (clr_nil s i) (byte_ne (by omega))
      have k2 := clr_step (by omega) k1 d2
      have e3 : i + 1 + 1 = i + 2 := by omega
      rw [e3] at k2
      have k3 := clr_step (by omega) k2 d4
      have e4 : i + 2 + 1 = i + 3 := by omega
      rw [e4] at k3
      exact k3
    by_cases hv : (IntKind.wrap IntKind.i64 (IntKind.wrap IntKind.i64 (IntKind.wrap IntKind.i64 ((10 : Int) * IntKind.wrap IntKind.i64 (IntKind.wrap IntKind.i64 ((s.getD (i + 1).toNat 0).toNat : Int) - (48 : Int))) + IntKind.wrap IntKind.i64 ((s.getD (i + 2).toNat 0).toNat : Int)) - (48 : Int)) > (59 : Int))
    · refine ⟨-1, ⟨by decide, fun h => absurd h (by decide)⟩, fun K hK => ?_⟩
      rw [g116_in]
      intro E1
      have hE : E1 := rfl
      clear_value E1
      rw [e1, e2]
      exact ⟨a1, a2, fun _ => by omega, fun _ => by omega, brn_Fa hx ⟨⟨by omega, d1, by omega, d3, hE⟩, brn_T (decide_eq_true hv) hK⟩⟩
    · refine ⟨_, ⟨Int.not_lt.mp hv, fun _ => ⟨by omega, hc⟩⟩, fun K hK => ?_⟩
      rw [g116_in]
      intro E1
      have hE : E1 := rfl
      clear_value E1
      rw [e1, e2]
      exact ⟨a1, a2, fun _ => by omega, fun _ => by omega, brn_Fa hx ⟨⟨by omega, d1, by omega, d3, hE⟩, brn_Fa (decide_eq_false hv) hK⟩⟩
theorem f59_ev (b : List UInt8) (hl : (b.length : Int) ≤ 1000000) (K : List AV → Prop) (hK : K [bo (badV b == -1)]) : evSpec N12 Tryz.f59 [by' b] K := by
  rw [g59_in]
  exact ⟨hl, hK⟩
end Y27
set_option maxRecDepth 100000
namespace Y27
open Go Go.AE Go.Proofs E6
noncomputable section
def nvV (s : List UInt8) : Bool := Classical.epsilon fun v : Bool => (v = true → cln s s.length) ∧ ∀ K : List AV → Prop, K [bo v] → evSpec N13 Tryz.f113 [sx s] K
def ltV (s : List UInt8) : Int := Classical.epsilon fun v : Int => (0 ≤ v ∧ v ≤ s.length) ∧ ∀ K : List AV → Prop, K [i64 v] → evSpec N14 Tryz.f114 [sx s] K
def fdV (s : List UInt8) (i : Int) : Int := Classical.epsilon fun v : Int => (v ≤ 59 ∧ (v ≥ 0 → i + 3 ≤ s.length ∧ clr s i (i + 3))) ∧ ∀ K : List AV → Prop, K [i64 v] → evSpec N15 Tryz.f116 [sx s, i64 i] K
def nuV (s : List UInt8) (i : Int) : Int × Int := Classical.epsilon fun v : Int × Int => (0 ≤ v.2 ∧ v.2 ≤ s.length ∧ i ≤ v.2 ∧ clr s i v.2) ∧ ∀ K : List AV → Prop, K [i64 v.1, i64 v.2] → evSpec N16 Tryz.f117 [sx s, i64 i] K
def s59 : List AV → Option (List Prop × List AV)
  | [.imm (.bytes b)] => some ([(b.length : Int) ≤ 1000000], [bo (badV b == -1)])
  | _ => none
def sNV : List AV → Option (List Prop × List AV)
  | [.imm (.str s)] => some ([(s.length : Int) ≤ 1000000], [bo (nvV s)])
  | _ => none
def sLt : List AV → Option (List Prop × List AV)
  | [.imm (.str s)] => some ([(s.length : Int) ≤ 1000000], [i64 (ltV s)])
  | _ => none
def sFd : List AV → Option (List Prop × List AV)
  | [.imm (.str s), .imm (.int .i64 i)] => some ([(s.length : Int) ≤ 1000000, 0 ≤ i, i ≤ 2000000], [i64 (fdV s i)])
  | _ => none
def sNu : List AV → Option (List Prop × List AV)
  | [.imm (.str s), .imm (.int .i64 i)] => some ([(s.length : Int) ≤ 1000000, 0 ≤ i, i ≤ (s.length : Int)], [i64 (nuV s i).1, i64 (nuV s i).2])
  | _ => none
def F31 := addE (addE (addE (addE (addE F30 59 s59) 113 sNV) 114 sLt) 116 sFd) 117 sNu
def N17 : Cx := ⟨Tryz.prog, F31, noCall, G16, 4007⟩
def N18 : Cx := ⟨Tryz.prog, F31, noCall, G16, 4012⟩
def N19 : Cx := ⟨Tryz.prog, F31, noCall, G16, 4004⟩
def k93 (s : List UInt8) (i : Int) : St := ⟨spr [(0, sx s), (5, i64 i)] 0 46, [], 0, []⟩
def q93 : Plan := ⟨[], msk [0, 5] 0 46, []⟩
def k95 (s : List UInt8) (a n h : Int) : St := ⟨spr [(0, sx s), (5, i64 a), (6, i64 n), (7, i64 h)] 0 87, [], 0, []⟩
def q95 : Plan := ⟨[], msk [0, 5, 6, 7] 0 87, []⟩
end
attribute [local irreducible] loopK evCode evSpec loopB norm
theorem ok59e : ∀ args pres res, s59 args = some (pres, res) → SpecOK Tryz.prog G16 59 args pres res := by
  intro args pres res h
  unfold s59 at h
  split at h
  case h_2 => cases h
  cases h
  exact spec_ok (C := N12) okF30 noCall_ok Tryz.func59 (by kernel_rfl) (by kernel_rfl) (fun hp => f59_ev _ (hp _ (by simp)) _ rfl)
theorem ok113e : ∀ args pres res, sNV args = some (pres, res) → SpecOK Tryz.prog G16 113 args pres res := by
  intro args pres res h
  unfold sNV at h
  split at h
  case h_2 => cases h
  cases h
  exact spec_ok (C := N13) okF30 noCall_ok Tryz.func113 (by kernel_rfl) (by kernel_rfl) (fun hp => (Classical.epsilon_spec (nv_ex _ (hp _ (by simp)))).2 _ rfl)
theorem ok114e : ∀ args pres res, sLt args = some (pres, res) → SpecOK Tryz.prog G16 114 args pres res := by
  intro args pres res h
  unfold sLt at h
  split at h
  case h_2 => cases h
  cases h
  exact spec_ok (C := N14) okF30 noCall_ok Tryz.func114 (by kernel_rfl) (by kernel_rfl) (fun hp => (Classical.epsilon_spec (lt_ex _ (hp _ (by simp)))).2 _ rfl)
theorem ok116e : ∀ args pres res, sFd args = some (pres, res) → SpecOK Tryz.prog G16 116 args pres res := by
  intro args pres res h
  unfold sFd at h
  split at h
  case h_2 => cases h
  cases h
  exact spec_ok (C := N15) okF30 noCall_ok Tryz.func116 (by kernel_rfl) (by kernel_rfl) (fun hp => (Classical.epsilon_spec (fd_ex _ _ (hp _ (by simp)) (hp _ (by simp)) (hp _ (by simp)))).2 _ rfl)
theorem ok117e : ∀ args pres res, sNu args = some (pres, res) → SpecOK Tryz.prog G16 117 args pres res := by
  intro args pres res h
  unfold sNu at h
  split at h
  case h_2 => cases h
  cases h
  exact spec_ok (C := N16) okF30 noCall_ok Tryz.func117 (by kernel_rfl) (by kernel_rfl) (fun hp => (Classical.epsilon_spec (nu_ex _ _ (hp _ (by simp)) (hp _ (by simp)) (hp _ (by simp)))).2 _ rfl)
theorem okF31 : EOK Tryz.prog F31 G16 := addE_ok (addE_ok (addE_ok (addE_ok (addE_ok okF30 ok59e) ok113e) ok114e) ok116e) ok117e
theorem nv_sp {s : List UInt8} (hl : (s.length : Int) ≤ 1000000) : nvV s = true → cln s s.length := (Classical.epsilon_spec (nv_ex s hl)).1
theorem lt_sp {s : List UInt8} (hl : (s.length : Int) ≤ 1000000) : 0 ≤ ltV s ∧ ltV s ≤ s.length := (Classical.epsilon_spec (lt_ex s hl)).1
theorem fd_sp {s : List UInt8} {i : Int} (hl : (s.length : Int) ≤ 1000000) (h0 : 0 ≤ i) (h1 : i ≤ 2000000) : fdV s i ≥ 0 → i + 3 ≤ s.length ∧ clr s i (i + 3) := (Classical.epsilon_spec (fd_ex s i hl h0 h1)).1.2
theorem nu_sp {s : List UInt8} {i : Int} (hl : (s.length : Int) ≤ 1000000) (h0 : 0 ≤ i) (h1 : i ≤ s.length) : 0 ≤ (nuV s i).2 ∧ (nuV s i).2 ≤ s.length ∧ i ≤ (nuV s i).2 ∧ clr s i (nuV s i).2 := (Classical.epsilon_spec (nu_ex s i hl h0 h1)).1
end Y27
set_option maxRecDepth 100000
namespace Y27
open Go Go.AE Go.Proofs E6
attribute [local irreducible] loopK evCode evSpec loopB norm
theorem g93_in (s : List UInt8) (K : List AV → Prop) : evSpec N17 Tryz.f93 [sx s] K = ((decide ((s.length : Int) > 0) = true → (0 : Int) ≤ 0) ∧ (decide ((s.length : Int) > 0) = true → (0 : Int) < (s.length : Int)) ∧ brn (decide ((s.length : Int) > 0) && (↑(UInt8.toNat (List.getD s (0 : Int).toNat (0 : UInt8))) : Int) == 60) (LoopI N17 (bodyOf Tryz.f93) 0 (St.mk (lapp [.imm (.str s), .dead, .imm (.str []), i64 0, bo false, i64 1] (dN 40)) [] 0 []) (finK N17 Tryz.f93 K)) ((s.length : Int) ≤ 1000000 ∧ (0 : Int) ≤ ltV s ∧ ltV s ≤ (s.length : Int) ∧ (↑(List.take ((ltV s).toNat - 0) (List.drop 0 s)).length : Int) ≤ 1000000 ∧ brn (!nvV (List.take ((ltV s).toNat - 0) (List.drop 0 s))) (K [.imm (.str []), i64 0, bo false]) ((0 : Int) ≤ ltV s ∧ ltV s ≤ (s.length : Int) ∧ K [.imm (.str (List.take ((ltV s).toNat - 0) (List.drop 0 s))), i64 (ltV s), bo true]))) := by kernel_rfl
theorem g93_lp (s : List UInt8) (i : Int) (k : AX → St → Prop) : evCode N17 (loopB (bodyOf Tryz.f93) 0) (k93 s i) k = (brn (decide (i < (s.length : Int))) ((0 : Int) ≤ i ∧ i < (s.length : Int) ∧ brn ((↑(UInt8.toNat (List.getD s i.toNat (0 : UInt8))) : Int) == 62) ((0 : Int) ≤ 1 ∧ (1 : Int) ≤ i ∧ i ≤ (s.length : Int) ∧ (↑(List.take (i.toNat - (1 : Int).toNat) (List.drop (1 : Int).toNat s)).length : Int) ≤ 1000000 ∧ brn (!nvV (List.take (i.toNat - (1 : Int).toNat) (List.drop (1 : Int).toNat s))) (k AX.ret (St.mk (lapp [.imm (.str s), .dead, .imm (.str []), i64 0, bo false, i64 i] (dN 40)) [] 0 [])) ((0 : Int) ≤ 1 ∧ (1 : Int) ≤ i ∧ i ≤ (s.length : Int) ∧ k AX.ret (St.mk (lapp [.imm (.str s), .dead, .imm (.str (List.take (i.toNat - (1 : Int).toNat) (List.drop (1 : Int).toNat s))), i64 (IntKind.wrap .i64 (i + 1)), bo true, i64 i] (lapp (dN 24) (lapp [.imm (.str s), i64 i, .imm (.str (List.take (i.toNat - (1 : Int).toNat) (List.drop (1 : Int).toNat s))), i64 i, i64 (IntKind.wrap .i64 (i + 1))] (dN 11)))) [] 0 []))) (k AX.normal (St.mk (lapp [.imm (.str s)] (lapp (dN 4) (lapp [i64 (IntKind.wrap .i64 (i + 1))] (lapp (dN 13) (lapp [i64 i, i64 (IntKind.wrap .i64 (i + 1))] (dN 25)))))) [] 0
 []))) (k (AX.exit 0) (St.mk (lapp [.imm (.str s)] (lapp (dN 4) (lapp [i64 i] (lapp (dN 9) (lapp [i64 i, .imm (.str s), i64 (s.length : Int), bo (decide (i < (s.length : Int)))] (dN 27)))))) [] 0 []))) := by kernel_rfl
theorem g95_in (s : List UInt8) (K : List AV → Prop) : evSpec N18 Tryz.f95 [sx s] K = ((decide ((s.length : Int) > 0) = true → (0 : Int) ≤ 0) ∧ (decide ((s.length : Int) > 0) = true → (0 : Int) < (s.length : Int)) ∧ (decide ((s.length : Int) > 0) = true → ((↑(UInt8.toNat (List.getD s (0 : Int).toNat (0 : UInt8))) : Int) == 43) = false → (0 : Int) ≤ 0) ∧ (decide ((s.length : Int) > 0) = true → ((↑(UInt8.toNat (List.getD s (0 : Int).toNat (0 : UInt8))) : Int) == 43) = false → (0 : Int) < (s.length : Int)) ∧ brn (decide ((s.length : Int) > 0) && ((↑(UInt8.toNat (List.getD s (0 : Int).toNat (0 : UInt8))) : Int) == 43 || (↑(UInt8.toNat (List.getD s (0 : Int).toNat (0 : UInt8))) : Int) == 45)) (LoopI N18 (bodyOf Tryz.f95) 0 (St.mk (lapp [.imm (.str s), .dead, i64 0, i64 0, bo false, i64 1, i64 0, i64 0] (dN 79)) [] 0 []) (finK N18 Tryz.f95 K)) (LoopI N18 (bodyOf Tryz.f95) 0 (St.mk (lapp [.imm (.str s), .dead, i64 0, i64 0, bo false, i64 0, i64 0, i64 0] (dN 79)) [] 0 []) (finK N18 Tryz.f95 K))) := by kernel_rfl
theorem g95_lp (s : List UInt8) (a : Int) (n : Int) (h : Int) (k : AX → St → Prop) : evCode N18 (loopB (bodyOf Tryz.f95) 0) (k95 s a n h) k = ((0 : Int) ≤ IntKind.wrap .i64 (a + n) ∧ brn (digU s (IntKind.wrap .i64 (a + n))) (brn (decide (n < 4)) ((0 : Int) ≤ IntKind.wrap .i64 (a + n) ∧ IntKind.wrap .i64 (a + n) < (s.length : Int) ∧ k AX.normal (St.mk (lapp [.imm (.str s)] (lapp (dN 4) (lapp [i64 a, i64 (IntKind.wrap .i64 (n + 1)), i64 (IntKind.wrap .i64 (IntKind.wrap .i64 (IntKind.wrap .i64 ((10 : Int) * h) + IntKind.wrap .i64 (↑(UInt8.toNat (List.getD s (IntKind.wrap .i64 (a + n)).toNat (0 : UInt8))) : Int)) - 48))] (lapp (dN 34) (lapp [i64 n, i64 (IntKind.wrap .i64 (n + 1))] (dN 43)))))) [] 0 [])) (k AX.normal (St.mk (lapp [.imm (.str s)] (lapp (dN 4) (lapp [i64 a, i64 (IntKind.wrap .i64 (n + 1)), i64 h] (lapp (dN 34) (lapp [i64 n, i64 (IntKind.wrap .i64 (n + 1))] (dN 43)))))) [] 0 []))) (k (AX.exit 0) (St.mk (lapp [.imm (.str s)] (lapp (dN 4) (lapp [i64 a, i64 n, i64 h] (lapp (dN 17) (lapp [.imm (.str s), i64 a, i64 n, i64 (IntKind.wrap .i64 (a + n)), bo (digU s (IntKind.wrap .i64 (a + n)))] (dN 57)))))) [] 0 []))) := by kernel_rfl
theorem g98_in (s : List UInt8) (o : Int) (h : Bool) (t : List UInt8) (p : Int) (a : Int) (b : Int) (c : Int) (d : Int) (e : Int) (f : Int) (a' : Int) (b' : Int) (c' : Int) (d' : Int) (e' : Int) (f' : Int) (K : List AV → Prop) : evSpec N19 Tryz.f98 [.agg (ruC s o h t p (rdC a b c d e f) (rdC a' b' c' d' e' f'))] K = ((s.length : Int) ≤ 1000000 ∧ brn (!nvV s || !in9 o) (K [bo false]) (brn (!h) (K [bo (decide (t = []) && p == 0 && (a == 0 && (b == 0 && (c == 0 && (d == 0 && (e == 0 && (f == 0 && true)))))) && (a' == 0 && (b' == 0 && (c' == 0 && (d' == 0 && (e' == 0 && (f' == 0 && true)))))))]) ((t.length : Int) ≤ 1000000 ∧ K [bo (nvV t && in9 p && vDay a b c d e f && vDay a' b' c' d' e' f')]))) := by kernel_rfl
theorem g95_out (s : List UInt8) (a : Int) (n : Int) (h : Int) (K : List AV → Prop) : loopK N18 (bodyOf Tryz.f95) 0 (finK N18 Tryz.f95 K) (AX.exit 0) (St.mk (let y := let y := let y := let y := [.dead, .dead, .dead, .dead, .dead, .dead]; AV.dead :: AV.dead :: AV.dead :: AV.dead :: AV.dead :: y; let y := AV.dead :: AV.dead :: AV.dead :: AV.dead :: AV.dead :: AV.dead :: y; AV.dead :: AV.dead :: AV.dead :: AV.dead :: AV.dead :: y; let y := let y := AV.dead :: AV.dead :: AV.dead :: AV.dead :: AV.dead :: AV.dead :: y; AV.dead :: AV.dead :: AV.dead :: AV.dead :: AV.dead :: y; let y := AV.dead :: AV.dead :: AV.dead :: AV.dead :: AV.dead :: AV.dead :: y; AV.dead :: AV.dead :: AV.dead :: AV.dead :: AV.dead :: y; let y := let y := let y := AV.dead :: AV.dead :: AV.dead :: AV.dead :: AV.dead :: AV.dead :: y; AV.dead :: AV.dead :: AV.dead :: AV.dead :: AV.dead :: y; let y := i64 a :: i64 n :: i64 (IntKind.wrap .i64 (a + n)) :: bo (digU s (IntKind.wrap .i64 (a + n))) :: AV.dead :: AV.dead :: y; AV.dead :: AV.dead :: AV.dead :: AV.dead :: AV.imm (.str s) :: y; let y := let y := AV.dead :: AV.dead :: AV.dead :: AV.dead :: AV.dead :: AV.dead :: y; AV.dead :: AV.dead :: AV.dead :: AV.dead :: AV.dead :: y; let y := i64 a :: i64 n :: i64 h :: AV.dead :: AV.dead :: y; AV.imm (.str s) :: AV.dead :: AV.dead :: AV.dead :: AV.dead :: y) [] 0 []) = (brn (decide (n < 1) || decide (n > 3) || decide (h > 167)) (K [i64 0, i64 0, bo false]) ((s.length : Int) ≤ 1000000 ∧ (0 : Int) ≤ IntKind.wrap .i64 (a + n) ∧ IntKind.wrap .i64 (a + n) ≤ 2000000 ∧ brn (decide (fdV s (IntKind.wrap .i64 (a + n)) ≥ 0)) ((s.length : Int) ≤ 1000000 ∧ (0 : Int) ≤ IntKind.wrap .i64 (IntKind.wrap .i64 (a + n) + 3) ∧ IntKind.wrap .i64 (IntKind.wrap .i64 (a + n) + 3) ≤ 2000000 ∧ brn (decide (fdV s (IntKind.wrap .i64 (IntKind.wrap .i64 (a + n) + 3)) ≥ 0)) ((0 : Int) ≤ 0 ∧ (0 : Int) < (s.length : Int) ∧ brn ((↑(UInt8.toNat (List.getD s (0 : Int).toNat (0 : UInt8))) : Int) == 45) (K [i64 (IntKind.wrap .i64 ((0 : Int) - IntKind.wrap .i64 (IntKind.wrap .i64 (IntKind.wrap .i64 (h * 3600) + IntKind.wrap .i64 ((60 : Int) * fdV s (IntKind.wrap .i64 (a + n)))) + fdV s (IntKind.wrap .i64 (IntKind.wrap .i64 (a + n) + 3))))), i64 (IntKind.wrap .i64 (IntKind.wrap .i64 (IntKind.wrap .i64 (a + n) + 3) + 3)), bo true]) (K [i64 (IntKind.wrap .i64 (IntKind.wrap .i64 (IntKind.wrap .i64 (h * 3600) + IntKind.wrap .i64 ((60 : Int) * fdV s (IntKind.wrap .i64 (a + n)))) + fdV s (IntKind.wrap .i64 (IntKind.wrap .i64 (a + n) + 3)))), i64 (IntKind.wrap .i64 (IntKind.wrap .i64 (IntKind.wrap .i64 (a + n) + 3) + 3)), bo true])) ((0 : Int) ≤ 0 ∧ (0 : Int) < (s.length : Int) ∧ brn ((↑(UInt8.toNat (List.getD s (0 : Int).toNat (0 : UInt8))) : Int) == 45) (K [i64 (IntKind.wrap .i64 ((0 : Int) - IntKind.wrap .i64 (IntKind.wrap .i64 (h * 3600) + IntKind.wrap .i64 ((60 : Int) * fdV s (IntKind.wrap .i64 (a + n)))))), i64 (IntKind.wrap .i64 (IntKind.wrap .i64 (a + n) + 3)), bo true]) (K [i64 (IntKind.wrap .i64 (IntKind.wrap .i64 (h * 3600) + IntKind.wrap .i64 ((60 : Int) * fdV s (IntKind.wrap .i64 (a + n))))), i64 (IntKind.wrap .i64 (IntKind.wrap .i64 (a + n) + 3)), bo true]))) ((0 : Int) ≤ 0 ∧ (0 : Int) < (s.length : Int) ∧ brn ((↑(UInt8.toNat (List.getD s (0 : Int).toNat (0 : UInt8))) : Int) == 45) (K [i64 (IntKind.wrap .i64 ((0 : Int) - IntKind.wrap .i64 (h * 3600))), i64 (IntKind.wrap .i64 (a + n)), bo true]) (K [i64 (IntKind.wrap .i64 (h * 3600)), i64 (IntKind.wrap .i64 (a + n)), bo true])))) := by kernel_rfl
end Y27
set_option maxRecDepth 100000
namespace Y27
open Go Go.AE Go.Proofs E6
attribute [local irreducible] loopK evCode evSpec loopB norm
theorem clr_app {s : List UInt8} {a b c : Int} (h1 : clr s a b) (h2 : clr s b c) : clr s a c := fun j ha hj => by
  by_cases h : (j : Int) < b
  · exact h1 j ha h
  · exact h2 j (by omega) hj
theorem getD_take9 {l : List UInt8} {n k : Nat} (h : k < n) : (l.take n).getD k 0 = l.getD k 0 := by
  rw [List.getD_eq_getElem?_getD, List.getD_eq_getElem?_getD, List.getElem?_take_of_lt h]
theorem getD_drop9 {l : List UInt8} {n k : Nat} : (l.drop n).getD k 0 = l.getD (n + k) 0 := by
  rw [List.getD_eq_getElem?_getD, List.getD_eq_getElem?_getD, List.getElem?_drop]
theorem clr_drop {s : List UInt8} {i m : Int} (h0 : 0 ≤ i) (h : clr (s.drop i.toNat) 0 m) : clr s i (i + m) := fun j ha hj => by
  have := h (j - i.toNat) (by omega) (by omega)
  rw [getD_drop9] at this
  have e : i.toNat + (j - i.toNat) = j := by omega
  rw [e] at this
  exact this
theorem clr_part {s : List UInt8} {i j : Int} (h0 : 0 ≤ i) (hij : i ≤ j) (hj : j ≤ s.length) (h : cln ((s.drop i.toNat).take (j.toNat - i.toNat)) ((s.drop i.toNat).take (j.toNat - i.toNat)).length) : clr s i j := by
  have hl : ((s.drop i.toNat).take (j.toNat - i.toNat)).length = j.toNat - i.toNat := by
    rw [List.length_take, List.length_drop]; omega
  rw [hl] at h
  have hc := h.2.2
  have : clr (s.drop i.toNat) 0 (j - i) := fun k ha hk => by
    have := hc k ha (by omega)
    rw [getD_take9 (by omega)] at this
    exact this
  have h2 := clr_drop h0 this
  have e : i + (j - i) = j := by omega
  rw [e] at h2
  exact h2
theorem pn_ex (s : List UInt8) (hl : (s.length : Int) ≤ 1000000) : ∃ v : List UInt8 × Int × Bool, (v.2.2 = true → cln s v.2.1 ∧ (v.1.length : Int) ≤ s.length) ∧ ∀ K : List AV → Prop, K [sx v.1, i64 v.2.1, bo v.2.2] → evSpec N17 Tryz.f93 [sx s] K := by
  have a1 : decide ((s.length : Int) > 0) = true → (0 : Int) ≤ 0 := fun _ => Int.le_refl 0
  have a2 : decide ((s.length : Int) > 0) = true → (0 : Int) < s.length := fun h => of_decide_eq_true h
  cases h60 : (decide ((s.length : Int) > 0) && ((s.getD (Int.toNat 0) 0).toNat : Int) == (60 : Int)) with
  | true =>
    have hb := (Bool.and_eq_true _ _).mp h60
    have hpos := a2 hb.1
    have hc0 : ((s.getD (Int.toNat 0) 0).toNat : Int) = 60 := eq_of_beq hb.2
    have c01 : clr s 0 1 := clr_step (Int.le_refl 0) (clr_nil s 0) (byte_ne (by omega))
    refine Exists.elim (loop_det (C := N17) (c := loopB (bodyOf Tryz.f93) 0) (fun i : Int => k93 s i) (fun i => 1 ≤ i ∧ i ≤ s.length) (fun i => ((s.length : Int) - i).toNat) (fun v : List UInt8 × Int × Bool => v.2.2 = true → cln s v.2.1 ∧ (v.1.length : Int) ≤ s.length) (fun v => [sx v.1, i64 v.2.1, bo v.2.2])
      (fun K => loopK N17 (bodyOf Tryz.f93) 0 (finK N17 Tryz.f93 K)) rfl (fun i hs => ?_) 1 ⟨Int.le_refl 1, by omega⟩) (fun v hv' => ?_)
    · obtain ⟨i1, i2⟩ := hs
      have i0 : 0 ≤ i := by omega
      by_cases h : i < s.length
      · have hw : IntKind.wrap .i64 (i + 1) = i + 1 := w1 i0 (by omega)
        cases h62 : (((s.getD i.toNat 0).toNat : Int) == (62 : Int)) with
        | true =>
          have hi : ((s.getD i.toNat 0).toNat : Int) = 62 := eq_of_beq h62
          have hlen : (((s.drop (Int.toNat 1)).take (i.toNat - Int.toNat 1)).length : Int) ≤ s.length := by
            rw [List.length_take, List.length_drop]; omega
          cases hv : nvV ((s.drop (Int.toNat 1)).take (i.toNat - Int.toNat 1)) with
          | false =>
            refine .inr ⟨.ret, _, by simp, fun K' hK' => by
              rw [g93_lp]
              exact brn_T (decide_eq_true h) ⟨i0, h, brn_T h62 ⟨by decide, i1, i2, by omega, brn_T (by rw [hv]; rfl) hK'⟩⟩, ([], 0, false), fun h => (by cases h), fun K hK => ?_⟩
            exact Eq.mp (by kernel_rfl) hK
          | true =>
            have hcl := clr_part (s := s) (i := 1) (j := i) (by decide) i1 i2 (nv_sp (by omega) hv)
            have hc2 : clr s 0 (i + 1) := clr_step i0 (clr_app c01 hcl) (byte_ne (by omega))
            refine .inr ⟨.ret, _, by simp, fun K' hK' => by
              rw [g93_lp, hw]
              exact brn_T (decide_eq_true h) ⟨i0, h, brn_T h62 ⟨by decide, i1, i2, by omega, brn_Fa (by rw [hv]; rfl) ⟨by decide, i1, i2, hK'⟩⟩⟩, ((s.drop (Int.toNat 1)).take (i.toNat - Int.toNat 1), i + 1, true), fun _ => ⟨⟨by show 0 ≤ i + 1; omega, by show i + 1 ≤ _; omega, hc2⟩, hlen⟩, fun K hK => ?_⟩
            exact Eq.mp (by kernel_rfl) hK
        | false =>
          refine .inl ⟨i + 1, q93, _, ⟨by omega, by omega⟩, by omega, ?_, fun K' hK' => by
            rw [g93_lp, hw]
            exact brn_T (decide_eq_true h) ⟨i0, h, brn_Fa h62 hK'⟩⟩
          kernel_rfl
      · refine .inr ⟨.exit 0, _, by simp, fun K' hK' => by
          rw [g93_lp]
          exact brn_Fa (decide_eq_false h) hK', ([], 0, false), fun h => (by cases h), fun K hK => ?_⟩
        exact Eq.mp (by kernel_rfl) hK
    · obtain ⟨hv, hk⟩ := hv'
      refine ⟨v, hv, fun K hK => ?_⟩
      rw [g93_in]
      refine ⟨a1, a2, brn_T h60 ?_⟩
      unfold LoopI
      exact hk K hK q93 _ (by kernel_rfl)
  | false =>
    obtain ⟨t1, t2⟩ := lt_sp hl
    have hlen : (((s.drop 0).take ((ltV s).toNat - 0)).length : Int) ≤ s.length := by
      rw [List.length_take, List.length_drop]; omega
    cases hv : nvV ((s.drop 0).take ((ltV s).toNat - 0)) with
    | false =>
      refine ⟨([], 0, false), fun h => (by cases h), fun K hK => ?_⟩
      rw [g93_in]
      exact ⟨a1, a2, brn_Fa h60 ⟨hl, t1, t2, by omega, brn_T (by rw [hv]; rfl) hK⟩⟩
    | true =>
      have hcl := clr_part (s := s) (i := 0) (j := ltV s) (by decide) t1 t2 (nv_sp (s := (s.drop 0).take ((ltV s).toNat - 0)) (by omega) hv)
      refine ⟨((s.drop 0).take ((ltV s).toNat - 0), ltV s, true), fun _ => ⟨⟨t1, t2, hcl⟩, hlen⟩, fun K hK => ?_⟩
      rw [g93_in]
      exact ⟨a1, a2, brn_Fa h60 ⟨hl, t1, t2, by omega, brn_Fa (by rw [hv]; rfl) ⟨t1, t2, hK⟩⟩⟩
theorem hp_ex (s : List UInt8) (hl : (s.length : Int) ≤ 1000000) : ∃ v : Int × Int × Bool, (v.2.2 = true → cln s v.2.1) ∧ ∀ K : List AV → Prop, K [i64 v.1, i64 v.2.1, bo v.2.2] → evSpec N18 Tryz.f95 [sx s] K := by
  have a1 : decide ((s.length : Int) > 0) = true → (0 : Int) ≤ 0 := fun _ => Int.le_refl 0
  have a2 : decide ((s.length : Int) > 0) = true → (0 : Int) < s.length := fun h => of_decide_eq_true h
  have loop : ∀ a : Int, 0 ≤ a → a ≤ 1 → a ≤ s.length → clr s 0 a → ∃ v : Int × Int × Bool, (v.2.2 = true → cln s v.2.1) ∧ ∀ K : List AV → Prop, K [i64 v.1, i64 v.2.1, bo v.2.2] → ∀ p st, norm p st = some (k95 s a 0 0) → evCode N18 (.loop (loopB (bodyOf Tryz.f95) 0)) st (loopK N18 (bodyOf Tryz.f95) 0 (finK N18 Tryz.f95 K)) := by
    intro a a0 a9 al ca
    refine loop_det (C := N18) (c := loopB (bodyOf Tryz.f95) 0) (fun q : Int × Int => k95 s a q.1 q.2) (fun q => 0 ≤ q.1 ∧ a + q.1 ≤ s.length ∧ clr s 0 (a + q.1)) (fun q => ((s.length : Int) - q.1).toNat) (fun v : Int × Int × Bool => v.2.2 = true → cln s v.2.1) (fun v => [i64 v.1, i64 v.2.1, bo v.2.2])
      (fun K => loopK N18 (bodyOf Tryz.f95) 0 (finK N18 Tryz.f95 K)) rfl (fun q hs => ?_) (0, 0) ⟨Int.le_refl 0, by show a + 0 ≤ _; omega, by show clr s 0 (a + 0); rw [Int.add_zero]; exact ca⟩
    obtain ⟨n, h⟩ := q
    obtain ⟨i1, i2, i3⟩ := hs
    simp only at i1 i2 i3
    have e0 : IntKind.wrap .i64 (a + n) = a + n := wrap64 (by omega) (by omega)
    have e1 : IntKind.wrap .i64 (n + 1) = n + 1 := w1 i1 (by omega)
    have e3 : IntKind.wrap .i64 (a + n + 3) = a + n + 3 := wrap64 (by omega) (by omega)
    have e6 : IntKind.wrap .i64 (a + n + 3 + 3) = a + n + 3 + 3 := wrap64 (by omega) (by omega)
    have p0 : 0 ≤ a + n := by omega
    cases hx : digU s (a + n) with
    | true =>
      obtain ⟨d1, d2⟩ := dig_el hx
      have hst := clr_step p0 i3 d2
      have es : a + n + 1 = a + (n + 1) := by omega
      rw [es] at hst
      by_cases h4 : n < 4
      · refine .inl ⟨(n + 1, IntKind.wrap IntKind.i64 (IntKind.wrap IntKind.i64 (IntKind.wrap IntKind.i64 ((10 : Int) * h) + IntKind.wrap IntKind.i64 ((s.getD (a + n).toNat 0).toNat : Int)) - (48 : Int))), q95, _, ⟨by show 0 ≤ n + 1; omega, by show a + (n + 1) ≤ (s.length : Int); omega, hst⟩, by show ((s.length : Int) - (n + 1)).toNat < ((s.length : Int) - n).toNat; omega, ?_, fun K' hK' => by
          show evCode N18 (loopB (bodyOf Tryz.f95) 0) (k95 s a n h) K'
          rw [g95_lp, e0, e1]
          exact ⟨p0, brn_T hx (brn_T (decide_eq_true h4) ⟨p0, d1, hK'⟩)⟩⟩
        kernel_rfl
      · refine .inl ⟨(n + 1, h), q95, _, ⟨by show 0 ≤ n + 1; omega, by show a + (n + 1) ≤ (s.length : Int); omega, hst⟩, by show ((s.length : Int) - (n + 1)).toNat < ((s.length : Int) - n).toNat; omega, ?_, fun K' hK' => by
          show evCode N18 (loopB (bodyOf Tryz.f95) 0) (k95 s a n h) K'
          rw [g95_lp, e0, e1]
          exact ⟨p0, brn_T hx (brn_Fa (decide_eq_false h4) hK')⟩⟩
        kernel_rfl
    | false =>
      have hx' : digU s (IntKind.wrap .i64 (a + n)) = false := by rw [e0]; exact hx
      refine .inr ⟨.exit 0, _, by simp, fun K' hK' => by
        show evCode N18 (loopB (bodyOf Tryz.f95) 0) (k95 s a n h) K'
        rw [g95_lp]
        exact ⟨by rw [e0]; exact p0, brn_Fa hx' hK'⟩, ?_⟩
      cases hf : (decide (n < 1) || decide (n > 3) || decide (h > 167)) with
      | true =>
        refine ⟨(0, 0, false), fun h => (by cases h), fun K hK => ?_⟩
        have key := Eq.mpr (g95_out s a n h K) (brn_T hf hK)
        exact Eq.mp (by kernel_rfl) key
      | false =>
        have hf' := hf
        simp only [Bool.or_eq_false_iff, decide_eq_false_iff_not] at hf'
        obtain ⟨⟨f1, f2⟩, f3⟩ := hf'
        have hpos : 0 < (s.length : Int) := by omega
        have b1 : (0 : Int) ≤ 0 := Int.le_refl 0
        have b2 : a + n ≤ 2000000 := by omega
        by_cases hm : fdV s (a + n) ≥ 0
        · obtain ⟨m1, m2⟩ := fd_sp hl p0 b2 hm
          have c3 := clr_app i3 m2
          have p3 : 0 ≤ a + n + 3 := by omega
          have b3 : a + n + 3 ≤ 2000000 := by omega
          by_cases hc : fdV s (a + n + 3) ≥ 0
          · obtain ⟨g1, g2⟩ := fd_sp hl p3 b3 hc
            have c6 := clr_app c3 g2
            cases hneg : (((s.getD (Int.toNat 0) 0).toNat : Int) == (45 : Int)) with
            | true =>
              refine ⟨(IntKind.wrap .i64 (0 - (IntKind.wrap .i64 ((IntKind.wrap .i64 ((IntKind.wrap .i64 (h * 3600)) + IntKind.wrap .i64 (60 * fdV s (a + n)))) + fdV s (a + n + 3)))), a + n + 3 + 3, true), fun _ => ⟨by show 0 ≤ a + n + 3 + 3; omega, g1, c6⟩, fun K hK => ?_⟩
              have key := Eq.mpr (g95_out s a n h K) (by rw [e0, e3, e6]; exact brn_Fa hf ⟨hl, p0, b2, brn_T (decide_eq_true hm) ⟨hl, p3, b3, brn_T (decide_eq_true hc) ⟨b1, hpos, brn_T hneg hK⟩⟩⟩)
              exact Eq.mp (by kernel_rfl) key
            | false =>
              refine ⟨((IntKind.wrap .i64 ((IntKind.wrap .i64 ((IntKind.wrap .i64 (h * 3600)) + IntKind.wrap .i64 (60 * fdV s (a + n)))) + fdV s (a + n + 3))), a + n + 3 + 3, true), fun _ => ⟨by show 0 ≤ a + n + 3 + 3; omega, g1, c6⟩, fun K hK => ?_⟩
              have key := Eq.mpr (g95_out s a n h K) (by rw [e0, e3, e6]; exact brn_Fa hf ⟨hl, p0, b2, brn_T (decide_eq_true hm) ⟨hl, p3, b3, brn_T (decide_eq_true hc) ⟨b1, hpos, brn_Fa hneg hK⟩⟩⟩)
              exact Eq.mp (by kernel_rfl) key
          · cases hneg : (((s.getD (Int.toNat 0) 0).toNat : Int) == (45 : Int)) with
            | true =>
              refine ⟨(IntKind.wrap .i64 (0 - (IntKind.wrap .i64 ((IntKind.wrap .i64 (h * 3600)) + IntKind.wrap .i64 (60 * fdV s (a + n))))), a + n + 3, true), fun _ => ⟨p3, m1, c3⟩, fun K hK => ?_⟩
              have key := Eq.mpr (g95_out s a n h K) (by rw [e0, e3]; exact brn_Fa hf ⟨hl, p0, b2, brn_T (decide_eq_true hm) ⟨hl, p3, b3, brn_Fa (decide_eq_false hc) ⟨b1, hpos, brn_T hneg hK⟩⟩⟩)
              exact Eq.mp (by kernel_rfl) key
            | false =>
              refine ⟨((IntKind.wrap .i64 ((IntKind.wrap .i64 (h * 3600)) + IntKind.wrap .i64 (60 * fdV s (a + n)))), a + n + 3, true), fun _ => ⟨p3, m1, c3⟩, fun K hK => ?_⟩
              have key := Eq.mpr (g95_out s a n h K) (by rw [e0, e3]; exact brn_Fa hf ⟨hl, p0, b2, brn_T (decide_eq_true hm) ⟨hl, p3, b3, brn_Fa (decide_eq_false hc) ⟨b1, hpos, brn_Fa hneg hK⟩⟩⟩)
              exact Eq.mp (by kernel_rfl) key
        · cases hneg : (((s.getD (Int.toNat 0) 0).toNat : Int) == (45 : Int)) with
          | true =>
            refine ⟨(IntKind.wrap .i64 (0 - (IntKind.wrap .i64 (h * 3600))), a + n, true), fun _ => ⟨p0, i2, i3⟩, fun K hK => ?_⟩
            have key := Eq.mpr (g95_out s a n h K) (by rw [e0]; exact brn_Fa hf ⟨hl, p0, b2, brn_Fa (decide_eq_false hm) ⟨b1, hpos, brn_T hneg hK⟩⟩)
            exact Eq.mp (by kernel_rfl) key
          | false =>
            refine ⟨((IntKind.wrap .i64 (h * 3600)), a + n, true), fun _ => ⟨p0, i2, i3⟩, fun K hK => ?_⟩
            have key := Eq.mpr (g95_out s a n h K) (by rw [e0]; exact brn_Fa hf ⟨hl, p0, b2, brn_Fa (decide_eq_false hm) ⟨b1, hpos, brn_Fa hneg hK⟩⟩)
            exact Eq.mp (by kernel_rfl) key
  have a3 : decide ((s.length : Int) > 0) = true → (((s.getD (Int.toNat 0) 0).toNat : Int) == (43 : Int)) = false → (0 : Int) ≤ 0 := fun _ _ => Int.le_refl 0
  have a4 : decide ((s.length : Int) > 0) = true → (((s.getD (Int.toNat 0) 0).toNat : Int) == (43 : Int)) = false → (0 : Int) < s.length := fun h _ => of_decide_eq_true h
  cases hs : (decide ((s.length : Int) > 0) && (((s.getD (Int.toNat 0) 0).toNat : Int) == (43 : Int) || ((s.getD (Int.toNat 0) 0).toNat : Int) == (45 : Int))) with
  | true =>
    have hb := (Bool.and_eq_true _ _).mp hs
    have hpos := a2 hb.1
    have hne : s.getD (Int.toNat 0) 0 ≠ 10 := fun e => by
      have h2 := hb.2
      rw [e] at h2
      exact absurd h2 (by decide)
    obtain ⟨v, hv, hk⟩ := loop 1 (by decide) (by decide) (by omega) (clr_step (Int.le_refl 0) (clr_nil s 0) hne)
    refine ⟨v, hv, fun K hK => ?_⟩
    rw [g95_in]
    refine ⟨a1, a2, a3, a4, brn_T hs ?_⟩
    unfold LoopI
    exact hk K hK q95 _ (by kernel_rfl)
  | false =>
    obtain ⟨v, hv, hk⟩ := loop 0 (by decide) (by decide) (by omega) (clr_nil s 0)
    refine ⟨v, hv, fun K hK => ?_⟩
    rw [g95_in]
    refine ⟨a1, a2, a3, a4, brn_Fa hs ?_⟩
    unfold LoopI
    exact hk K hK q95 _ (by kernel_rfl)
end Y27
set_option maxRecDepth 100000
namespace Y27
open Go Go.AE Go.Proofs E6
noncomputable section
def pnV (s : List UInt8) : List UInt8 × Int × Bool := Classical.epsilon fun v : List UInt8 × Int × Bool => (v.2.2 = true → cln s v.2.1 ∧ (v.1.length : Int) ≤ s.length) ∧ ∀ K : List AV → Prop, K [sx v.1, i64 v.2.1, bo v.2.2] → evSpec N17 Tryz.f93 [sx s] K
def hpV (s : List UInt8) : Int × Int × Bool := Classical.epsilon fun v : Int × Int × Bool => (v.2.2 = true → cln s v.2.1) ∧ ∀ K : List AV → Prop, K [i64 v.1, i64 v.2.1, bo v.2.2] → evSpec N18 Tryz.f95 [sx s] K
def rvV (s : List UInt8) (o : Int) (h : Bool) (t : List UInt8) (p a b c d e f a' b' c' d' e' f' : Int) : Bool :=
  bif !nvV s || !in9 o then false else bif !h then (decide (t = []) && p == 0 && (a == 0 && (b == 0 && (c == 0 && (d == 0 && (e == 0 && (f == 0 && true)))))) && (a' == 0 && (b' == 0 && (c' == 0 && (d' == 0 && (e' == 0 && (f' == 0 && true))))))) else nvV t && in9 p && vDay a b c d e f && vDay a' b' c' d' e' f'
def sPN : List AV → Option (List Prop × List AV)
  | [.imm (.str s)] => some ([(s.length : Int) ≤ 1000000], [.imm (.str (pnV s).1), i64 (pnV s).2.1, bo (pnV s).2.2])
  | _ => none
def sHP : List AV → Option (List Prop × List AV)
  | [.imm (.str s)] => some ([(s.length : Int) ≤ 1000000], [i64 (hpV s).1, i64 (hpV s).2.1, bo (hpV s).2.2])
  | _ => none
def sRV : List AV → Option (List Prop × List AV)
  | [.agg [.imm (.str s), .imm (.int .i64 o), .imm (.bool h), .imm (.str t), .imm (.int .i64 p), .imm (.int .i64 a), .imm (.int .i64 b), .imm (.int .i64 c), .imm (.int .i64 d), .imm (.int .i64 e), .imm (.int .i64 f), .imm (.int .i64 a'), .imm (.int .i64 b'), .imm (.int .i64 c'), .imm (.int .i64 d'), .imm (.int .i64 e'), .imm (.int .i64 f')]] =>
    some ([(s.length : Int) ≤ 1000000, (t.length : Int) ≤ 1000000], [bo (rvV s o h t p a b c d e f a' b' c' d' e' f')])
  | _ => none
def F32 := addE (addE (addE F31 93 sPN) 95 sHP) 98 sRV
def N20 : Cx := ⟨Tryz.prog, F32, noCall, G16, 4021⟩
end
attribute [local irreducible] loopK evCode evSpec loopB norm
theorem ok93e : ∀ args pres res, sPN args = some (pres, res) → SpecOK Tryz.prog G16 93 args pres res := by
  intro args pres res h
  unfold sPN at h
  split at h
  case h_2 => cases h
  cases h
  exact spec_ok (C := N17) okF31 noCall_ok Tryz.func93 (by kernel_rfl) (by kernel_rfl) (fun hp => (Classical.epsilon_spec (pn_ex _ (hp _ (by simp)))).2 _ rfl)
theorem ok95e : ∀ args pres res, sHP args = some (pres, res) → SpecOK Tryz.prog G16 95 args pres res := by
  intro args pres res h
  unfold sHP at h
  split at h
  case h_2 => cases h
  cases h
  exact spec_ok (C := N18) okF31 noCall_ok Tryz.func95 (by kernel_rfl) (by kernel_rfl) (fun hp => (Classical.epsilon_spec (hp_ex _ (hp _ (by simp)))).2 _ rfl)
theorem rv_ev (s : List UInt8) (o : Int) (h : Bool) (t : List UInt8) (p a b c d e f a' b' c' d' e' f' : Int) (h1 : (s.length : Int) ≤ 1000000) (h2 : (t.length : Int) ≤ 1000000) (K : List AV → Prop) (hK : K [bo (rvV s o h t p a b c d e f a' b' c' d' e' f')]) :
    evSpec N19 Tryz.f98 [.agg (ruC s o h t p (rdC a b c d e f) (rdC a' b' c' d' e' f'))] K := by
  rw [g98_in]
  refine ⟨h1, ?_⟩
  unfold rvV at hK
  cases hx : (!nvV s || !in9 o) with
  | true => rw [hx] at hK; exact brn_T rfl hK
  | false =>
    rw [hx, cond_false] at hK
    refine brn_Fa rfl ?_
    cases h with
    | false => exact brn_T rfl hK
    | true => exact brn_Fa rfl ⟨h2, hK⟩
theorem ok98e : ∀ args pres res, sRV args = some (pres, res) → SpecOK Tryz.prog G16 98 args pres res := by
  intro args pres res h
  unfold sRV at h
  split at h
  case h_2 => cases h
  cases h
  exact spec_ok (C := N19) okF31 noCall_ok Tryz.func98 (by kernel_rfl) (by kernel_rfl) (fun hp => rv_ev _ _ _ _ _ _ _ _ _ _ _ _ _ _ _ _ _ (hp _ (by simp)) (hp _ (by simp)) _ rfl)
theorem okF32 : EOK Tryz.prog F32 G16 := addE_ok (addE_ok (addE_ok okF31 ok93e) ok95e) ok98e
theorem pn_sp {s : List UInt8} (hl : (s.length : Int) ≤ 1000000) : (pnV s).2.2 = true → cln s (pnV s).2.1 ∧ ((pnV s).1.length : Int) ≤ s.length := (Classical.epsilon_spec (pn_ex s hl)).1
theorem hp_sp {s : List UInt8} (hl : (s.length : Int) ≤ 1000000) : (hpV s).2.2 = true → cln s (hpV s).2.1 := (Classical.epsilon_spec (hp_ex s hl)).1
end Y27
set_option maxRecDepth 100000
namespace Y27
open Go Go.AE Go.Proofs E6
structure Pd where
  (a b c d e f n : Int)
  ok : Bool
instance : Nonempty Pd := ⟨⟨0, 0, 0, 0, 0, 0, 0, false⟩⟩
noncomputable section
def pdV (s : List UInt8) : Pd := Classical.epsilon fun v : Pd => (v.ok = true → vDay v.a v.b v.c v.d v.e v.f = true ∧ cln s v.n) ∧ ∀ K : List AV → Prop, K [.agg (rdC v.a v.b v.c v.d v.e v.f), i64 v.n, bo v.ok] → evSpec N20 Tryz.f97 [sx s] K
def sPD : List AV → Option (List Prop × List AV)
  | [.imm (.str s)] => some ([(s.length : Int) ≤ 1000000], [.agg (rdC (pdV s).a (pdV s).b (pdV s).c (pdV s).d (pdV s).e (pdV s).f), i64 (pdV s).n, bo (pdV s).ok])
  | _ => none
def F33 := addE F32 97 sPD
def N21 : Cx := ⟨Tryz.prog, F33, noCall, G16, 4018⟩
def k67 (s nm : List UInt8) (o : Int) (t : List UInt8) (p at' k a b c d e f a' b' c' d' e' f' : Int) : St := ⟨spr [(0, sx s), (2, .ptr 0 0), (5, .ptr 1 0), (12, i64 at'), (14, i64 k)] 0 172, [(0, cells zRuC), (1, cells (ruC nm o true t p (rdC a b c d e f) (rdC a' b' c' d' e' f')))], 2, []⟩
def q67 : Plan := ⟨[], msk [0, 2, 5, 12, 14] 0 172, [0, 1]⟩
end
end Y27
set_option maxRecDepth 100000
namespace Y27
open Go Go.AE Go.Proofs E6
attribute [local irreducible] loopK evCode evSpec loopB norm
theorem g97_in (s : List UInt8) (K : List AV → Prop) : evSpec N20 Tryz.f97 [sx s] K = (let Q1 : Int × Int := (nuV s (1 : Int)); let Q2 : Int × Int × Bool := (hpV (List.take (s.length - (IntKind.wrap .i64 (Prod.snd Q1 + 1)).toNat) (List.drop (IntKind.wrap .i64 (Prod.snd Q1 + 1)).toNat s))); let Q3 : Int × Int := (nuV s (IntKind.wrap .i64 (Prod.snd Q1 + 1))); let Q4 : Int × Int := (nuV s (IntKind.wrap .i64 (Prod.snd Q3 + 1))); let Q5 : Int × Int × Bool := (hpV (List.take (s.length - (IntKind.wrap .i64 (Prod.snd Q4 + 1)).toNat) (List.drop (IntKind.wrap .i64 (Prod.snd Q4 + 1)).toNat s))); let Q6 : Int × Int := (nuV s (0 : Int)); let Q7 : Int × Int × Bool := (hpV (List.take (s.length - (IntKind.wrap .i64 (Prod.snd Q6 + 1)).toNat) (List.drop (IntKind.wrap .i64 (Prod.snd Q6 + 1)).toNat s))); let R1 : Prop := (K [.agg [i64 0, i64 0, i64 0, i64 0, i64 0, i64 0], i64 0, bo false]); (decide ((s.length : Int) > 0) = true → (0 : Int) ≤ 0) ∧ (decide ((s.length : Int) > 0) = true → (0 : Int) < (s.length : Int)) ∧ brn (decide ((s.length : Int) > 0) && (↑(UInt8.toNat (List.getD s (0 : Int).toNat (0 : UInt8))) : Int) == 74) ((s.length : Int) ≤ 1000000 ∧ (0 : Int) ≤ 1 ∧ (1 : Int) ≤ (s.length : Int) ∧
 ((decide (Prod.fst Q1 ≥ 0) && decide (Prod.snd Q1 < (s.length : Int))) = true → (0 : Int) ≤ Prod.snd Q1) ∧ ((decide (Prod.fst Q1 ≥ 0) && decide (Prod.snd Q1 < (s.length : Int))) = true → Prod.snd Q1 < (s.length : Int)) ∧ brn (decide (Prod.fst Q1 ≥ 0) && decide (Prod.snd Q1 < (s.length : Int)) && (↑(UInt8.toNat (List.getD s (Prod.snd Q1).toNat (0 : UInt8))) : Int) == 47) ((0 : Int) ≤ IntKind.wrap .i64 (Prod.snd Q1 + 1) ∧ IntKind.wrap .i64 (Prod.snd Q1 + 1) ≤ (s.length : Int) ∧ (↑(List.take (s.length - (IntKind.wrap .i64 (Prod.snd Q1 + 1)).toNat) (List.drop (IntKind.wrap .i64 (Prod.snd Q1 + 1)).toNat s)).length : Int) ≤ 1000000 ∧ brn (!(Prod.snd Q2).2 || !vDay (1 : Int) (Prod.fst Q1) (0 : Int) (0 : Int) (0 : Int) (Prod.fst Q2)) R1 (K [.agg [i64 1, i64 (Prod.fst Q1), i64 0, i64 0, i64 0, i64 (Prod.fst Q2)], i64 (IntKind.wrap .i64 (IntKind.wrap .i64 (Prod.snd Q1 + 1) + (Prod.snd Q2).1)), bo true])) (brn (!decide (Prod.fst Q1 ≥ 0) || !vDay (1 : Int) (Prod.fst Q1) (0 : Int) (0 : Int) (0 : Int) (7200 : Int)) R1 (K [.agg [i64 1, i64 (Prod.fst Q1), i64 0, i64 0, i64 0, i64 7200], i64 (Prod.snd Q1), bo true]))) ((decide ((s.length : Int) > 0) = true → (0 : Int) ≤ 0) ∧ (decide ((s.length :
 Int) > 0) = true → (0 : Int) < (s.length : Int)) ∧ brn (decide ((s.length : Int) > 0) && (↑(UInt8.toNat (List.getD s (0 : Int).toNat (0 : UInt8))) : Int) == 77) ((s.length : Int) ≤ 1000000 ∧ (0 : Int) ≤ 1 ∧ (1 : Int) ≤ (s.length : Int) ∧ ((decide (Prod.fst Q1 < 0) || decide (Prod.snd Q1 ≥ (s.length : Int))) = false → (0 : Int) ≤ Prod.snd Q1) ∧ ((decide (Prod.fst Q1 < 0) || decide (Prod.snd Q1 ≥ (s.length : Int))) = false → Prod.snd Q1 < (s.length : Int)) ∧ brn (decide (Prod.fst Q1 < 0) || decide (Prod.snd Q1 ≥ (s.length : Int)) || (↑(UInt8.toNat (List.getD s (Prod.snd Q1).toNat (0 : UInt8))) : Int) != 46) R1 ((s.length : Int) ≤ 1000000 ∧ (0 : Int) ≤ IntKind.wrap .i64 (Prod.snd Q1 + 1) ∧ IntKind.wrap .i64 (Prod.snd Q1 + 1) ≤ (s.length : Int) ∧ ((decide (Prod.fst Q3 < 0) || decide (Prod.snd Q3 ≥ (s.length : Int))) = false → (0 : Int) ≤ Prod.snd Q3) ∧ ((decide (Prod.fst Q3 < 0) || decide (Prod.snd Q3 ≥ (s.length : Int))) = false → Prod.snd Q3 < (s.length : Int)) ∧ brn (decide (Prod.fst Q3 < 0) || decide (Prod.snd Q3 ≥ (s.length : Int)) || (↑(UInt8.toNat (List.getD s (Prod.snd Q3).toNat (0 : UInt8))) : Int) != 46) R1 ((s.length : Int) ≤ 1000000 ∧ (0 : Int) ≤ IntKind.wrap .i64 (Prod.snd
 Q3 + 1) ∧ IntKind.wrap .i64 (Prod.snd Q3 + 1) ≤ (s.length : Int) ∧ ((decide (Prod.fst Q4 ≥ 0) && decide (Prod.snd Q4 < (s.length : Int))) = true → (0 : Int) ≤ Prod.snd Q4) ∧ ((decide (Prod.fst Q4 ≥ 0) && decide (Prod.snd Q4 < (s.length : Int))) = true → Prod.snd Q4 < (s.length : Int)) ∧ brn (decide (Prod.fst Q4 ≥ 0) && decide (Prod.snd Q4 < (s.length : Int)) && (↑(UInt8.toNat (List.getD s (Prod.snd Q4).toNat (0 : UInt8))) : Int) == 47) ((0 : Int) ≤ IntKind.wrap .i64 (Prod.snd Q4 + 1) ∧ IntKind.wrap .i64 (Prod.snd Q4 + 1) ≤ (s.length : Int) ∧ (↑(List.take (s.length - (IntKind.wrap .i64 (Prod.snd Q4 + 1)).toNat) (List.drop (IntKind.wrap .i64 (Prod.snd Q4 + 1)).toNat s)).length : Int) ≤ 1000000 ∧ brn (!(Prod.snd Q5).2 || !vDay (3 : Int) (0 : Int) (Prod.fst Q1) (Prod.fst Q3) (Prod.fst Q4) (Prod.fst Q5)) R1 (K [.agg [i64 3, i64 0, i64 (Prod.fst Q1), i64 (Prod.fst Q3), i64 (Prod.fst Q4), i64 (Prod.fst Q5)], i64 (IntKind.wrap .i64 (IntKind.wrap .i64 (Prod.snd Q4 + 1) + (Prod.snd Q5).1)), bo true])) (brn (!decide (Prod.fst Q4 ≥ 0) || !vDay (3 : Int) (0 : Int) (Prod.fst Q1) (Prod.fst Q3) (Prod.fst Q4) (7200 : Int)) R1 (K [.agg [i64 3, i64 0, i64 (Prod.fst Q1), i64 (Prod.fst Q3), i64
 (Prod.fst Q4), i64 7200], i64 (Prod.snd Q4), bo true]))))) ((s.length : Int) ≤ 1000000 ∧ (0 : Int) ≤ 0 ∧ (0 : Int) ≤ (s.length : Int) ∧ ((decide (Prod.fst Q6 ≥ 0) && decide (Prod.snd Q6 < (s.length : Int))) = true → (0 : Int) ≤ Prod.snd Q6) ∧ ((decide (Prod.fst Q6 ≥ 0) && decide (Prod.snd Q6 < (s.length : Int))) = true → Prod.snd Q6 < (s.length : Int)) ∧ brn (decide (Prod.fst Q6 ≥ 0) && decide (Prod.snd Q6 < (s.length : Int)) && (↑(UInt8.toNat (List.getD s (Prod.snd Q6).toNat (0 : UInt8))) : Int) == 47) ((0 : Int) ≤ IntKind.wrap .i64 (Prod.snd Q6 + 1) ∧ IntKind.wrap .i64 (Prod.snd Q6 + 1) ≤ (s.length : Int) ∧ (↑(List.take (s.length - (IntKind.wrap .i64 (Prod.snd Q6 + 1)).toNat) (List.drop (IntKind.wrap .i64 (Prod.snd Q6 + 1)).toNat s)).length : Int) ≤ 1000000 ∧ brn (!(Prod.snd Q7).2 || !vDay (2 : Int) (Prod.fst Q6) (0 : Int) (0 : Int) (0 : Int) (Prod.fst Q7)) R1 (K [.agg [i64 2, i64 (Prod.fst Q6), i64 0, i64 0, i64 0, i64 (Prod.fst Q7)], i64 (IntKind.wrap .i64 (IntKind.wrap .i64 (Prod.snd Q6 + 1) + (Prod.snd Q7).1)), bo true])) (brn (!decide (Prod.fst Q6 ≥ 0) || !vDay (2 : Int) (Prod.fst Q6) (0 : Int) (0 : Int) (0 : Int) (7200 : Int)) R1 (K [.agg [i64 2, i64 (Prod.fst Q6), i64 0,
 i64 0, i64 0, i64 7200], i64 (Prod.snd Q6), bo true]))))) := by kernel_rfl
theorem g67_in (s : List UInt8) (K : List AV → Prop) (Q1 : List UInt8 × Int × Bool) (hQ1 : Q1 = (pnV s)) (Q2 : Int × Int × Bool) (hQ2 : Q2 = (hpV (List.take (s.length - (Prod.snd Q1).1.toNat) (List.drop (Prod.snd Q1).1.toNat s)))) (Q3 : List UInt8 × Int × Bool) (hQ3 : Q3 = (pnV (List.take (s.length - (IntKind.wrap .i64 ((Prod.snd Q1).1 + (Prod.snd Q2).1)).toNat) (List.drop (IntKind.wrap .i64 ((Prod.snd Q1).1 + (Prod.snd Q2).1)).toNat s)))) (Q4 : Int × Int × Bool) (hQ4 : Q4 = (hpV (List.take (s.length - (IntKind.wrap .i64 (IntKind.wrap .i64 ((Prod.snd Q1).1 + (Prod.snd Q2).1) + (Prod.snd Q3).1)).toNat) (List.drop (IntKind.wrap .i64 (IntKind.wrap .i64 ((Prod.snd Q1).1 + (Prod.snd Q2).1) + (Prod.snd Q3).1)).toNat s)))) : evSpec N21 Tryz.f67 [sx s] K = ( (s.length : Int) ≤ 1000000 ∧ brn (!(Prod.snd Q1).2) (K [.agg [.imm (.str []), i64 0, bo false, .imm (.str []), i64 0, i64 0, i64 0, i64 0, i64 0, i64 0, i64 0, i64 0, i64 0, i64 0, i64 0, i64 0, i64 0], i64 14, i64 0]) ((0 : Int) ≤ (Prod.snd Q1).1 ∧ (Prod.snd Q1).1 ≤ (s.length : Int) ∧ (↑(List.take (s.length - (Prod.snd Q1).1.toNat) (List.drop (Prod.snd Q1).1.toNat s)).length : Int) ≤ 1000000 ∧ brn (!(Prod.snd Q2).2 || !in9 (Prod.fst
 Q2)) (K [.agg [.imm (.str []), i64 0, bo false, .imm (.str []), i64 0, i64 0, i64 0, i64 0, i64 0, i64 0, i64 0, i64 0, i64 0, i64 0, i64 0, i64 0, i64 0], i64 14, i64 ((Prod.snd Q1).1)]) (brn (IntKind.wrap .i64 ((Prod.snd Q1).1 + (Prod.snd Q2).1) == (s.length : Int)) (K [.agg [.imm (.str (Prod.fst Q1)), i64 (IntKind.wrap .i64 ((0 : Int) - Prod.fst Q2)), bo false, .imm (.str []), i64 0, i64 0, i64 0, i64 0, i64 0, i64 0, i64 0, i64 0, i64 0, i64 0, i64 0, i64 0, i64 0], i64 0, i64 0]) ((0 : Int) ≤ IntKind.wrap .i64 ((Prod.snd Q1).1 + (Prod.snd Q2).1) ∧ IntKind.wrap .i64 ((Prod.snd Q1).1 + (Prod.snd Q2).1) ≤ (s.length : Int) ∧ (↑(List.take (s.length - (IntKind.wrap .i64 ((Prod.snd Q1).1 + (Prod.snd Q2).1)).toNat) (List.drop (IntKind.wrap .i64 ((Prod.snd Q1).1 + (Prod.snd Q2).1)).toNat s)).length : Int) ≤ 1000000 ∧ brn (!(Prod.snd Q3).2) (K [.agg [.imm (.str []), i64 0, bo false, .imm (.str []), i64 0, i64 0, i64 0, i64 0, i64 0, i64 0, i64 0, i64 0, i64 0, i64 0, i64 0, i64 0, i64 0], i64 14, i64 (IntKind.wrap .i64 ((Prod.snd Q1).1 + (Prod.snd Q2).1))]) ((0 : Int) ≤ IntKind.wrap .i64 (IntKind.wrap .i64 ((Prod.snd Q1).1 + (Prod.snd Q2).1) + (Prod.snd Q3).1) ∧ IntKind.wrap .i64
 (IntKind.wrap .i64 ((Prod.snd Q1).1 + (Prod.snd Q2).1) + (Prod.snd Q3).1) ≤ (s.length : Int) ∧ (↑(List.take (s.length - (IntKind.wrap .i64 (IntKind.wrap .i64 ((Prod.snd Q1).1 + (Prod.snd Q2).1) + (Prod.snd Q3).1)).toNat) (List.drop (IntKind.wrap .i64 (IntKind.wrap .i64 ((Prod.snd Q1).1 + (Prod.snd Q2).1) + (Prod.snd Q3).1)).toNat s)).length : Int) ≤ 1000000 ∧ brn (Prod.snd Q4).2 (brn (!in9 (Prod.fst Q4)) (K [.agg [.imm (.str []), i64 0, bo false, .imm (.str []), i64 0, i64 0, i64 0, i64 0, i64 0, i64 0, i64 0, i64 0, i64 0, i64 0, i64 0, i64 0, i64 0], i64 14, i64 (IntKind.wrap .i64 (IntKind.wrap .i64 ((Prod.snd Q1).1 + (Prod.snd Q2).1) + (Prod.snd Q3).1))]) (LoopI N21 (bodyOf Tryz.f67) 0 (St.mk (lapp [.imm (.str s), .dead, .ptr 0 0, i64 0, i64 0, .ptr 1 0, .imm (.str (Prod.fst Q1)), i64 ((Prod.snd Q3).1), bo ((Prod.snd Q3).2), i64 (Prod.fst Q4), i64 ((Prod.snd Q4).1), bo ((Prod.snd Q4).2), i64 (IntKind.wrap .i64 (IntKind.wrap .i64 (IntKind.wrap .i64 ((Prod.snd Q1).1 + (Prod.snd Q2).1) + (Prod.snd Q3).1) + (Prod.snd Q4).1)), .imm (.str (Prod.fst Q3)), i64 0] (dN 157)) [(0, Ob.mk true 0 (AObj.cells [.imm (.str []), i64 0, bo false, .imm (.str []), i64 0, i64 0, i64 0, i64 0, i64 0,
 i64 0, i64 0, i64 0, i64 0, i64 0, i64 0, i64 0, i64 0])), (1, Ob.mk true 0 (AObj.cells [.imm (.str (Prod.fst Q1)), i64 (IntKind.wrap .i64 ((0 : Int) - Prod.fst Q2)), bo true, .imm (.str (Prod.fst Q3)), i64 (IntKind.wrap .i64 ((0 : Int) - Prod.fst Q4)), i64 0, i64 0, i64 0, i64 0, i64 0, i64 0, i64 0, i64 0, i64 0, i64 0, i64 0, i64 0]))] 2 []) (finK N21 Tryz.f67 K))) (LoopI N21 (bodyOf Tryz.f67) 0 (St.mk (lapp [.imm (.str s), .dead, .ptr 0 0, i64 0, i64 0, .ptr 1 0, .imm (.str (Prod.fst Q1)), i64 ((Prod.snd Q3).1), bo ((Prod.snd Q3).2), i64 (Prod.fst Q4), i64 ((Prod.snd Q4).1), bo ((Prod.snd Q4).2), i64 (IntKind.wrap .i64 (IntKind.wrap .i64 ((Prod.snd Q1).1 + (Prod.snd Q2).1) + (Prod.snd Q3).1)), .imm (.str (Prod.fst Q3)), i64 0] (dN 157)) [(0, Ob.mk true 0 (AObj.cells [.imm (.str []), i64 0, bo false, .imm (.str []), i64 0, i64 0, i64 0, i64 0, i64 0, i64 0, i64 0, i64 0, i64 0, i64 0, i64 0, i64 0, i64 0])), (1, Ob.mk true 0 (AObj.cells [.imm (.str (Prod.fst Q1)), i64 (IntKind.wrap .i64 ((0 : Int) - Prod.fst Q2)), bo true, .imm (.str (Prod.fst Q3)), i64 (IntKind.wrap .i64 (IntKind.wrap .i64 ((0 : Int) - Prod.fst Q2) + 3600)), i64 0, i64 0, i64 0, i64 0, i64 0, i64 0, i64 0, i64
 0, i64 0, i64 0, i64 0, i64 0]))] 2 []) (finK N21 Tryz.f67 K))))))) := by subst hQ4; subst hQ3; subst hQ2; subst hQ1; kernel_rfl
theorem g67_lp (s : List UInt8) (nm : List UInt8) (o : Int) (t : List UInt8) (p : Int) (at' : Int) (n : Int) (a : Int) (b : Int) (c : Int) (d : Int) (e : Int) (f : Int) (a' : Int) (b' : Int) (c' : Int) (d' : Int) (e' : Int) (f' : Int) (k : AX → St → Prop) (Q1 : Pd) (hQ1 : Q1 = (pdV (List.take (s.length - (IntKind.wrap .i64 (at' + 1)).toNat) (List.drop (IntKind.wrap .i64 (at' + 1)).toNat s)))) : evCode N21 (loopB (bodyOf Tryz.f67) 0) (k67 s nm o t p at' n a b c d e f a' b' c' d' e' f') k = ( brn (decide (n < 2)) ((decide (at' ≥ (s.length : Int)) = false → (0 : Int) ≤ at') ∧ (decide (at' ≥ (s.length : Int)) = false → at' < (s.length : Int)) ∧ brn (decide (at' ≥ (s.length : Int)) || (↑(UInt8.toNat (List.getD s (Int.toNat at') (0 : UInt8))) : Int) != 44) (k AX.ret (St.mk (lapp [.imm (.str s), .dead, .ptr 0 0, i64 14, i64 at', .ptr 1 0] (lapp (dN 6) (lapp [i64 at', .dead, i64 n] (lapp (dN 110) (lapp [i64 at', .tup [.agg [.imm (.str []), i64 0, bo false, .imm (.str []), i64 0, i64 0, i64 0, i64 0, i64 0, i64 0, i64 0, i64 0, i64 0, i64 0, i64 0, i64 0, i64 0], i64 14, i64 at'], .agg [.imm (.str []), i64 0, bo false, .imm (.str []), i64 0, i64 0, i64 0, i64 0, i64 0, i64 0, i64 0, i64 0,
 i64 0, i64 0, i64 0, i64 0, i64 0], i64 14, i64 at'] (dN 42)))))) [(0, Ob.mk true 0 (AObj.cells [.imm (.str []), i64 0, bo false, .imm (.str []), i64 0, i64 0, i64 0, i64 0, i64 0, i64 0, i64 0, i64 0, i64 0, i64 0, i64 0, i64 0, i64 0])), (1, Ob.mk true 0 (AObj.cells [.imm (.str nm), i64 o, bo true, .imm (.str t), i64 p, i64 a, i64 b, i64 c, i64 d, i64 e, i64 f, i64 a', i64 b', i64 c', i64 d', i64 e', i64 f']))] 2 [])) ((0 : Int) ≤ IntKind.wrap .i64 (at' + 1) ∧ IntKind.wrap .i64 (at' + 1) ≤ (s.length : Int) ∧ (↑(List.take (s.length - (IntKind.wrap .i64 (at' + 1)).toNat) (List.drop (IntKind.wrap .i64 (at' + 1)).toNat s)).length : Int) ≤ 1000000 ∧ brn (!Pd.ok Q1) (k AX.ret (St.mk (lapp [.imm (.str s), .dead, .ptr 0 0, i64 14, i64 (IntKind.wrap .i64 (at' + 1)), .ptr 1 0] (lapp (dN 6) (lapp [i64 at', .dead, i64 n, .ptr 2 0, i64 (Pd.n Q1), bo (Pd.ok Q1)] (lapp (dN 123) (lapp [i64 at', i64 (IntKind.wrap .i64 (at' + 1)), .tup [.agg [.imm (.str []), i64 0, bo false, .imm (.str []), i64 0, i64 0, i64 0, i64 0, i64 0, i64 0, i64 0, i64 0, i64 0, i64 0, i64 0, i64 0, i64 0], i64 14, i64 (IntKind.wrap .i64 (at' + 1))], .agg [.imm (.str []), i64 0, bo false, .imm (.str []), i64 0, i64 0, i64 0,
 i64 0, i64 0, i64 0, i64 0, i64 0, i64 0, i64 0, i64 0, i64 0, i64 0], i64 14, i64 (IntKind.wrap .i64 (at' + 1))] (dN 25)))))) [(0, Ob.mk true 0 (AObj.cells [.imm (.str []), i64 0, bo false, .imm (.str []), i64 0, i64 0, i64 0, i64 0, i64 0, i64 0, i64 0, i64 0, i64 0, i64 0, i64 0, i64 0, i64 0])), (1, Ob.mk true 0 (AObj.cells [.imm (.str nm), i64 o, bo true, .imm (.str t), i64 p, i64 a, i64 b, i64 c, i64 d, i64 e, i64 f, i64 a', i64 b', i64 c', i64 d', i64 e', i64 f'])), (2, Ob.mk true 0 (AObj.cells [i64 (Pd.a Q1), i64 (Pd.b Q1), i64 (Pd.c Q1), i64 (Pd.d Q1), i64 (Pd.e Q1), i64 (Pd.f Q1)]))] 3 [])) (brn (n == 0) (k AX.normal (St.mk (lapp [.imm (.str s), .dead, .ptr 0 0, .dead, .dead, .ptr 1 0] (lapp (dN 6) (lapp [i64 (IntKind.wrap .i64 (IntKind.wrap .i64 (at' + 1) + Pd.n Q1)), .dead, i64 (IntKind.wrap .i64 (n + 1)), .ptr 2 0, i64 (Pd.n Q1), bo (Pd.ok Q1)] (lapp (dN 95) (lapp [i64 n, i64 (IntKind.wrap .i64 (n + 1))] (dN 57)))))) [(0, Ob.mk true 0 (AObj.cells [.imm (.str []), i64 0, bo false, .imm (.str []), i64 0, i64 0, i64 0, i64 0, i64 0, i64 0, i64 0, i64 0, i64 0, i64 0, i64 0, i64 0, i64 0])), (1, Ob.mk true 0 (AObj.cells [.imm (.str nm), i64 o, bo true, .imm (.str t), i64 p,
 i64 (Pd.a Q1), i64 (Pd.b Q1), i64 (Pd.c Q1), i64 (Pd.d Q1), i64 (Pd.e Q1), i64 (Pd.f Q1), i64 a', i64 b', i64 c', i64 d', i64 e', i64 f'])), (2, Ob.mk true 0 (AObj.cells [i64 (Pd.a Q1), i64 (Pd.b Q1), i64 (Pd.c Q1), i64 (Pd.d Q1), i64 (Pd.e Q1), i64 (Pd.f Q1)]))] 3 [])) (k AX.normal (St.mk (lapp [.imm (.str s), .dead, .ptr 0 0, .dead, .dead, .ptr 1 0] (lapp (dN 6) (lapp [i64 (IntKind.wrap .i64 (IntKind.wrap .i64 (at' + 1) + Pd.n Q1)), .dead, i64 (IntKind.wrap .i64 (n + 1)), .ptr 2 0, i64 (Pd.n Q1), bo (Pd.ok Q1)] (lapp (dN 95) (lapp [i64 n, i64 (IntKind.wrap .i64 (n + 1))] (dN 57)))))) [(0, Ob.mk true 0 (AObj.cells [.imm (.str []), i64 0, bo false, .imm (.str []), i64 0, i64 0, i64 0, i64 0, i64 0, i64 0, i64 0, i64 0, i64 0, i64 0, i64 0, i64 0, i64 0])), (1, Ob.mk true 0 (AObj.cells [.imm (.str nm), i64 o, bo true, .imm (.str t), i64 p, i64 a, i64 b, i64 c, i64 d, i64 e, i64 f, i64 (Pd.a Q1), i64 (Pd.b Q1), i64 (Pd.c Q1), i64 (Pd.d Q1), i64 (Pd.e Q1), i64 (Pd.f Q1)])), (2, Ob.mk true 0 (AObj.cells [i64 (Pd.a Q1), i64 (Pd.b Q1), i64 (Pd.c Q1), i64 (Pd.d Q1), i64 (Pd.e Q1), i64 (Pd.f Q1)]))] 3 []))))) (k (AX.exit 0) (St.mk (lapp [.imm (.str s), .dead, .ptr 0 0, .dead, .dead, .ptr 1
 0] (lapp (dN 6) (lapp [i64 at', .dead, i64 n] (lapp (dN 96) (lapp [i64 n, bo (decide (n < 2))] (dN 59)))))) [(0, Ob.mk true 0 (AObj.cells [.imm (.str []), i64 0, bo false, .imm (.str []), i64 0, i64 0, i64 0, i64 0, i64 0, i64 0, i64 0, i64 0, i64 0, i64 0, i64 0, i64 0, i64 0])), (1, Ob.mk true 0 (AObj.cells [.imm (.str nm), i64 o, bo true, .imm (.str t), i64 p, i64 a, i64 b, i64 c, i64 d, i64 e, i64 f, i64 a', i64 b', i64 c', i64 d', i64 e', i64 f']))] 2 []))) := by subst hQ1; kernel_rfl
theorem g67_out (s : List UInt8) (nm : List UInt8) (o : Int) (t : List UInt8) (p : Int) (at' : Int) (n : Int) (a : Int) (b : Int) (c : Int) (d : Int) (e : Int) (f : Int) (a' : Int) (b' : Int) (c' : Int) (d' : Int) (e' : Int) (f' : Int) (K : List AV → Prop) : loopK N21 (bodyOf Tryz.f67) 0 (finK N21 Tryz.f67 K) (AX.exit 0) (St.mk (let y := let y := let y := let y := let y := [.dead, .dead, .dead, .dead, .dead, .dead]; AV.dead :: AV.dead :: AV.dead :: AV.dead :: AV.dead :: y; let y := AV.dead :: AV.dead :: AV.dead :: AV.dead :: AV.dead :: AV.dead :: y; AV.dead :: AV.dead :: AV.dead :: AV.dead :: AV.dead :: y; let y := let y := AV.dead :: AV.dead :: AV.dead :: AV.dead :: AV.dead :: AV.dead :: y; AV.dead :: AV.dead :: AV.dead :: AV.dead :: AV.dead :: y; let y := AV.dead :: AV.dead :: AV.dead :: AV.dead :: AV.dead :: y; AV.dead :: AV.dead :: AV.dead :: AV.dead :: AV.dead :: y; let y := let y := let y := AV.dead :: AV.dead :: AV.dead :: AV.dead :: AV.dead :: AV.dead :: y; AV.dead :: AV.dead :: AV.dead :: AV.dead :: AV.dead :: y; let y := bo (decide (n < 2)) :: AV.dead :: AV.dead :: AV.dead :: AV.dead :: AV.dead :: y; AV.dead :: AV.dead :: AV.dead :: AV.dead :: i64 n :: y; let y := let y := AV.dead :: AV.dead :: AV.dead :: AV.dead :: AV.dead :: AV.dead :: y; AV.dead :: AV.dead :: AV.dead :: AV.dead :: AV.dead :: y; let y := AV.dead :: AV.dead :: AV.dead :: AV.dead :: AV.dead :: y; AV.dead :: AV.dead :: AV.dead :: AV.dead :: AV.dead :: y; let y := let y := let y := let y := AV.dead :: AV.dead :: AV.dead :: AV.dead :: AV.dead :: AV.dead :: y; AV.dead :: AV.dead :: AV.dead :: AV.dead :: AV.dead :: y; let y := AV.dead :: AV.dead :: AV.dead :: AV.dead :: AV.dead :: AV.dead :: y; AV.dead :: AV.dead :: AV.dead :: AV.dead :: AV.dead :: y; let y := let y := AV.dead :: AV.dead :: AV.dead :: AV.dead :: AV.dead :: AV.dead :: y; AV.dead :: AV.dead :: AV.dead :: AV.dead :: AV.dead :: y; let y := AV.dead :: AV.dead :: AV.dead :: AV.dead :: AV.dead :: y; AV.dead :: AV.dead :: AV.dead :: AV.dead :: AV.dead :: y; let y := let y := let y := AV.dead :: AV.dead :: AV.dead :: AV.dead :: AV.dead :: AV.dead :: y; AV.dead :: AV.dead :: AV.dead :: AV.dead :: AV.dead :: y; let y := AV.dead :: AV.dead :: AV.dead :: AV.dead :: AV.dead :: AV.dead :: y; AV.dead :: AV.dead :: AV.dead :: AV.dead :: AV.dead :: y; let y := let y := AV.dead :: AV.dead :: AV.dead :: AV.dead :: AV.dead :: AV.dead :: y; AV.dead :: AV.dead :: i64 at' :: AV.dead :: i64 n :: y; let y := AV.ptr 1 0 :: AV.dead :: AV.dead :: AV.dead :: AV.dead :: y; AV.imm (.str s) :: AV.dead :: AV.ptr 0 0 :: AV.dead :: AV.dead :: y) [(0, Ob.mk true 0 (AObj.cells [.imm (.str []), i64 0, bo false, .imm (.str []), i64 0, i64 0, i64 0, i64 0, i64 0, i64 0, i64 0, i64 0, i64 0, i64 0, i64 0, i64 0, i64 0])), (1, Ob.mk true 0 (AObj.cells [.imm (.str nm), i64 o, bo true, .imm (.str t), i64 p, i64 a, i64 b, i64 c, i64 d, i64 e, i64 f, i64 a', i64 b', i64 c', i64 d', i64 e', i64 f']))] 2 []) = (((at' != (s.length : Int)) = false → (↑(List.length nm) : Int) ≤ 1000000) ∧ ((at' != (s.length : Int)) = false → (t.length : Int) ≤ 1000000) ∧ brn (at' != (s.length : Int) || !rvV nm o true t p a b c d e f a' b' c' d' e' f') (K [.agg [.imm (.str []), i64 0, bo false, .imm (.str []), i64 0, i64 0, i64 0, i64 0, i64 0, i64 0, i64 0, i64 0, i64 0, i64 0, i64 0, i64 0, i64 0], i64 14, i64 at']) (K [.agg [.imm (.str nm), i64 o, bo true, .imm (.str t), i64 p, i64 a, i64 b, i64 c, i64 d, i64 e, i64 f, i64 a', i64 b', i64 c', i64 d', i64 e', i64 f'], i64 0, i64 0])) := by kernel_rfl
end Y27
set_option maxRecDepth 100000
namespace Y27
open Go Go.AE Go.Proofs E6
attribute [local irreducible] loopK evCode evSpec loopB norm
theorem cln_part {s : List UInt8} {k m : Int} (k0 : 0 ≤ k) (k1 : k ≤ s.length) (h : cln ((s.drop k.toNat).take (s.length - k.toNat)) m) : 0 ≤ m ∧ k + m ≤ s.length ∧ clr s k (k + m) := by
  have e : (s.drop k.toNat).take (s.length - k.toNat) = s.drop k.toNat := List.take_of_length_le (by rw [List.length_drop]; exact Nat.le_refl _)
  rw [e] at h
  obtain ⟨h1, h2, h3⟩ := h
  rw [List.length_drop] at h2
  exact ⟨h1, by omega, clr_drop k0 h3⟩
theorem part_len {s : List UInt8} {k : Nat} (hl : (s.length : Int) ≤ 1000000) : ((((s.drop k).take (s.length - k)).length : Nat) : Int) ≤ 1000000 := by
  rw [List.length_take, List.length_drop]; omega
theorem fin97 (s : List UInt8) (hl : (s.length : Int) ≤ 1000000) (Q : Int × Int) (hq : 0 ≤ Q.2 ∧ Q.2 ≤ s.length ∧ clr s 0 Q.2) (a b c d e : Int) (H : Int × Int × Bool)
    (hH : H = hpV (List.take (s.length - Int.toNat (IntKind.wrap .i64 (Q.2 + 1))) (List.drop (Int.toNat (IntKind.wrap .i64 (Q.2 + 1))) s))) :
    ∃ v : Pd, (v.ok = true → vDay v.a v.b v.c v.d v.e v.f = true ∧ cln s v.n) ∧ ∀ K : List AV → Prop, K [.agg (rdC v.a v.b v.c v.d v.e v.f), i64 v.n, bo v.ok] →
      ((decide (Q.1 ≥ 0) && decide (Q.2 < (s.length : Int))) = true → 0 ≤ Q.2) ∧ ((decide (Q.1 ≥ 0) && decide (Q.2 < (s.length : Int))) = true → Q.2 < (s.length : Int)) ∧
      brn (decide (Q.1 ≥ 0) && decide (Q.2 < (s.length : Int)) && ((s.getD Q.2.toNat 0).toNat : Int) == 47)
        (0 ≤ IntKind.wrap .i64 (Q.2 + 1) ∧ IntKind.wrap .i64 (Q.2 + 1) ≤ (s.length : Int) ∧ ((List.take (s.length - Int.toNat (IntKind.wrap .i64 (Q.2 + 1))) (List.drop (Int.toNat (IntKind.wrap .i64 (Q.2 + 1))) s)).length : Int) ≤ 1000000 ∧
          brn (!H.2.2 || !vDay a b c d e H.1) (K [.agg (rdC 0 0 0 0 0 0), i64 0, bo false]) (K [.agg (rdC a b c d e H.1), i64 (IntKind.wrap .i64 (IntKind.wrap .i64 (Q.2 + 1) + H.2.1)), bo true]))
        (brn (!decide (Q.1 ≥ 0) || !vDay a b c d e 7200) (K [.agg (rdC 0 0 0 0 0 0), i64 0, bo false]) (K [.agg (rdC a b c d e 7200), i64 Q.2, bo true])) := by
  obtain ⟨q0, q1, q2⟩ := hq
  have e1 : IntKind.wrap .i64 (Q.2 + 1) = Q.2 + 1 := w1 q0 (by omega)
  have c1 : (decide (Q.1 ≥ 0) && decide (Q.2 < (s.length : Int))) = true → 0 ≤ Q.2 := fun _ => q0
  have c2 : (decide (Q.1 ≥ 0) && decide (Q.2 < (s.length : Int))) = true → Q.2 < (s.length : Int) := fun h => of_decide_eq_true ((Bool.and_eq_true _ _).mp h).2
  rw [e1] at hH ⊢
  cases hx : (decide (Q.1 ≥ 0) && decide (Q.2 < (s.length : Int)) && ((s.getD Q.2.toNat 0).toNat : Int) == 47) with
  | true =>
    have hb := (Bool.and_eq_true _ _).mp hx
    have hlt := c2 hb.1
    have h47 : ((s.getD Q.2.toNat 0).toNat : Int) = 47 := eq_of_beq hb.2
    have hc := clr_step q0 q2 (byte_ne (by omega))
    have p0 : 0 ≤ Q.2 + 1 := by omega
    have p1 : Q.2 + 1 ≤ s.length := by omega
    cases hy : (!H.2.2 || !vDay a b c d e H.1) with
    | true => exact ⟨⟨0, 0, 0, 0, 0, 0, 0, false⟩, fun h => (by cases h), fun K hK => ⟨c1, c2, brn_T rfl ⟨p0, p1, part_len hl, brn_T rfl hK⟩⟩⟩
    | false =>
      have hy' := hy
      simp only [Bool.or_eq_false_iff, Bool.not_eq_false'] at hy'
      obtain ⟨y1, y2⟩ := hy'
      have hcl := hp_sp (part_len (s := s) (k := (Q.2 + 1).toNat) hl) (by rw [← hH]; exact y1)
      rw [← hH] at hcl
      obtain ⟨m0, m1, m2⟩ := cln_part p0 p1 hcl
      have ew : IntKind.wrap .i64 (Q.2 + 1 + H.2.1) = Q.2 + 1 + H.2.1 := wrap64 (by omega) (by omega)
      rw [ew]
      exact ⟨⟨a, b, c, d, e, H.1, Q.2 + 1 + H.2.1, true⟩, fun _ => ⟨y2, by show 0 ≤ Q.2 + 1 + H.2.1; omega, m1, clr_app hc m2⟩, fun K hK => ⟨c1, c2, brn_T rfl ⟨p0, p1, part_len hl, brn_Fa rfl hK⟩⟩⟩
  | false =>
    cases hy : (!decide (Q.1 ≥ 0) || !vDay a b c d e 7200) with
    | true => exact ⟨⟨0, 0, 0, 0, 0, 0, 0, false⟩, fun h => (by cases h), fun K hK => ⟨c1, c2, brn_Fa rfl (brn_T rfl hK)⟩⟩
    | false =>
      have hy' := hy
      simp only [Bool.or_eq_false_iff, Bool.not_eq_false'] at hy'
      obtain ⟨y1, y2⟩ := hy'
      exact ⟨⟨a, b, c, d, e, 7200, Q.2, true⟩, fun _ => ⟨y2, q0, q1, q2⟩, fun K hK => ⟨c1, c2, brn_Fa rfl (brn_Fa rfl hK)⟩⟩
theorem pd_ex (s : List UInt8) (hl : (s.length : Int) ≤ 1000000) : ∃ v : Pd, (v.ok = true → vDay v.a v.b v.c v.d v.e v.f = true ∧ cln s v.n) ∧ ∀ K : List AV → Prop, K [.agg (rdC v.a v.b v.c v.d v.e v.f), i64 v.n, bo v.ok] → evSpec N20 Tryz.f97 [sx s] K := by
  have a1 : decide ((s.length : Int) > 0) = true → (0 : Int) ≤ 0 := fun _ => Int.le_refl 0
  have a2 : decide ((s.length : Int) > 0) = true → (0 : Int) < s.length := fun h => of_decide_eq_true h
  cases h74 : (decide ((s.length : Int) > 0) && ((s.getD (Int.toNat 0) 0).toNat : Int) == (74 : Int)) with
  | true =>
    have hb := (Bool.and_eq_true _ _).mp h74
    have hpos := a2 hb.1
    have h0 : ((s.getD (Int.toNat 0) 0).toNat : Int) = 74 := eq_of_beq hb.2
    have hn := nu_sp (s := s) (i := 1) hl (by decide) (by omega)
    have hc := clr_step (Int.le_refl 0) (clr_nil s 0) (byte_ne (by rw [h0]; decide))
    obtain ⟨v, hv, hk⟩ := fin97 s hl (nuV s 1) ⟨hn.1, hn.2.1, clr_app hc hn.2.2.2⟩ 1 (nuV s 1).1 0 0 0 _ rfl
    refine ⟨v, hv, fun K hK => ?_⟩
    rw [g97_in]
    intro Q1 Q2 Q3 Q4 Q5 Q6 Q7 R1
    exact ⟨a1, a2, brn_T h74 ⟨hl, by decide, by omega, hk K hK⟩⟩
  | false =>
    cases h77 : (decide ((s.length : Int) > 0) && ((s.getD (Int.toNat 0) 0).toNat : Int) == (77 : Int)) with
    | true =>
      have hb := (Bool.and_eq_true _ _).mp h77
      have hpos := a2 hb.1
      have h0 : ((s.getD (Int.toNat 0) 0).toNat : Int) = 77 := eq_of_beq hb.2
      obtain ⟨n1, n2, n3, n4⟩ := nu_sp (s := s) (i := 1) hl (by decide) (by omega)
      have hc := clr_app (clr_step (Int.le_refl 0) (clr_nil s 0) (byte_ne (by rw [h0]; decide))) n4
      have d1 : (decide ((nuV s 1).1 < 0) || decide ((nuV s 1).2 ≥ (s.length : Int))) = false → 0 ≤ (nuV s 1).2 := fun _ => n1
      have d2 : (decide ((nuV s 1).1 < 0) || decide ((nuV s 1).2 ≥ (s.length : Int))) = false → (nuV s 1).2 < (s.length : Int) := fun h => by
        have := of_decide_eq_false ((Bool.or_eq_false_iff.mp h).2)
        omega
      cases hx : (decide ((nuV s 1).1 < 0) || decide ((nuV s 1).2 ≥ (s.length : Int)) || ((s.getD (nuV s 1).2.toNat 0).toNat : Int) != (46 : Int)) with
      | true =>
        refine ⟨⟨0, 0, 0, 0, 0, 0, 0, false⟩, fun h => (by cases h), fun K hK => ?_⟩
        rw [g97_in]
        intro Q1 Q2 Q3 Q4 Q5 Q6 Q7 R1
        exact ⟨a1, a2, brn_Fa h74 ⟨a1, a2, brn_T h77 ⟨hl, by decide, by omega, d1, d2, brn_T hx hK⟩⟩⟩
      | false =>
        have hx' := Bool.or_eq_false_iff.mp hx
        have lt1 := d2 hx'.1
        have h46 : ((s.getD (nuV s 1).2.toNat 0).toNat : Int) = 46 := bne_eq_false_iff_eq.mp hx'.2
        have hc1 := clr_step n1 hc (byte_ne (by omega))
        have e1 : IntKind.wrap .i64 ((nuV s 1).2 + 1) = (nuV s 1).2 + 1 := w1 n1 (by omega)
        obtain ⟨m1, m2, m3, m4⟩ := nu_sp (s := s) (i := IntKind.wrap .i64 ((nuV s 1).2 + 1)) hl (by omega) (by omega)
        rw [e1] at m4
        rw [← e1] at m4
        have hc2 : clr s 0 (nuV s (IntKind.wrap .i64 ((nuV s 1).2 + 1))).2 := clr_app (by rw [e1]; exact hc1) m4
        have d3 : (decide ((nuV s (IntKind.wrap .i64 ((nuV s 1).2 + 1))).1 < 0) || decide ((nuV s (IntKind.wrap .i64 ((nuV s 1).2 + 1))).2 ≥ (s.length : Int))) = false → 0 ≤ (nuV s (IntKind.wrap .i64 ((nuV s 1).2 + 1))).2 := fun _ => m1
        have d4 : (decide ((nuV s (IntKind.wrap .i64 ((nuV s 1).2 + 1))).1 < 0) || decide ((nuV s (IntKind.wrap .i64 ((nuV s 1).2 + 1))).2 ≥ (s.length : Int))) = false → (nuV s (IntKind.wrap .i64 ((nuV s 1).2 + 1))).2 < (s.length : Int) := fun h => by
          have := of_decide_eq_false ((Bool.or_eq_false_iff.mp h).2)
          omega
        cases hy : (decide ((nuV s (IntKind.wrap .i64 ((nuV s 1).2 + 1))).1 < 0) || decide ((nuV s (IntKind.wrap .i64 ((nuV s 1).2 + 1))).2 ≥ (s.length : Int)) || ((s.getD (nuV s (IntKind.wrap .i64 ((nuV s 1).2 + 1))).2.toNat 0).toNat : Int) != (46 : Int)) with
        | true =>
          refine ⟨⟨0, 0, 0, 0, 0, 0, 0, false⟩, fun h => (by cases h), fun K hK => ?_⟩
          rw [g97_in]
          intro Q1 Q2 Q3 Q4 Q5 Q6 Q7 R1
          exact ⟨a1, a2, brn_Fa h74 ⟨a1, a2, brn_T h77 ⟨hl, by decide, by omega, d1, d2, brn_Fa hx ⟨hl, by show 0 ≤ IntKind.wrap .i64 ((nuV s 1).2 + 1); omega, by show IntKind.wrap .i64 ((nuV s 1).2 + 1) ≤ _; omega, d3, d4, brn_T hy hK⟩⟩⟩⟩
        | false =>
          have hy' := Bool.or_eq_false_iff.mp hy
          have lt3 := d4 hy'.1
          have h46' : ((s.getD (nuV s (IntKind.wrap .i64 ((nuV s 1).2 + 1))).2.toNat 0).toNat : Int) = 46 := bne_eq_false_iff_eq.mp hy'.2
          have hc3 := clr_step m1 hc2 (byte_ne (by omega))
          have e3 : IntKind.wrap .i64 ((nuV s (IntKind.wrap .i64 ((nuV s 1).2 + 1))).2 + 1) = (nuV s (IntKind.wrap .i64 ((nuV s 1).2 + 1))).2 + 1 := w1 m1 (by omega)
          obtain ⟨o1, o2, o3, o4⟩ := nu_sp (s := s) (i := IntKind.wrap .i64 ((nuV s (IntKind.wrap .i64 ((nuV s 1).2 + 1))).2 + 1)) hl (by omega) (by omega)
          have hc4 : clr s 0 (nuV s (IntKind.wrap .i64 ((nuV s (IntKind.wrap .i64 ((nuV s 1).2 + 1))).2 + 1))).2 := clr_app (by rw [e3]; exact hc3) o4
          obtain ⟨v, hv, hk⟩ := fin97 s hl (nuV s (IntKind.wrap .i64 ((nuV s (IntKind.wrap .i64 ((nuV s 1).2 + 1))).2 + 1))) ⟨o1, o2, hc4⟩ 3 0 (nuV s 1).1 (nuV s (IntKind.wrap .i64 ((nuV s 1).2 + 1))).1 (nuV s (IntKind.wrap .i64 ((nuV s (IntKind.wrap .i64 ((nuV s 1).2 + 1))).2 + 1))).1 _ rfl
          refine ⟨v, hv, fun K hK => ?_⟩
          rw [g97_in]
          intro Q1 Q2 Q3 Q4 Q5 Q6 Q7 R1
          exact ⟨a1, a2, brn_Fa h74 ⟨a1, a2, brn_T h77 ⟨hl, by decide, by omega, d1, d2, brn_Fa hx ⟨hl, by show 0 ≤ IntKind.wrap .i64 ((nuV s 1).2 + 1); omega, by show IntKind.wrap .i64 ((nuV s 1).2 + 1) ≤ _; omega, d3, d4, brn_Fa hy ⟨hl, by show 0 ≤ IntKind.wrap .i64 ((nuV s (IntKind.wrap .i64 ((nuV s 1).2 + 1))).2 + 1); omega, by show IntKind.wrap .i64 ((nuV s (IntKind.wrap .i64 ((nuV s 1).2 + 1))).2 + 1) ≤ _; omega, hk K hK⟩⟩⟩⟩⟩
    | false =>
      have hn := nu_sp (s := s) (i := 0) hl (by decide) (by omega)
      obtain ⟨v, hv, hk⟩ := fin97 s hl (nuV s 0) ⟨hn.1, hn.2.1, hn.2.2.2⟩ 2 (nuV s 0).1 0 0 0 _ rfl
      refine ⟨v, hv, fun K hK => ?_⟩
      rw [g97_in]
      intro Q1 Q2 Q3 Q4 Q5 Q6 Q7 R1
      exact ⟨a1, a2, brn_Fa h74 ⟨a1, a2, brn_Fa h77 ⟨hl, by decide, by omega, hk K hK⟩⟩⟩
theorem ok97e : ∀ args pres res, sPD args = some (pres, res) → SpecOK Tryz.prog G16 97 args pres res := by
  intro args pres res h
  unfold sPD at h
  split at h
  case h_2 => cases h
  cases h
  exact spec_ok (C := N20) okF32 noCall_ok Tryz.func97 (by kernel_rfl) (by kernel_rfl) (fun hp => (Classical.epsilon_spec (pd_ex _ (hp _ (by simp)))).2 _ rfl)
theorem okF33 : EOK Tryz.prog F33 G16 := addE_ok okF32 ok97e
theorem pd_sp {s : List UInt8} (hl : (s.length : Int) ≤ 1000000) : (pdV s).ok = true → vDay (pdV s).a (pdV s).b (pdV s).c (pdV s).d (pdV s).e (pdV s).f = true ∧ cln s (pdV s).n := (Classical.epsilon_spec (pd_ex s hl)).1
end Y27
set_option maxRecDepth 100000
namespace Y27
open Go Go.AE Go.Proofs E6
attribute [local irreducible] loopK evCode evSpec loopB norm
structure Pz where
  (s : List UInt8) (o : Int) (h : Bool) (t : List UInt8) (p : Int)
  (a b c d e f a' b' c' d' e' f' er at' : Int)
instance : Nonempty Pz := ⟨⟨[], 0, false, [], 0, 0, 0, 0, 0, 0, 0, 0, 0, 0, 0, 0, 0, 0, 0⟩⟩
def Pz.av (v : Pz) : List AV := [.agg (ruC v.s v.o v.h v.t v.p (rdC v.a v.b v.c v.d v.e v.f) (rdC v.a' v.b' v.c' v.d' v.e' v.f')), i64 v.er, i64 v.at']
def zPz (x : Int) : Pz := ⟨[], 0, false, [], 0, 0, 0, 0, 0, 0, 0, 0, 0, 0, 0, 0, 0, 14, x⟩
def okPz (s : List UInt8) (v : Pz) : Prop := v.er = 0 → cln s s.length ∧ okRu v.o v.p v.h (vDay v.a v.b v.c v.d v.e v.f) (vDay v.a' v.b' v.c' v.d' v.e' v.f')
theorem okPz_z (s : List UInt8) (x : Int) : okPz s (zPz x) := fun h => absurd h (by decide : (14 : Int) ≠ 0)
theorem in9_el {n : Int} (h : in9 n = true) : -89999 ≤ n ∧ n ≤ 89999 := by
  unfold in9 at h
  simp only [Bool.and_eq_true, decide_eq_true_eq] at h
  omega
theorem lp67 (s nm : List UInt8) (o : Int) (t : List UInt8) (p : Int) (hl : (s.length : Int) ≤ 1000000) (h1 : (nm.length : Int) ≤ 1000000) (h2 : (t.length : Int) ≤ 1000000) (at0 : Int) (b0 : 0 ≤ at0) (b1 : at0 ≤ s.length) (b2 : clr s 0 at0) :
    ∃ v : Pz, okPz s v ∧ ∀ K : List AV → Prop, K v.av → ∀ pl st, norm pl st = some (k67 s nm o t p at0 0 0 0 0 0 0 0 0 0 0 0 0 0) → evCode N21 (.loop (loopB (bodyOf Tryz.f67) 0)) st (loopK N21 (bodyOf Tryz.f67) 0 (finK N21 Tryz.f67 K)) := by
  refine loop_det (C := N21) (c := loopB (bodyOf Tryz.f67) 0) (fun q : Int × Int × Pd × Pd => k67 s nm o t p q.1 q.2.1 q.2.2.1.a q.2.2.1.b q.2.2.1.c q.2.2.1.d q.2.2.1.e q.2.2.1.f q.2.2.2.a q.2.2.2.b q.2.2.2.c q.2.2.2.d q.2.2.2.e q.2.2.2.f)
    (fun q => 0 ≤ q.1 ∧ q.1 ≤ s.length ∧ clr s 0 q.1 ∧ 0 ≤ q.2.1 ∧ q.2.1 ≤ 2) (fun q => (2 - q.2.1).toNat) (fun v : Pz => okPz s v) (fun v => v.av)
    (fun K => loopK N21 (bodyOf Tryz.f67) 0 (finK N21 Tryz.f67 K)) rfl (fun q hs => ?_) (at0, 0, ⟨0, 0, 0, 0, 0, 0, 0, false⟩, ⟨0, 0, 0, 0, 0, 0, 0, false⟩) ⟨b0, b1, b2, Int.le_refl 0, by show (0 : Int) ≤ 2; decide⟩
  obtain ⟨x, n, y, z⟩ := q
  obtain ⟨i1, i2, i3, i4, i5⟩ := hs
  simp only at i1 i2 i3 i4 i5
  show _ ∨ _
  have e1 : IntKind.wrap .i64 (x + 1) = x + 1 := w1 i1 (by omega)
  have en : IntKind.wrap .i64 (n + 1) = n + 1 := w1 i4 (by omega)
  obtain ⟨Q, hQ⟩ : ∃ Q, Q = pdV (List.take (List.length s - Int.toNat (IntKind.wrap IntKind.i64 (x + (1 : Int)))) (List.drop (Int.toNat (IntKind.wrap IntKind.i64 (x + (1 : Int)))) s)) := ⟨_, rfl⟩
  have lp := fun K' => g67_lp s nm o t p x n y.a y.b y.c y.d y.e y.f z.a z.b z.c z.d z.e z.f K' Q hQ
  by_cases hn : n < 2
  · have c1 : decide (x ≥ (s.length : Int)) = false → 0 ≤ x := fun _ => i1
    have c2 : decide (x ≥ (s.length : Int)) = false → x < (s.length : Int) := fun h => by
      have := of_decide_eq_false h
      omega
    cases hx : (decide (x ≥ (s.length : Int)) || ((s.getD x.toNat 0).toNat : Int) != (44 : Int)) with
    | true =>
      refine .inr ⟨.ret, _, by simp, fun K' hK' => by
        show evCode N21 _ (k67 s nm o t p x n y.a y.b y.c y.d y.e y.f z.a z.b z.c z.d z.e z.f) K'
        rw [lp]
        exact brn_T (decide_eq_true hn) ⟨c1, c2, brn_T hx hK'⟩, zPz x, okPz_z s x, fun K hK => ?_⟩
      exact Eq.mp (by kernel_rfl) hK
    | false =>
      have hx' := Bool.or_eq_false_iff.mp hx
      have lt := c2 hx'.1
      have h44 : ((s.getD x.toNat 0).toNat : Int) = 44 := bne_eq_false_iff_eq.mp hx'.2
      have hc := clr_step i1 i3 (byte_ne (by omega))
      have p0 : 0 ≤ IntKind.wrap .i64 (x + 1) := by omega
      have p1 : IntKind.wrap .i64 (x + 1) ≤ s.length := by omega
      have pl : (((List.take (List.length s - Int.toNat (IntKind.wrap IntKind.i64 (x + (1 : Int)))) (List.drop (Int.toNat (IntKind.wrap IntKind.i64 (x + (1 : Int)))) s)).length : Nat) : Int) ≤ 1000000 := part_len hl
      cases hq : Q.ok with
      | false =>
        refine .inr ⟨.ret, _, by simp, fun K' hK' => by
          show evCode N21 _ (k67 s nm o t p x n y.a y.b y.c y.d y.e y.f z.a z.b z.c z.d z.e z.f) K'
          rw [lp]
          exact brn_T (decide_eq_true hn) ⟨c1, c2, brn_Fa hx ⟨p0, p1, pl, brn_T (by rw [hq]; rfl) hK'⟩⟩, zPz (IntKind.wrap .i64 (x + 1)), okPz_z s _, fun K hK => ?_⟩
        exact Eq.mp (by kernel_rfl) hK
      | true =>
        obtain ⟨hv, hcl⟩ := pd_sp pl (by rw [← hQ]; exact hq)
        rw [← hQ] at hv hcl
        obtain ⟨m0, m1, m2⟩ := cln_part p0 p1 hcl
        rw [e1] at m1 m2
        have e2 : IntKind.wrap .i64 (IntKind.wrap .i64 (x + 1) + Q.n) = x + 1 + Q.n := by rw [e1]; exact wrap64 (by omega) (by omega)
        cases h0 : (n == (0 : Int)) with
        | true =>
          refine .inl ⟨(x + 1 + Q.n, n + 1, Q, z), q67, _, ⟨by show 0 ≤ x + 1 + Q.n; omega, m1, clr_app hc m2, by show 0 ≤ n + 1; omega, by show n + 1 ≤ 2; omega⟩, by show (2 - (n + 1)).toNat < (2 - n).toNat; omega, ?_, fun K' hK' => by
            show evCode N21 _ (k67 s nm o t p x n y.a y.b y.c y.d y.e y.f z.a z.b z.c z.d z.e z.f) K'
            rw [lp]
            exact brn_T (decide_eq_true hn) ⟨c1, c2, brn_Fa hx ⟨p0, p1, pl, brn_Fa (by rw [hq]; rfl) (brn_T h0 hK')⟩⟩⟩
          rw [e2, en]
          kernel_rfl
        | false =>
          refine .inl ⟨(x + 1 + Q.n, n + 1, y, Q), q67, _, ⟨by show 0 ≤ x + 1 + Q.n; omega, m1, clr_app hc m2, by show 0 ≤ n + 1; omega, by show n + 1 ≤ 2; omega⟩, by show (2 - (n + 1)).toNat < (2 - n).toNat; omega, ?_, fun K' hK' => by
            show evCode N21 _ (k67 s nm o t p x n y.a y.b y.c y.d y.e y.f z.a z.b z.c z.d z.e z.f) K'
            rw [lp]
            exact brn_T (decide_eq_true hn) ⟨c1, c2, brn_Fa hx ⟨p0, p1, pl, brn_Fa (by rw [hq]; rfl) (brn_Fa h0 hK')⟩⟩⟩
          rw [e2, en]
          kernel_rfl
  · cases hr : (x != (s.length : Int) || !rvV nm o true t p y.a y.b y.c y.d y.e y.f z.a z.b z.c z.d z.e z.f) with
    | true =>
      refine .inr ⟨.exit 0, _, by simp, fun K' hK' => by
        show evCode N21 _ (k67 s nm o t p x n y.a y.b y.c y.d y.e y.f z.a z.b z.c z.d z.e z.f) K'
        rw [lp]
        exact brn_Fa (decide_eq_false hn) hK', zPz x, okPz_z s x, fun K hK => ?_⟩
      have key := Eq.mpr (g67_out s nm o t p x n y.a y.b y.c y.d y.e y.f z.a z.b z.c z.d z.e z.f K) ⟨fun _ => h1, fun _ => h2, brn_T hr hK⟩
      exact Eq.mp (by kernel_rfl) key
    | false =>
      have hr' := Bool.or_eq_false_iff.mp hr
      have hxl : x = (s.length : Int) := bne_eq_false_iff_eq.mp hr'.1
      have hrv : rvV nm o true t p y.a y.b y.c y.d y.e y.f z.a z.b z.c z.d z.e z.f = true := by
        have := hr'.2
        rwa [Bool.not_eq_false'] at this
      refine .inr ⟨.exit 0, _, by simp, fun K' hK' => by
        show evCode N21 _ (k67 s nm o t p x n y.a y.b y.c y.d y.e y.f z.a z.b z.c z.d z.e z.f) K'
        rw [lp]
        exact brn_Fa (decide_eq_false hn) hK', ⟨nm, o, true, t, p, y.a, y.b, y.c, y.d, y.e, y.f, z.a, z.b, z.c, z.d, z.e, z.f, 0, 0⟩, fun _ => ?_, fun K hK => ?_⟩
      · refine ⟨⟨by omega, Int.le_refl _, hxl ▸ i3⟩, ?_⟩
        unfold rvV at hrv
        cases hc : (!nvV nm || !in9 o) with
        | true => rw [hc] at hrv; cases hrv
        | false =>
          rw [hc, cond_false] at hrv
          have hc' := Bool.or_eq_false_iff.mp hc
          have ho : in9 o = true := by
            have := hc'.2
            rwa [Bool.not_eq_false'] at this
          have hrv' : (nvV t && in9 p && vDay y.a y.b y.c y.d y.e y.f && vDay z.a z.b z.c z.d z.e z.f) = true := hrv
          simp only [Bool.and_eq_true] at hrv'
          obtain ⟨⟨⟨r1, r2⟩, r3⟩, r4⟩ := hrv'
          have := in9_el ho
          have := in9_el r2
          exact ⟨by show -100000 ≤ o; omega, by show o ≤ 100000; omega, by show -200000 ≤ p; omega, by show p ≤ 200000; omega, fun _ => ⟨r3, r4⟩⟩
      · have key := Eq.mpr (g67_out s nm o t p x n y.a y.b y.c y.d y.e y.f z.a z.b z.c z.d z.e z.f K) ⟨fun _ => h1, fun _ => h2, brn_Fa hr hK⟩
        exact Eq.mp (by kernel_rfl) key
theorem pz_ex (s : List UInt8) (hl : (s.length : Int) ≤ 1000000) : ∃ v : Pz, okPz s v ∧ ∀ K : List AV → Prop, K v.av → evSpec N21 Tryz.f67 [sx s] K := by
  obtain ⟨Q1, hQ1⟩ : ∃ Q, Q = pnV s := ⟨_, rfl⟩
  obtain ⟨Q2, hQ2⟩ : ∃ Q, Q = hpV (List.take (List.length s - Int.toNat (Prod.fst (Prod.snd Q1))) (List.drop (Int.toNat (Prod.fst (Prod.snd Q1))) s)) := ⟨_, rfl⟩
  obtain ⟨Q3, hQ3⟩ : ∃ Q, Q = pnV (List.take (List.length s - Int.toNat (IntKind.wrap IntKind.i64 (Prod.fst (Prod.snd Q1) + Prod.fst (Prod.snd Q2)))) (List.drop (Int.toNat (IntKind.wrap IntKind.i64 (Prod.fst (Prod.snd Q1) + Prod.fst (Prod.snd Q2)))) s)) := ⟨_, rfl⟩
  obtain ⟨Q4, hQ4⟩ : ∃ Q, Q = hpV (List.take (List.length s - Int.toNat (IntKind.wrap IntKind.i64 (IntKind.wrap IntKind.i64 (Prod.fst (Prod.snd Q1) + Prod.fst (Prod.snd Q2)) + Prod.fst (Prod.snd Q3)))) (List.drop (Int.toNat (IntKind.wrap IntKind.i64 (IntKind.wrap IntKind.i64 (Prod.fst (Prod.snd Q1) + Prod.fst (Prod.snd Q2)) + Prod.fst (Prod.snd Q3)))) s)) := ⟨_, rfl⟩
  have g := fun K => g67_in s K Q1 hQ1 Q2 hQ2 Q3 hQ3 Q4 hQ4
  cases k1 : Q1.2.2 with
  | false =>
    refine ⟨zPz 0, okPz_z s 0, fun K hK => ?_⟩
    rw [g]
    exact ⟨hl, brn_T (by rw [k1]; rfl) hK⟩
  | true =>
    obtain ⟨⟨n0, n1, n2⟩, n3⟩ := pn_sp hl (by rw [← hQ1]; exact k1)
    rw [← hQ1] at n0 n1 n2 n3
    have pl1 := part_len (s := s) (k := Int.toNat Q1.2.1) hl
    cases k2 : (!Q2.2.2 || !in9 Q2.1) with
    | true =>
      refine ⟨zPz Q1.2.1, okPz_z s _, fun K hK => ?_⟩
      rw [g]
      exact ⟨hl, brn_Fa (by rw [k1]; rfl) ⟨n0, n1, pl1, brn_T k2 hK⟩⟩
    | false =>
      have k2' := Bool.or_eq_false_iff.mp k2
      have q2 : Q2.2.2 = true := by
        have := k2'.1
        rwa [Bool.not_eq_false'] at this
      have i2 : in9 Q2.1 = true := by
        have := k2'.2
        rwa [Bool.not_eq_false'] at this
      have r2 := in9_el i2
      have hcl := hp_sp pl1 (by rw [← hQ2]; exact q2)
      rw [← hQ2] at hcl
      obtain ⟨m0, m1, m2⟩ := cln_part n0 n1 hcl
      have hc2 := clr_app n2 m2
      have ea : IntKind.wrap .i64 (Q1.2.1 + Q2.2.1) = Q1.2.1 + Q2.2.1 := wrap64 (by omega) (by omega)
      have eo : IntKind.wrap .i64 (0 - Q2.1) = 0 - Q2.1 := wrap64 (by omega) (by omega)
      cases k3 : (IntKind.wrap .i64 (Q1.2.1 + Q2.2.1) == (s.length : Int)) with
      | true =>
        have hend : Q1.2.1 + Q2.2.1 = (s.length : Int) := by
          have := eq_of_beq k3
          omega
        refine ⟨⟨Q1.1, IntKind.wrap .i64 (0 - Q2.1), false, [], 0, 0, 0, 0, 0, 0, 0, 0, 0, 0, 0, 0, 0, 0, 0⟩, fun _ => ⟨⟨by omega, Int.le_refl _, hend ▸ hc2⟩, by show -100000 ≤ IntKind.wrap .i64 (0 - Q2.1); omega, by show IntKind.wrap .i64 (0 - Q2.1) ≤ 100000; omega, by show (-200000 : Int) ≤ 0; decide, by show (0 : Int) ≤ 200000; decide, fun h => (by cases h)⟩, fun K hK => ?_⟩
        rw [g]
        exact ⟨hl, brn_Fa (by rw [k1]; rfl) ⟨n0, n1, pl1, brn_Fa k2 (brn_T k3 hK)⟩⟩
      | false =>
        have a0 : 0 ≤ IntKind.wrap .i64 (Q1.2.1 + Q2.2.1) := by omega
        have a1 : IntKind.wrap .i64 (Q1.2.1 + Q2.2.1) ≤ s.length := by omega
        have pl3 := part_len (s := s) (k := Int.toNat (IntKind.wrap .i64 (Q1.2.1 + Q2.2.1))) hl
        cases k4 : Q3.2.2 with
        | false =>
          refine ⟨zPz (IntKind.wrap .i64 (Q1.2.1 + Q2.2.1)), okPz_z s _, fun K hK => ?_⟩
          rw [g]
          exact ⟨hl, brn_Fa (by rw [k1]; rfl) ⟨n0, n1, pl1, brn_Fa k2 (brn_Fa k3 ⟨a0, a1, pl3, brn_T (by rw [k4]; rfl) hK⟩)⟩⟩
        | true =>
          obtain ⟨cl3, l3⟩ := pn_sp pl3 (by rw [← hQ3]; exact k4)
          rw [← hQ3] at cl3 l3
          obtain ⟨u0, u1, u2⟩ := cln_part a0 a1 cl3
          rw [ea] at u1 u2
          have hc3 := clr_app hc2 u2
          have eb : IntKind.wrap .i64 (IntKind.wrap .i64 (Q1.2.1 + Q2.2.1) + Q3.2.1) = Q1.2.1 + Q2.2.1 + Q3.2.1 := by rw [ea]; exact wrap64 (by omega) (by omega)
          have b0 : 0 ≤ IntKind.wrap .i64 (IntKind.wrap .i64 (Q1.2.1 + Q2.2.1) + Q3.2.1) := by omega
          have b1 : IntKind.wrap .i64 (IntKind.wrap .i64 (Q1.2.1 + Q2.2.1) + Q3.2.1) ≤ s.length := by omega
          have pl4 := part_len (s := s) (k := Int.toNat (IntKind.wrap .i64 (IntKind.wrap .i64 (Q1.2.1 + Q2.2.1) + Q3.2.1))) hl
          cases k5 : Q4.2.2 with
          | true =>
            cases k6 : in9 Q4.1 with
            | false =>
              refine ⟨zPz (IntKind.wrap .i64 (IntKind.wrap .i64 (Q1.2.1 + Q2.2.1) + Q3.2.1)), okPz_z s _, fun K hK => ?_⟩
              rw [g]
              exact ⟨hl, brn_Fa (by rw [k1]; rfl) ⟨n0, n1, pl1, brn_Fa k2 (brn_Fa k3 ⟨a0, a1, pl3, brn_Fa (by rw [k4]; rfl) ⟨b0, b1, pl4, brn_T k5 (brn_T (by rw [k6]; rfl) hK)⟩⟩)⟩⟩
            | true =>
              have hcl4 := hp_sp pl4 (by rw [← hQ4]; exact k5)
              rw [← hQ4] at hcl4
              obtain ⟨v0, v1, v2⟩ := cln_part b0 b1 hcl4
              rw [eb] at v1 v2
              have ec : IntKind.wrap .i64 (IntKind.wrap .i64 (IntKind.wrap .i64 (Q1.2.1 + Q2.2.1) + Q3.2.1) + Q4.2.1) = Q1.2.1 + Q2.2.1 + Q3.2.1 + Q4.2.1 := by rw [eb]; exact wrap64 (by omega) (by omega)
              obtain ⟨v, hv, hk⟩ := lp67 s Q1.1 (IntKind.wrap .i64 (0 - Q2.1)) Q3.1 (IntKind.wrap .i64 (0 - Q4.1)) hl (by omega) (by omega) (IntKind.wrap .i64 (IntKind.wrap .i64 (IntKind.wrap .i64 (Q1.2.1 + Q2.2.1) + Q3.2.1) + Q4.2.1)) (by omega) (by omega) (by rw [ec]; exact clr_app hc3 v2)
              refine ⟨v, hv, fun K hK => ?_⟩
              rw [g]
              refine ⟨hl, brn_Fa (by rw [k1]; rfl) ⟨n0, n1, pl1, brn_Fa k2 (brn_Fa k3 ⟨a0, a1, pl3, brn_Fa (by rw [k4]; rfl) ⟨b0, b1, pl4, brn_T k5 (brn_Fa (by rw [k6]; rfl) ?_)⟩⟩)⟩⟩
              unfold LoopI
              exact hk K hK q67 _ (by kernel_rfl)
          | false =>
            obtain ⟨v, hv, hk⟩ := lp67 s Q1.1 (IntKind.wrap .i64 (0 - Q2.1)) Q3.1 (IntKind.wrap .i64 (IntKind.wrap .i64 (0 - Q2.1) + 3600)) hl (by omega) (by omega) (IntKind.wrap .i64 (IntKind.wrap .i64 (Q1.2.1 + Q2.2.1) + Q3.2.1)) (by omega) (by omega) (by rw [eb]; exact hc3)
            refine ⟨v, hv, fun K hK => ?_⟩
            rw [g]
            refine ⟨hl, brn_Fa (by rw [k1]; rfl) ⟨n0, n1, pl1, brn_Fa k2 (brn_Fa k3 ⟨a0, a1, pl3, brn_Fa (by rw [k4]; rfl) ⟨b0, b1, pl4, brn_Fa k5 ?_⟩⟩)⟩⟩
            unfold LoopI
            exact hk K hK q67 _ (by kernel_rfl)
end Y27
set_option maxRecDepth 100000
namespace Y27
open Go Go.AE Go.Proofs E6
noncomputable section
def pzV (s : List UInt8) : Pz := Classical.epsilon fun v : Pz => (okPz s v) ∧ ∀ K : List AV → Prop, K v.av → evSpec N21 Tryz.f67 [sx s] K
def sPz : List AV → Option (List Prop × List AV)
  | [.imm (.str s)] => some ([(s.length : Int) ≤ 1000000], [.agg (ruC (pzV s).s (pzV s).o (pzV s).h (pzV s).t (pzV s).p (rdC (pzV s).a (pzV s).b (pzV s).c (pzV s).d (pzV s).e (pzV s).f) (rdC (pzV s).a' (pzV s).b' (pzV s).c' (pzV s).d' (pzV s).e' (pzV s).f')), i64 (pzV s).er, i64 (pzV s).at'])
  | _ => none
def F34 := addE F33 67 sPz
def N22 : Cx := ⟨Tryz.prog, F34, noCall, G16, 4011⟩
def blC (T : List Int) (I : List UInt8) (X : List Ty) (C : List UInt8) (L : List Lp) (S U : List Bool) : List AV := [ii T, by' I, xT X, by' C, xL L, oo S, oo U]
def k37 (T : List Int) (I : List UInt8) (X : List Ty) (C : List UInt8) (L : List Lp) (S U : List Bool) (v s n i : Int) : St := ⟨spr [(1, i64 v), (2, i64 s), (3, .ptr 0 0), (7, i64 n), (8, i64 i)] 0 121, [(0, cells (blC T I X C L S U))], 1, []⟩
def q37 : Plan := ⟨[], msk [1, 2, 3, 7, 8] 0 121, [0]⟩
def k37b (T : List Int) (I : List UInt8) (X : List Ty) (C : List UInt8) (L : List Lp) (S U : List Bool) (v n i : Int) : St := ⟨spr [(1, i64 v), (3, .ptr 0 0), (7, i64 n), (9, i64 i)] 0 121, [(0, cells (blC T I X C L S U))], 1, []⟩
def q37b : Plan := ⟨[], msk [1, 3, 7, 9] 0 121, [0]⟩
end
attribute [local irreducible] loopK evCode evSpec loopB norm
theorem ok67e : ∀ args pres res, sPz args = some (pres, res) → SpecOK Tryz.prog G16 67 args pres res := by
  intro args pres res h
  unfold sPz at h
  split at h
  case h_2 => cases h
  cases h
  exact spec_ok (C := N21) okF33 noCall_ok Tryz.func67 (by kernel_rfl) (by kernel_rfl) (fun hp => (Classical.epsilon_spec (pz_ex _ (hp _ (by simp)))).2 _ rfl)
theorem okF34 : EOK Tryz.prog F34 G16 := addE_ok okF33 ok67e
theorem pz_sp {s : List UInt8} (hl : (s.length : Int) ≤ 1000000) : okPz s (pzV s) := (Classical.epsilon_spec (pz_ex s hl)).1
end Y27
set_option maxRecDepth 100000
namespace Y27
open Go Go.AE Go.Proofs E6
attribute [local irreducible] loopK evCode evSpec loopB norm
theorem g37_in (T : List Int) (I : List UInt8) (X : List Ty) (C : List UInt8) (L : List Lp) (S : List Bool) (U : List Bool) (v : Int) (s : Int) (K : List AV → Prop) : evSpec N22 Tryz.f37 [.agg (blC T I X C L S U), i64 v, i64 s] K = (brn ((↑(List.length I) : Int) != (↑(List.length T) : Int) || (↑(List.map cellsT X).length : Int) == 0 || (↑(List.length C) : Int) == 0 || (↑(List.length S) : Int) != 0 && (↑(List.length S) : Int) != (↑(List.map cellsT X).length : Int) || (↑(List.length U) : Int) != 0 && (↑(List.length U) : Int) != (↑(List.map cellsT X).length : Int)) (K [i64 6]) (sz48 s ∧ (↑(List.length T) : Int) ≤ big ∧ brn (!fitP T s) (K [i64 18]) (LoopI N22 (bodyOf Tryz.f37) 0 (St.mk (lapp [.agg [.imm (.ints IntKind.i64 T), by' I, .imm (.sl 3 (List.map cellsT X)), by' C, .imm (.sl 2 (List.map cellsL L)), .imm (.bools S), .imm (.bools U)], i64 v, i64 s, .ptr 0 0, .dead, .dead, i64 0, i64 (↑(List.map cellsT X).length : Int), i64 0] (dN 112)) [(0, Ob.mk true 0 (AObj.cells [.imm (.ints IntKind.i64 T), by' I, .imm (.sl 3 (List.map cellsT X)), by' C, .imm (.sl 2 (List.map cellsL L)), .imm (.bools S), .imm (.bools U)]))] 1 []) (finK N22 Tryz.f37 K)))) := by kernel_rfl
theorem g37_lp (T : List Int) (I : List UInt8) (X : List Ty) (C : List UInt8) (L : List Lp) (S : List Bool) (U : List Bool) (v : Int) (s : Int) (n : Int) (i : Int) (k : AX → St → Prop) : evCode N22 (loopB (bodyOf Tryz.f37) 0) (k37 T I X C L S U v s n i) k = (brn (decide (i < (↑(List.map cellsL L).length : Int))) ((0 : Int) ≤ i ∧ i < (↑(List.map cellsL L).length : Int) ∧ kcells (List.getD (List.map cellsL L) i.toNat []) 0 (lapp [CK.int IntKind.i64] (lapp [CK.int IntKind.i32] [])) = List.getD (List.map cellsL L) i.toNat [] ∧ sz48 s ∧ brn (!fitsP (ivInt (ivNth (List.getD (List.map cellsL L) i.toNat []) 0)) s) (k AX.ret (St.mk (lapp [.dead, i64 v, i64 s, .ptr 0 0, .dead, .dead, i64 18, i64 n, i64 i] (dN 112)) [(0, Ob.mk true 0 (AObj.cells [.imm (.ints IntKind.i64 T), by' I, .imm (.sl 3 (List.map cellsT X)), by' C, .imm (.sl 2 (List.map cellsL L)), .imm (.bools S), .imm (.bools U)]))] 1 [])) (k AX.normal (St.mk (lapp [.dead, i64 v, i64 s, .ptr 0 0, .dead, .dead, .dead, i64 n, i64 (IntKind.wrap .i64 (i + 1))] (lapp (dN 58) (lapp [i64 i, i64 (IntKind.wrap .i64 (i + 1))] (dN 52)))) [(0, Ob.mk true 0 (AObj.cells [.imm (.ints IntKind.i64 T), by' I, .imm (.sl 3 (List.map cellsT X)), by' C,
 .imm (.sl 2 (List.map cellsL L)), .imm (.bools S), .imm (.bools U)]))] 1 []))) (k (AX.exit 0) (St.mk (lapp [.dead, i64 v, i64 s, .ptr 0 0, .dead, .dead, .dead, i64 n, i64 i] (lapp (dN 53) (lapp [i64 i, .ptr 0 4, .imm (.sl 2 (List.map cellsL L)), i64 (↑(List.map cellsL L).length : Int), bo (decide (i < (↑(List.map cellsL L).length : Int)))] (dN 54)))) [(0, Ob.mk true 0 (AObj.cells [.imm (.ints IntKind.i64 T), by' I, .imm (.sl 3 (List.map cellsT X)), by' C, .imm (.sl 2 (List.map cellsL L)), .imm (.bools S), .imm (.bools U)]))] 1 []))) := by kernel_rfl
theorem g37_lp2 (T : List Int) (I : List UInt8) (X : List Ty) (C : List UInt8) (L : List Lp) (S : List Bool) (U : List Bool) (v : Int) (n : Int) (i : Int) (k : AX → St → Prop) : evCode N22 (loopB (bodyOf Tryz.f37) 1) (k37b T I X C L S U v n i) k = (brn (decide (i < (↑(List.length I) : Int))) ((0 : Int) ≤ i ∧ i < (↑(List.length I) : Int) ∧ brn (decide (IntKind.wrap .i64 (↑(UInt8.toNat (List.getD I i.toNat (0 : UInt8))) : Int) ≥ n)) (k AX.ret (St.mk (lapp [.dead, i64 v, .dead, .ptr 0 0, .dead, .dead, i64 8, i64 n, .dead, i64 i] (dN 111)) [(0, Ob.mk true 0 (AObj.cells [.imm (.ints IntKind.i64 T), by' I, .imm (.sl 3 (List.map cellsT X)), by' C, .imm (.sl 2 (List.map cellsL L)), .imm (.bools S), .imm (.bools U)]))] 1 [])) (k AX.normal (St.mk (lapp [.dead, i64 v, .dead, .ptr 0 0, .dead, .dead, .dead, i64 n, .dead, i64 (IntKind.wrap .i64 (i + 1))] (lapp (dN 77) (lapp [i64 i, i64 (IntKind.wrap .i64 (i + 1))] (dN 32)))) [(0, Ob.mk true 0 (AObj.cells [.imm (.ints IntKind.i64 T), by' I, .imm (.sl 3 (List.map cellsT X)), by' C, .imm (.sl 2 (List.map cellsL L)), .imm (.bools S), .imm (.bools U)]))] 1 []))) (k (AX.exit 2) (St.mk (lapp [.dead, i64 v, .dead, .ptr 0 0, .dead, .dead, .dead, i64 n,
 .dead, i64 i] (lapp (dN 72) (lapp [i64 i, .ptr 0 1, by' I, i64 (↑(List.length I) : Int), bo (decide (i < (↑(List.length I) : Int)))] (dN 34)))) [(0, Ob.mk true 0 (AObj.cells [.imm (.ints IntKind.i64 T), by' I, .imm (.sl 3 (List.map cellsT X)), by' C, .imm (.sl 2 (List.map cellsL L)), .imm (.bools S), .imm (.bools U)]))] 1 []))) := by kernel_rfl
theorem g37_out (T : List Int) (I : List UInt8) (X : List Ty) (C : List UInt8) (L : List Lp) (S : List Bool) (U : List Bool) (v : Int) (s : Int) (n : Int) (i : Int) (K : List AV → Prop) : loopK N22 (bodyOf Tryz.f37) 0 (finK N22 Tryz.f37 K) (AX.exit 0) (St.mk (let y := let y := let y := let y := let y := [.dead, .dead, .dead, .dead]; AV.dead :: AV.dead :: AV.dead :: AV.dead :: y; let y := AV.dead :: AV.dead :: AV.dead :: AV.dead :: y; AV.dead :: AV.dead :: AV.dead :: AV.dead :: y; let y := let y := AV.dead :: AV.dead :: AV.dead :: AV.dead :: y; AV.dead :: AV.dead :: AV.dead :: AV.dead :: y; AV.dead :: AV.dead :: AV.dead :: AV.dead :: AV.dead :: AV.dead :: AV.dead :: y; let y := let y := let y := AV.dead :: AV.dead :: AV.dead :: AV.dead :: y; AV.dead :: AV.dead :: AV.dead :: AV.dead :: y; AV.dead :: AV.dead :: AV.dead :: AV.dead :: AV.dead :: AV.dead :: AV.dead :: y; let y := let y := AV.dead :: AV.dead :: AV.dead :: AV.dead :: y; AV.dead :: AV.dead :: AV.dead :: AV.dead :: y; AV.dead :: AV.dead :: i64 i :: AV.ptr 0 4 :: AV.imm (.sl 2 (List.map cellsL L)) :: i64 (↑(List.map cellsL L).length : Int) :: bo (decide (i < (↑(List.map cellsL L).length : Int))) :: y; let y := let y := let y := let y := AV.dead :: AV.dead :: AV.dead :: AV.dead :: y; AV.dead :: AV.dead :: AV.dead :: AV.dead :: y; AV.dead :: AV.dead :: AV.dead :: AV.dead :: AV.dead :: AV.dead :: AV.dead :: y; let y := let y := AV.dead :: AV.dead :: AV.dead :: AV.dead :: y; AV.dead :: AV.dead :: AV.dead :: AV.dead :: y; AV.dead :: AV.dead :: AV.dead :: AV.dead :: AV.dead :: AV.dead :: AV.dead :: y; let y := let y := let y := AV.dead :: AV.dead :: AV.dead :: AV.dead :: y; AV.dead :: AV.dead :: AV.dead :: AV.dead :: y; AV.dead :: AV.dead :: AV.dead :: AV.dead :: AV.dead :: AV.dead :: AV.dead :: y; let y := let y := AV.dead :: AV.dead :: AV.dead :: AV.dead :: y; i64 n :: i64 i :: AV.dead :: AV.dead :: y; AV.dead :: i64 v :: i64 s :: AV.ptr 0 0 :: AV.dead :: AV.dead :: AV.dead :: y) [(0, Ob.mk true 0 (AObj.cells [.imm (.ints IntKind.i64 T), by' I, .imm (.sl 3 (List.map cellsT X)), by' C, .imm (.sl 2 (List.map cellsL L)), .imm (.bools S), .imm (.bools U)]))] 1 []) = ((↑(List.length T) : Int) ≤ 1000000 ∧ brn (desV T != (-1 : Int)) (K [i64 7]) (LoopI N22 (bodyOf Tryz.f37) 1 (St.mk (lapp [.dead, i64 v, i64 s, .ptr 0 0, .dead, .dead, .dead, i64 n, i64 i, i64 0] (dN 111)) [(0, Ob.mk true 0 (AObj.cells [.imm (.ints IntKind.i64 T), by' I, .imm (.sl 3 (List.map cellsT X)), by' C, .imm (.sl 2 (List.map cellsL L)), .imm (.bools S), .imm (.bools U)]))] 1 []) (finK N22 Tryz.f37 K))) := by kernel_rfl
theorem g37_out2 (T : List Int) (I : List UInt8) (X : List Ty) (C : List UInt8) (L : List Lp) (S : List Bool) (U : List Bool) (v : Int) (n : Int) (i : Int) (K : List AV → Prop) : loopK N22 (bodyOf Tryz.f37) 1 (finK N22 Tryz.f37 K) (AX.exit 2) (St.mk (let y := let y := let y := let y := let y := [.dead, .dead, .dead, .dead]; AV.dead :: AV.dead :: AV.dead :: AV.dead :: y; let y := AV.dead :: AV.dead :: AV.dead :: AV.dead :: y; AV.dead :: AV.dead :: AV.dead :: AV.dead :: y; let y := let y := AV.dead :: AV.dead :: AV.dead :: AV.dead :: y; AV.dead :: AV.dead :: AV.dead :: AV.dead :: y; AV.dead :: AV.dead :: AV.dead :: AV.dead :: AV.dead :: AV.dead :: AV.dead :: y; let y := let y := let y := bo (decide (i < (↑(List.length I) : Int))) :: AV.dead :: AV.dead :: AV.dead :: y; i64 i :: AV.ptr 0 1 :: by' I :: i64 (↑(List.length I) : Int) :: y; AV.dead :: AV.dead :: AV.dead :: AV.dead :: AV.dead :: AV.dead :: AV.dead :: y; let y := let y := AV.dead :: AV.dead :: AV.dead :: AV.dead :: y; AV.dead :: AV.dead :: AV.dead :: AV.dead :: y; AV.dead :: AV.dead :: AV.dead :: AV.dead :: AV.dead :: AV.dead :: AV.dead :: y; let y := let y := let y := let y := AV.dead :: AV.dead :: AV.dead :: AV.dead :: y; AV.dead :: AV.dead :: AV.dead :: AV.dead :: y; AV.dead :: AV.dead :: AV.dead :: AV.dead :: AV.dead :: AV.dead :: AV.dead :: y; let y := let y := AV.dead :: AV.dead :: AV.dead :: AV.dead :: y; AV.dead :: AV.dead :: AV.dead :: AV.dead :: y; AV.dead :: AV.dead :: AV.dead :: AV.dead :: AV.dead :: AV.dead :: AV.dead :: y; let y := let y := let y := AV.dead :: AV.dead :: AV.dead :: AV.dead :: y; AV.dead :: AV.dead :: AV.dead :: AV.dead :: y; AV.dead :: AV.dead :: AV.dead :: AV.dead :: AV.dead :: AV.dead :: AV.dead :: y; let y := let y := AV.dead :: AV.dead :: AV.dead :: AV.dead :: y; i64 n :: AV.dead :: i64 i :: AV.dead :: y; AV.dead :: i64 v :: AV.dead :: AV.ptr 0 0 :: AV.dead :: AV.dead :: AV.dead :: y) [(0, Ob.mk true 0 (AObj.cells [.imm (.ints IntKind.i64 T), by' I, .imm (.sl 3 (List.map cellsT X)), by' C, .imm (.sl 2 (List.map cellsL L)), .imm (.bools S), .imm (.bools U)]))] 1 []) = (okT (List.map cellsT X) ∧ (↑(List.map cellsT X).length : Int) ≤ 1000000 ∧ brn (chkV (tys (List.map cellsT X)) (↑(List.length C) : Int) != 0) (K [i64 (chkV (tys (List.map cellsT X)) (↑(List.length C) : Int))]) ((↑(List.length C) : Int) ≤ 1000000 ∧ brn (!badV C == (-1 : Int)) (K [i64 11]) (okL (List.map cellsL L) ∧ (↑(List.map cellsL L).length : Int) ≤ 1000000 ∧ brn (!lvV (lps (List.map cellsL L)) v) (K [i64 12]) ((↑(List.length U) : Int) ≤ 1000000 ∧ brn (!conV S U) (K [i64 13]) (K [i64 0]))))) := by kernel_rfl
end Y27
set_option maxRecDepth 100000
namespace Y27
open Go Go.AE Go.Proofs E6
attribute [local irreducible] loopK evCode evSpec loopB norm
def okBl (T : List Int) (I : List UInt8) (X : List Ty) (C : List UInt8) (S U : List Bool) : Prop :=
  I.length = T.length ∧ X.length ≠ 0 ∧ C.length ≠ 0 ∧ (S.length = 0 ∨ S.length = X.length) ∧ (U.length = 0 ∨ U.length = X.length) ∧ ∀ j : Nat, j < I.length → (I.getD j 0).toNat < X.length
theorem wrapB (c : UInt8) : IntKind.wrap .i64 (c.toNat : Int) = (c.toNat : Int) := by
  have := c.toNat_lt
  exact wrap64 (by omega) (by omega)
theorem lens_or {a b : Nat} (h : ((a : Int) != (0 : Int) && (a : Int) != (b : Int)) = false) : a = 0 ∨ a = b := by
  rcases Nat.eq_zero_or_pos a with h0 | h0
  · exact .inl h0
  · refine .inr ?_
    have h1 : ((a : Int) != (0 : Int)) = true := bne_iff_ne.mpr (by omega)
    rw [h1, Bool.true_and] at h
    have := bne_eq_false_iff_eq.mp h
    omega
theorem bl_ex (T : List Int) (I : List UInt8) (X : List Ty) (C : List UInt8) (L : List Lp) (S U : List Bool) (v s : Int) (hT : okT (X.map cellsT)) (hL : okL (L.map cellsL)) (hs : sz48 s)
    (l1 : (T.length : Int) ≤ 1000000) (l2 : (I.length : Int) ≤ 1000000) (l3 : (X.length : Int) ≤ 1000000) (l4 : (C.length : Int) ≤ 1000000) (l5 : (L.length : Int) ≤ 1000000) (l6 : (U.length : Int) ≤ 1000000) :
    ∃ r : Int, (r = 0 → okBl T I X C S U) ∧ ∀ K : List AV → Prop, K [i64 r] → evSpec N22 Tryz.f37 [.agg (blC T I X C L S U), i64 v, i64 s] K := by
  have hlX : (X.map cellsT).length = X.length := List.length_map _
  have hlL : (L.map cellsL).length = L.length := List.length_map _
  have hbig : (1000000 : Int) ≤ big := by unfold big; decide
  cases c0 : ((I.length : Int) != (T.length : Int) || ((X.map cellsT).length : Int) == 0 || (C.length : Int) == 0 || ((S.length : Int) != 0 && (S.length : Int) != ((X.map cellsT).length : Int)) || ((U.length : Int) != 0 && (U.length : Int) != ((X.map cellsT).length : Int))) with
  | true =>
    refine ⟨6, fun h => absurd h (by decide), fun K hK => ?_⟩
    rw [g37_in]
    exact brn_T c0 hK
  | false =>
    have c0' := c0
    simp only [Bool.or_eq_false_iff] at c0'
    obtain ⟨⟨⟨⟨d1, d2⟩, d3⟩, d4⟩, d5⟩ := c0'
    have f1 : I.length = T.length := by
      have := bne_eq_false_iff_eq.mp d1
      omega
    have f2 : X.length ≠ 0 := fun h => by rw [hlX, h] at d2; exact absurd d2 (by decide)
    have f3 : C.length ≠ 0 := fun h => by rw [h] at d3; exact absurd d3 (by decide)
    have f4 := lens_or d4
    have f5 := lens_or d5
    rw [hlX] at f4 f5
    cases hf : fitP T s with
    | false =>
      refine ⟨18, fun h => absurd h (by decide), fun K hK => ?_⟩
      rw [g37_in]
      exact brn_Fa c0 ⟨hs, by omega, brn_T (by rw [hf]; rfl) hK⟩
    | true =>
      have second : ∃ r : Int, (r = 0 → okBl T I X C S U) ∧ ∀ K : List AV → Prop, K [i64 r] → ∀ p st, norm p st = some (k37b T I X C L S U v ((X.map cellsT).length : Int) 0) → evCode N22 (.loop (loopB (bodyOf Tryz.f37) 1)) st (loopK N22 (bodyOf Tryz.f37) 1 (finK N22 Tryz.f37 K)) := by
        refine loop_det (C := N22) (c := loopB (bodyOf Tryz.f37) 1) (fun i : Int => k37b T I X C L S U v ((X.map cellsT).length : Int) i) (fun i => 0 ≤ i ∧ i ≤ I.length ∧ ∀ j : Nat, (j : Int) < i → (I.getD j 0).toNat < X.length) (fun i => ((I.length : Int) - i).toNat) (fun r : Int => r = 0 → okBl T I X C S U) (fun r => [i64 r])
          (fun K => loopK N22 (bodyOf Tryz.f37) 1 (finK N22 Tryz.f37 K)) rfl (fun i hi => ?_) 0 ⟨Int.le_refl 0, by omega, fun j hj => by omega⟩
        obtain ⟨i1, i2, i3⟩ := hi
        by_cases h : i < I.length
        · have hw : IntKind.wrap .i64 (i + 1) = i + 1 := w1 i1 (by omega)
          by_cases hx : IntKind.wrap .i64 ((I.getD i.toNat 0).toNat : Int) ≥ ((X.map cellsT).length : Int)
          · refine .inr ⟨.ret, _, by simp, fun K' hK' => by
              rw [g37_lp2]
              exact brn_T (decide_eq_true h) ⟨i1, h, brn_T (decide_eq_true hx) hK'⟩, 8, fun h => absurd h (by decide), fun K hK => ?_⟩
            exact Eq.mp (by kernel_rfl) hK
          · refine .inl ⟨i + 1, q37b, _, ⟨by omega, by omega, fun j hj => ?_⟩, by omega, ?_, fun K' hK' => by
              rw [g37_lp2, hw]
              exact brn_T (decide_eq_true h) ⟨i1, h, brn_Fa (decide_eq_false hx) hK'⟩⟩
            · by_cases hji : (j : Int) = i
              · have e : j = i.toNat := by omega
                rw [wrapB, hlX] at hx
                rw [e]; omega
              · exact i3 j (by omega)
            · kernel_rfl
        · have hfin : okBl T I X C S U := ⟨f1, f2, f3, f4, f5, fun j hj => i3 j (by omega)⟩
          have e1 : tys (X.map cellsT) = tys (X.map cellsT) := rfl
          cases k1 : (chkV (tys (X.map cellsT)) (C.length : Int) != 0) with
          | true =>
            refine .inr ⟨.exit 2, _, by simp, fun K' hK' => by
              rw [g37_lp2]
              exact brn_Fa (decide_eq_false h) hK', chkV (tys (X.map cellsT)) (C.length : Int), fun h => absurd h (bne_iff_ne.mp k1), fun K hK => ?_⟩
            have key := Eq.mpr (g37_out2 T I X C L S U v ((X.map cellsT).length : Int) i K) ⟨hT, by rw [hlX]; exact l3, brn_T k1 hK⟩
            exact Eq.mp (by kernel_rfl) key
          | false =>
            cases k2 : (!badV C == -1) with
            | true =>
              refine .inr ⟨.exit 2, _, by simp, fun K' hK' => by
                rw [g37_lp2]
                exact brn_Fa (decide_eq_false h) hK', 11, fun h => absurd h (by decide), fun K hK => ?_⟩
              have key := Eq.mpr (g37_out2 T I X C L S U v ((X.map cellsT).length : Int) i K) ⟨hT, by rw [hlX]; exact l3, brn_Fa k1 ⟨l4, brn_T k2 hK⟩⟩
              exact Eq.mp (by kernel_rfl) key
            | false =>
              cases k3 : (!lvV (lps (L.map cellsL)) v) with
              | true =>
                refine .inr ⟨.exit 2, _, by simp, fun K' hK' => by
                  rw [g37_lp2]
                  exact brn_Fa (decide_eq_false h) hK', 12, fun h => absurd h (by decide), fun K hK => ?_⟩
                have key := Eq.mpr (g37_out2 T I X C L S U v ((X.map cellsT).length : Int) i K) ⟨hT, by rw [hlX]; exact l3, brn_Fa k1 ⟨l4, brn_Fa k2 ⟨hL, by rw [hlL]; exact l5, brn_T k3 hK⟩⟩⟩
                exact Eq.mp (by kernel_rfl) key
              | false =>
                cases k4 : (!conV S U) with
                | true =>
                  refine .inr ⟨.exit 2, _, by simp, fun K' hK' => by
                    rw [g37_lp2]
                    exact brn_Fa (decide_eq_false h) hK', 13, fun h => absurd h (by decide), fun K hK => ?_⟩
                  have key := Eq.mpr (g37_out2 T I X C L S U v ((X.map cellsT).length : Int) i K) ⟨hT, by rw [hlX]; exact l3, brn_Fa k1 ⟨l4, brn_Fa k2 ⟨hL, by rw [hlL]; exact l5, brn_Fa k3 ⟨l6, brn_T k4 hK⟩⟩⟩⟩
                  exact Eq.mp (by kernel_rfl) key
                | false =>
                  refine .inr ⟨.exit 2, _, by simp, fun K' hK' => by
                    rw [g37_lp2]
                    exact brn_Fa (decide_eq_false h) hK', 0, fun _ => hfin, fun K hK => ?_⟩
                  have key := Eq.mpr (g37_out2 T I X C L S U v ((X.map cellsT).length : Int) i K) ⟨hT, by rw [hlX]; exact l3, brn_Fa k1 ⟨l4, brn_Fa k2 ⟨hL, by rw [hlL]; exact l5, brn_Fa k3 ⟨l6, brn_Fa k4 hK⟩⟩⟩⟩
                  exact Eq.mp (by kernel_rfl) key
      refine Exists.elim (loop_det (C := N22) (c := loopB (bodyOf Tryz.f37) 0) (fun i : Int => k37 T I X C L S U v s ((X.map cellsT).length : Int) i) (fun i => 0 ≤ i ∧ i ≤ L.length) (fun i => ((L.length : Int) - i).toNat) (fun r : Int => r = 0 → okBl T I X C S U) (fun r => [i64 r])
        (fun K => loopK N22 (bodyOf Tryz.f37) 0 (finK N22 Tryz.f37 K)) rfl (fun i hi => ?_) 0 ⟨Int.le_refl 0, by omega⟩) (fun r hr => ?_)
      · obtain ⟨i1, i2⟩ := hi
        by_cases h : i < L.length
        · have hb : i < ((L.map cellsL).length : Int) := by rw [hlL]; exact h
          have hk := kcL i1 h
          have hw : IntKind.wrap .i64 (i + 1) = i + 1 := w1 i1 (by omega)
          cases hx : (!fitsP (ivInt (ivNth (List.getD (List.map cellsL L) i.toNat []) 0)) s) with
          | true =>
            refine .inr ⟨.ret, _, by simp, fun K' hK' => by
              rw [g37_lp]
              exact brn_T (decide_eq_true hb) ⟨i1, hb, hk, hs, brn_T hx hK'⟩, 18, fun h => absurd h (by decide), fun K hK => ?_⟩
            exact Eq.mp (by kernel_rfl) hK
          | false =>
            refine .inl ⟨i + 1, q37, _, ⟨by omega, by omega⟩, by omega, ?_, fun K' hK' => by
              rw [g37_lp, hw]
              exact brn_T (decide_eq_true hb) ⟨i1, hb, hk, hs, brn_Fa hx hK'⟩⟩
            kernel_rfl
        · have hb : ¬ i < ((L.map cellsL).length : Int) := by rw [hlL]; exact h
          cases hd : (desV T != -1) with
          | true =>
            refine .inr ⟨.exit 0, _, by simp, fun K' hK' => by
              rw [g37_lp]
              exact brn_Fa (decide_eq_false hb) hK', 7, fun h => absurd h (by decide), fun K hK => ?_⟩
            have key := Eq.mpr (g37_out T I X C L S U v s ((X.map cellsT).length : Int) i K) ⟨l1, brn_T hd hK⟩
            exact Eq.mp (by kernel_rfl) key
          | false =>
            obtain ⟨r, hr, hk⟩ := second
            refine .inr ⟨.exit 0, _, by simp, fun K' hK' => by
              rw [g37_lp]
              exact brn_Fa (decide_eq_false hb) hK', r, hr, fun K hK => ?_⟩
            have key := Eq.mpr (g37_out T I X C L S U v s ((X.map cellsT).length : Int) i K) ⟨l1, brn_Fa hd (by
              unfold LoopI
              exact hk K hK q37b _ (by kernel_rfl))⟩
            exact Eq.mp (by kernel_rfl) key
      · obtain ⟨hr', hk⟩ := hr
        refine ⟨r, hr', fun K hK => ?_⟩
        rw [g37_in]
        refine brn_Fa c0 ⟨hs, by omega, brn_Fa (by rw [hf]; rfl) ?_⟩
        unfold LoopI
        exact hk K hK q37 _ (by kernel_rfl)
end Y27
set_option maxRecDepth 100000
namespace Y27
open Go Go.AE Go.Proofs E6
noncomputable section
def blV (T : List Int) (I : List UInt8) (X : List Ty) (C : List UInt8) (L : List Lp) (S U : List Bool) (n s : Int) : Int := Classical.epsilon fun v : Int => (v = 0 → okBl T I X C S U) ∧ ∀ K : List AV → Prop, K [i64 v] → evSpec N22 Tryz.f37 [.agg (blC T I X C L S U), i64 n, i64 s] K
def okBp (T : List Int) (I : List UInt8) (X : List (List IV)) (C : List UInt8) (L : List (List IV)) (S U : List Bool) : Prop :=
  okT X ∧ okL L ∧ (T.length : Int) ≤ 1000000 ∧ (I.length : Int) ≤ 1000000 ∧ (X.length : Int) ≤ 1000000 ∧ (C.length : Int) ≤ 1000000 ∧ (L.length : Int) ≤ 1000000 ∧ (U.length : Int) ≤ 1000000
def sBlk : List AV → Option (List Prop × List AV)
  | [.agg [.imm (.ints .i64 T), .imm (.bytes I), .imm (.sl 3 X), .imm (.bytes C), .imm (.sl 2 L), .imm (.bools S), .imm (.bools U)], .imm (.int .i64 n), .imm (.int .i64 s)] => some ([okBp T I X C L S U, sz48 s], [i64 (blV T I (tys X) C (lps L) S U n s)])
  | _ => none
def F35 := addE F34 37 sBlk
def N23 : Cx := ⟨Tryz.prog, F35, noCall, G16, 4010⟩
def fiC (v : Int) (T : List Int) (I : List UInt8) (X : List (List IV)) (C : List UInt8) (L : List (List IV)) (S U : List Bool) (T' : List Int) (I' : List UInt8) (X' : List (List IV)) (C' : List UInt8) (L' : List (List IV)) (S' U' : List Bool) (f : List UInt8) : List AV :=
  [i64 v, ii T, by' I, .imm (.sl 3 X), by' C, .imm (.sl 2 L), oo S, oo U, ii T', by' I', .imm (.sl 3 X'), by' C', .imm (.sl 2 L'), oo S', oo U', .imm (.str f)]
end
noncomputable section
def atO (s : List UInt8) (o : Int) (h : Bool) (t : List UInt8) (p a b c d e f a' b' c' d' e' f' x : Int) : Int := bif onV (ruC s o h t p (rdC a b c d e f) (rdC a' b' c' d' e' f')) (splD x) (splS x) (dtV (splD x)).1 then p else o
def atD (s : List UInt8) (o : Int) (h : Bool) (t : List UInt8) (p a b c d e f a' b' c' d' e' f' x : Int) : Bool := onV (ruC s o h t p (rdC a b c d e f) (rdC a' b' c' d' e' f')) (splD x) (splS x) (dtV (splD x)).1
def atN (s : List UInt8) (o : Int) (h : Bool) (t : List UInt8) (p a b c d e f a' b' c' d' e' f' x : Int) : List UInt8 := bif onV (ruC s o h t p (rdC a b c d e f) (rdC a' b' c' d' e' f')) (splD x) (splS x) (dtV (splD x)).1 then t else s
end
attribute [local irreducible] loopK evCode evSpec loopB norm
theorem ok37e : ∀ args pres res, sBlk args = some (pres, res) → SpecOK Tryz.prog G16 37 args pres res := by
  intro args pres res h
  unfold sBlk at h
  split at h
  case h_2 => cases h
  cases h
  rename_i T I X C L S U n s
  refine spec_ok (C := N22) okF34 noCall_ok Tryz.func37 (by kernel_rfl) (by kernel_rfl) (fun hp => ?_)
  obtain ⟨hX, hL, l1, l2, l3, l4, l5, l6⟩ := hp (okBp T I X C L S U) (by simp)
  have hs : sz48 s := hp _ (by simp)
  have e1 := xT_tys hX
  have hX' : okT ((tys X).map cellsT) := by rw [← hX.1]; exact hX
  obtain ⟨M, rfl, e, hM⟩ := okL_elim hL
  rw [List.length_map] at l5
  rw [e]
  have := (Classical.epsilon_spec (bl_ex T I (tys X) C M S U n s hX' hL hs l1 l2 (by rw [tys_len hX]; exact l3) l4 l5 l6)).2
  rw [e1]
  exact this _ rfl
theorem okF35 : EOK Tryz.prog F35 G16 := addE_ok okF34 ok37e
theorem bl_sp {T : List Int} {I : List UInt8} {X : List (List IV)} {C : List UInt8} {L : List (List IV)} {S U : List Bool} {n s : Int} (h : okBp T I X C L S U) (hs : sz48 s) : blV T I (tys X) C (lps L) S U n s = 0 → okBl T I (tys X) C S U := by
  obtain ⟨hX, hL, l1, l2, l3, l4, l5, l6⟩ := h
  have hX' : okT ((tys X).map cellsT) := by rw [← hX.1]; exact hX
  obtain ⟨M, rfl, e, hM⟩ := okL_elim hL
  rw [List.length_map] at l5
  rw [e]
  exact (Classical.epsilon_spec (bl_ex T I (tys X) C M S U n s hX' hL hs l1 l2 (by rw [tys_len hX]; exact l3) l4 l5 l6)).1
end Y27
set_option maxRecDepth 100000
namespace Y27
open Go Go.AE Go.Proofs E6
attribute [local irreducible] loopK evCode evSpec loopB norm
theorem g39_in (v : Int) (T : List Int) (I : List UInt8) (X : List (List IV)) (C : List UInt8) (L : List (List IV)) (S : List Bool) (U : List Bool) (T' : List Int) (I' : List UInt8) (X' : List (List IV)) (C' : List UInt8) (L' : List (List IV)) (S' : List Bool) (U' : List Bool) (f : List UInt8) (K : List AV → Prop) (Q1 : Pz) (hQ1 : Q1 = (pzV f)) : evSpec N23 Tryz.f39 [.agg (fiC v T I X C L S U T' I' X' C' L' S' U' f)] K = ( let E1 : Prop := ((sm (St.mk (lapp [.agg [i64 v, .imm (.ints IntKind.i64 T), by' I, .imm (.sl 3 X), by' C, .imm (.sl 2 L), .imm (.bools S), .imm (.bools U), .imm (.ints IntKind.i64 T'), by' I', .imm (.sl 3 X'), by' C', .imm (.sl 2 L'), .imm (.bools S'), .imm (.bools U'), .imm (.str f)], .ptr 0 0, i64 0, i64 0, .ptr 1 0, i64 (Pz.er Q1), i64 (Pz.at' Q1), i64 (↑(List.length T') : Int), i64 (List.getD T' (IntKind.wrap .i64 ((↑(List.length T') : Int) - 1)).toNat (0 : Int)), i64 (minU (List.getD T' (IntKind.wrap .i64 ((↑(List.length T') : Int) - 1)).toNat (0 : Int)) (coV (lps L') (List.getD T' (IntKind.wrap .i64 ((↑(List.length T') : Int) - 1)).toNat (0 : Int))))] (lapp (dN 40) [.agg [.imm (.str (Pz.s Q1)), i64 (Pz.o Q1), bo (Pz.h Q1), .imm (.str (Pz.t Q1)), i64 (Pz.p
 Q1), i64 (Pz.a Q1), i64 (Pz.b Q1), i64 (Pz.c Q1), i64 (Pz.d Q1), i64 (Pz.e Q1), i64 (Pz.f Q1), i64 (Pz.a' Q1), i64 (Pz.b' Q1), i64 (Pz.c' Q1), i64 (Pz.d' Q1), i64 (Pz.e' Q1), i64 (Pz.f' Q1)], i64 (minU (List.getD T' (IntKind.wrap .i64 ((↑(List.length T') : Int) - 1)).toNat (0 : Int)) (coV (lps L') (List.getD T' (IntKind.wrap .i64 ((↑(List.length T') : Int) - 1)).toNat (0 : Int)))), .agg [bo true, i64 (atO (Pz.s Q1) (Pz.o Q1) (Pz.h Q1) (Pz.t Q1) (Pz.p Q1) (Pz.a Q1) (Pz.b Q1) (Pz.c Q1) (Pz.d Q1) (Pz.e Q1) (Pz.f Q1) (Pz.a' Q1) (Pz.b' Q1) (Pz.c' Q1) (Pz.d' Q1) (Pz.e' Q1) (Pz.f' Q1) (minU (List.getD T' (IntKind.wrap .i64 ((↑(List.length T') : Int) - 1)).toNat (0 : Int)) (coV (lps L') (List.getD T' (IntKind.wrap .i64 ((↑(List.length T') : Int) - 1)).toNat (0 : Int))))), bo (atD (Pz.s Q1) (Pz.o Q1) (Pz.h Q1) (Pz.t Q1) (Pz.p Q1) (Pz.a Q1) (Pz.b Q1) (Pz.c Q1) (Pz.d Q1) (Pz.e Q1) (Pz.f Q1) (Pz.a' Q1) (Pz.b' Q1) (Pz.c' Q1) (Pz.d' Q1) (Pz.e' Q1) (Pz.f' Q1) (minU (List.getD T' (IntKind.wrap .i64 ((↑(List.length T') : Int) - 1)).toNat (0 : Int)) (coV (lps L') (List.getD T' (IntKind.wrap .i64 ((↑(List.length T') : Int) - 1)).toNat (0 : Int))))), .imm (.str (atN (Pz.s Q1) (Pz.o Q1) (Pz.h Q1) (Pz.t
 Q1) (Pz.p Q1) (Pz.a Q1) (Pz.b Q1) (Pz.c Q1) (Pz.d Q1) (Pz.e Q1) (Pz.f Q1) (Pz.a' Q1) (Pz.b' Q1) (Pz.c' Q1) (Pz.d' Q1) (Pz.e' Q1) (Pz.f' Q1) (minU (List.getD T' (IntKind.wrap .i64 ((↑(List.length T') : Int) - 1)).toNat (0 : Int)) (coV (lps L') (List.getD T' (IntKind.wrap .i64 ((↑(List.length T') : Int) - 1)).toNat (0 : Int))))))], .ptr 0 8, .agg [.imm (.ints IntKind.i64 T'), by' I', .imm (.sl 3 X'), by' C', .imm (.sl 2 L'), .imm (.bools S'), .imm (.bools U')], .ptr 0 8, .ptr 0 9, by' I', i64 (↑(List.length T') : Int), i64 (IntKind.wrap .i64 ((↑(List.length T') : Int) - 1)), AV.elv [IV.int .u8 (↑(UInt8.toNat (List.getD I' (IntKind.wrap .i64 ((↑(List.length T') : Int) - 1)).toNat (0 : UInt8))) : Int)], .imm (.int .u8 (↑(UInt8.toNat (List.getD I' (IntKind.wrap .i64 ((↑(List.length T') : Int) - 1)).toNat (0 : UInt8))) : Int)), i64 (IntKind.wrap .i64 (↑(UInt8.toNat (List.getD I' (IntKind.wrap .i64 ((↑(List.length T') : Int) - 1)).toNat (0 : UInt8))) : Int)), .agg [bo true, i64 (IntKind.wrap .i64 (ivInt (ivNth (List.getD X' (IntKind.wrap .i64 (↑(UInt8.toNat (List.getD I' (IntKind.wrap .i64 ((↑(List.length T') : Int) - 1)).toNat (0 : UInt8))) : Int)).toNat []) 0))), bo (ivBool (ivNth
 (List.getD X' (IntKind.wrap .i64 (↑(UInt8.toNat (List.getD I' (IntKind.wrap .i64 ((↑(List.length T') : Int) - 1)).toNat (0 : UInt8))) : Int)).toNat []) (0 + 1))), .imm (.str (nmV C' (IntKind.wrap .i64 (ivInt (ivNth (List.getD X' (IntKind.wrap .i64 (↑(UInt8.toNat (List.getD I' (IntKind.wrap .i64 ((↑(List.length T') : Int) - 1)).toNat (0 : UInt8))) : Int)).toNat []) (0 + 1 + 1))))).1)], bo (!(true == true && (atO (Pz.s Q1) (Pz.o Q1) (Pz.h Q1) (Pz.t Q1) (Pz.p Q1) (Pz.a Q1) (Pz.b Q1) (Pz.c Q1) (Pz.d Q1) (Pz.e Q1) (Pz.f Q1) (Pz.a' Q1) (Pz.b' Q1) (Pz.c' Q1) (Pz.d' Q1) (Pz.e' Q1) (Pz.f' Q1) (minU (List.getD T' (IntKind.wrap .i64 ((↑(List.length T') : Int) - 1)).toNat (0 : Int)) (coV (lps L') (List.getD T' (IntKind.wrap .i64 ((↑(List.length T') : Int) - 1)).toNat (0 : Int)))) == IntKind.wrap .i64 (ivInt (ivNth (List.getD X' (IntKind.wrap .i64 (↑(UInt8.toNat (List.getD I' (IntKind.wrap .i64 ((↑(List.length T') : Int) - 1)).toNat (0 : UInt8))) : Int)).toNat []) 0)) && (atD (Pz.s Q1) (Pz.o Q1) (Pz.h Q1) (Pz.t Q1) (Pz.p Q1) (Pz.a Q1) (Pz.b Q1) (Pz.c Q1) (Pz.d Q1) (Pz.e Q1) (Pz.f Q1) (Pz.a' Q1) (Pz.b' Q1) (Pz.c' Q1) (Pz.d' Q1) (Pz.e' Q1) (Pz.f' Q1) (minU (List.getD T' (IntKind.wrap .i64
 ((↑(List.length T') : Int) - 1)).toNat (0 : Int)) (coV (lps L') (List.getD T' (IntKind.wrap .i64 ((↑(List.length T') : Int) - 1)).toNat (0 : Int)))) == ivBool (ivNth (List.getD X' (IntKind.wrap .i64 (↑(UInt8.toNat (List.getD I' (IntKind.wrap .i64 ((↑(List.length T') : Int) - 1)).toNat (0 : UInt8))) : Int)).toNat []) (0 + 1)) && (decide (atN (Pz.s Q1) (Pz.o Q1) (Pz.h Q1) (Pz.t Q1) (Pz.p Q1) (Pz.a Q1) (Pz.b Q1) (Pz.c Q1) (Pz.d Q1) (Pz.e Q1) (Pz.f Q1) (Pz.a' Q1) (Pz.b' Q1) (Pz.c' Q1) (Pz.d' Q1) (Pz.e' Q1) (Pz.f' Q1) (minU (List.getD T' (IntKind.wrap .i64 ((↑(List.length T') : Int) - 1)).toNat (0 : Int)) (coV (lps L') (List.getD T' (IntKind.wrap .i64 ((↑(List.length T') : Int) - 1)).toNat (0 : Int)))) = (nmV C' (IntKind.wrap .i64 (ivInt (ivNth (List.getD X' (IntKind.wrap .i64 (↑(UInt8.toNat (List.getD I' (IntKind.wrap .i64 ((↑(List.length T') : Int) - 1)).toNat (0 : UInt8))) : Int)).toNat []) (0 + 1 + 1))))).1) && true)))))])) [(0, Ob.mk true 0 (AObj.cells [i64 v, .imm (.ints IntKind.i64 T), by' I, .imm (.sl 3 X), by' C, .imm (.sl 2 L), .imm (.bools S), .imm (.bools U), .imm (.ints IntKind.i64 T'), by' I', .imm (.sl 3 X'), by' C', .imm (.sl 2 L'), .imm (.bools S'), .imm (.bools U'),
 .imm (.str f)])), (1, Ob.mk true 0 (AObj.cells [.imm (.str (Pz.s Q1)), i64 (Pz.o Q1), bo (Pz.h Q1), .imm (.str (Pz.t Q1)), i64 (Pz.p Q1), i64 (Pz.a Q1), i64 (Pz.b Q1), i64 (Pz.c Q1), i64 (Pz.d Q1), i64 (Pz.e Q1), i64 (Pz.f Q1), i64 (Pz.a' Q1), i64 (Pz.b' Q1), i64 (Pz.c' Q1), i64 (Pz.d' Q1), i64 (Pz.e' Q1), i64 (Pz.f' Q1)]))] 2 []))); brn (decide (f = [])) (K [i64 0, i64 0]) ((f.length : Int) ≤ 1000000 ∧ brn (Pz.er Q1 != 0) (K [i64 14, i64 (Pz.at' Q1)]) (brn (v == 2 && extU (Pz.h Q1) (Pz.f Q1) (Pz.f' Q1)) (K [i64 16, i64 0]) (brn ((↑(List.length T') : Int) == 0) (K [i64 0, i64 0]) ((0 : Int) ≤ IntKind.wrap .i64 ((↑(List.length T') : Int) - 1) ∧ IntKind.wrap .i64 ((↑(List.length T') : Int) - 1) < (↑(List.length T') : Int) ∧ okL L' ∧ (↑(List.length L') : Int) ≤ 1000000 ∧ ((0 : Int) ≤ IntKind.wrap .i64 ((↑(List.length T') : Int) - 1) ∧ IntKind.wrap .i64 ((↑(List.length T') : Int) - 1) < (↑(List.length I') : Int) ∧ (okRu (Pz.o Q1) (Pz.p Q1) (Pz.h Q1) (vDay (Pz.a Q1) (Pz.b Q1) (Pz.c Q1) (Pz.d Q1) (Pz.e Q1) (Pz.f Q1)) (vDay (Pz.a' Q1) (Pz.b' Q1) (Pz.c' Q1) (Pz.d' Q1) (Pz.e' Q1) (Pz.f' Q1)) ∧ (-9223372036854775808 : Int) ≤ minU (List.getD T' (IntKind.wrap .i64 ((↑(List.length T') : Int) -
 1)).toNat (0 : Int)) (coV (lps L') (List.getD T' (IntKind.wrap .i64 ((↑(List.length T') : Int) - 1)).toNat (0 : Int))) ∧ minU (List.getD T' (IntKind.wrap .i64 ((↑(List.length T') : Int) - 1)).toNat (0 : Int)) (coV (lps L') (List.getD T' (IntKind.wrap .i64 ((↑(List.length T') : Int) - 1)).toNat (0 : Int))) ≤ 9223372036854775807 ∧ okT X' ∧ (0 : Int) ≤ IntKind.wrap .i64 (↑(UInt8.toNat (List.getD I' (IntKind.wrap .i64 ((↑(List.length T') : Int) - 1)).toNat (0 : UInt8))) : Int) ∧ IntKind.wrap .i64 (↑(UInt8.toNat (List.getD I' (IntKind.wrap .i64 ((↑(List.length T') : Int) - 1)).toNat (0 : UInt8))) : Int) < (↑(List.length X') : Int) ∧ (↑(List.length C') : Int) ≤ 1000000 ∧ E1) ∧ okRu (Pz.o Q1) (Pz.p Q1) (Pz.h Q1) (vDay (Pz.a Q1) (Pz.b Q1) (Pz.c Q1) (Pz.d Q1) (Pz.e Q1) (Pz.f Q1)) (vDay (Pz.a' Q1) (Pz.b' Q1) (Pz.c' Q1) (Pz.d' Q1) (Pz.e' Q1) (Pz.f' Q1)) ∧ (-9223372036854775808 : Int) ≤ minU (List.getD T' (IntKind.wrap .i64 ((↑(List.length T') : Int) - 1)).toNat (0 : Int)) (coV (lps L') (List.getD T' (IntKind.wrap .i64 ((↑(List.length T') : Int) - 1)).toNat (0 : Int))) ∧ minU (List.getD T' (IntKind.wrap .i64 ((↑(List.length T') : Int) - 1)).toNat (0 : Int)) (coV (lps L') (List.getD T'
 (IntKind.wrap .i64 ((↑(List.length T') : Int) - 1)).toNat (0 : Int))) ≤ 9223372036854775807 ∧ okT X' ∧ (0 : Int) ≤ IntKind.wrap .i64 (↑(UInt8.toNat (List.getD I' (IntKind.wrap .i64 ((↑(List.length T') : Int) - 1)).toNat (0 : UInt8))) : Int) ∧ IntKind.wrap .i64 (↑(UInt8.toNat (List.getD I' (IntKind.wrap .i64 ((↑(List.length T') : Int) - 1)).toNat (0 : UInt8))) : Int) < (↑(List.length X') : Int) ∧ (↑(List.length C') : Int) ≤ 1000000 ∧ E1) ∧ brn (!(true == true && (atO (Pz.s Q1) (Pz.o Q1) (Pz.h Q1) (Pz.t Q1) (Pz.p Q1) (Pz.a Q1) (Pz.b Q1) (Pz.c Q1) (Pz.d Q1) (Pz.e Q1) (Pz.f Q1) (Pz.a' Q1) (Pz.b' Q1) (Pz.c' Q1) (Pz.d' Q1) (Pz.e' Q1) (Pz.f' Q1) (minU (List.getD T' (IntKind.wrap .i64 ((↑(List.length T') : Int) - 1)).toNat (0 : Int)) (coV (lps L') (List.getD T' (IntKind.wrap .i64 ((↑(List.length T') : Int) - 1)).toNat (0 : Int)))) == IntKind.wrap .i64 (ivInt (ivNth (List.getD X' (IntKind.wrap .i64 (↑(UInt8.toNat (List.getD I' (IntKind.wrap .i64 ((↑(List.length T') : Int) - 1)).toNat (0 : UInt8))) : Int)).toNat []) 0)) && (atD (Pz.s Q1) (Pz.o Q1) (Pz.h Q1) (Pz.t Q1) (Pz.p Q1) (Pz.a Q1) (Pz.b Q1) (Pz.c Q1) (Pz.d Q1) (Pz.e Q1) (Pz.f Q1) (Pz.a' Q1) (Pz.b' Q1) (Pz.c' Q1) (Pz.d' Q1) (Pz.e' Q1)
 (Pz.f' Q1) (minU (List.getD T' (IntKind.wrap .i64 ((↑(List.length T') : Int) - 1)).toNat (0 : Int)) (coV (lps L') (List.getD T' (IntKind.wrap .i64 ((↑(List.length T') : Int) - 1)).toNat (0 : Int)))) == ivBool (ivNth (List.getD X' (IntKind.wrap .i64 (↑(UInt8.toNat (List.getD I' (IntKind.wrap .i64 ((↑(List.length T') : Int) - 1)).toNat (0 : UInt8))) : Int)).toNat []) (0 + 1)) && (decide (atN (Pz.s Q1) (Pz.o Q1) (Pz.h Q1) (Pz.t Q1) (Pz.p Q1) (Pz.a Q1) (Pz.b Q1) (Pz.c Q1) (Pz.d Q1) (Pz.e Q1) (Pz.f Q1) (Pz.a' Q1) (Pz.b' Q1) (Pz.c' Q1) (Pz.d' Q1) (Pz.e' Q1) (Pz.f' Q1) (minU (List.getD T' (IntKind.wrap .i64 ((↑(List.length T') : Int) - 1)).toNat (0 : Int)) (coV (lps L') (List.getD T' (IntKind.wrap .i64 ((↑(List.length T') : Int) - 1)).toNat (0 : Int)))) = (nmV C' (IntKind.wrap .i64 (ivInt (ivNth (List.getD X' (IntKind.wrap .i64 (↑(UInt8.toNat (List.getD I' (IntKind.wrap .i64 ((↑(List.length T') : Int) - 1)).toNat (0 : UInt8))) : Int)).toNat []) (0 + 1 + 1))))).1) && true))))) (K [i64 15, i64 0]) (K [i64 0, i64 0])))))) := by subst hQ1; kernel_rfl
end Y27
set_option maxRecDepth 100000
namespace Y27
open Go Go.AE Go.Proofs E6
attribute [local irreducible] loopK evCode evSpec loopB norm
theorem wrap_b (n : Int) : -9223372036854775808 ≤ IntKind.wrap .i64 n ∧ IntKind.wrap .i64 n ≤ 9223372036854775807 := by
  rw [wrap64m]; omega
theorem min_b (t c : Int) : -9223372036854775808 ≤ minU t c ∧ minU t c ≤ 9223372036854775807 := by
  unfold minU
  split
  · decide
  · split
    · decide
    · exact wrap_b _
theorem brn_bif {K : List AV → Prop} {B : Bool} {x : Int} (h : K [i64 (bif B then x else 0), i64 0]) : brn B (K [i64 x, i64 0]) (K [i64 0, i64 0]) := by
  cases B with
  | true => exact brn_T rfl h
  | false => exact brn_Fa rfl h
theorem ft_ex (v : Int) (T : List Int) (I : List UInt8) (X : List (List IV)) (C : List UInt8) (L : List (List IV)) (S U : List Bool) (T' : List Int) (I' : List UInt8) (X' : List (List IV)) (C' : List UInt8) (L' : List (List IV)) (S' U' : List Bool) (f : List UInt8)
    (hp : okBp T' I' X' C' L' S' U') (hb : okBl T' I' (tys X') C' S' U') (hf : (f.length : Int) ≤ 1000000) :
    ∃ r : Int × Int, (r.1 = 0 → cln f f.length) ∧ ∀ K : List AV → Prop, K [i64 r.1, i64 r.2] → evSpec N23 Tryz.f39 [.agg (fiC v T I X C L S U T' I' X' C' L' S' U' f)] K := by
  obtain ⟨hX, hL, l1, l2, l3, l4, l5, l6⟩ := hp
  obtain ⟨b1, b2, b3, b4, b5, b6⟩ := hb
  obtain ⟨Q, hQ⟩ : ∃ Q, Q = pzV f := ⟨_, rfl⟩
  have g := fun K => g39_in v T I X C L S U T' I' X' C' L' S' U' f K Q hQ
  by_cases h0 : f = []
  · refine ⟨(0, 0), fun _ => ?_, fun K hK => ?_⟩
    · rw [h0]; exact ⟨Int.le_refl 0, Int.le_refl 0, clr_nil [] 0⟩
    · rw [g]
      intro E1
      exact brn_T (decide_eq_true h0) hK
  · have hz := decide_eq_false h0
    have hok : okPz f Q := by rw [hQ]; exact pz_sp hf
    cases he : (Q.er != 0) with
    | true =>
      refine ⟨(14, Q.at'), fun h => absurd h (by show ¬ (14 : Int) = 0; decide), fun K hK => ?_⟩
      rw [g]
      intro E1
      exact brn_Fa hz ⟨hf, brn_T he hK⟩
    | false =>
      have he0 : Q.er = 0 := bne_eq_false_iff_eq.mp he
      obtain ⟨hcl, hru⟩ := hok he0
      cases hx : (v == 2 && extU Q.h Q.f Q.f') with
      | true =>
        refine ⟨(16, 0), fun h => absurd h (by decide), fun K hK => ?_⟩
        rw [g]
        intro E1
        exact brn_Fa hz ⟨hf, brn_Fa he (brn_T hx hK)⟩
      | false =>
        cases hn : ((T'.length : Int) == 0) with
        | true =>
          refine ⟨(0, 0), fun _ => hcl, fun K hK => ?_⟩
          rw [g]
          intro E1
          exact brn_Fa hz ⟨hf, brn_Fa he (brn_Fa hx (brn_T hn hK))⟩
        | false =>
          have hn0 : T'.length ≠ 0 := fun h => by rw [h] at hn; exact absurd hn (by decide)
          have ew : IntKind.wrap .i64 ((T'.length : Int) - 1) = (T'.length : Int) - 1 := wrap64 (by omega) (by omega)
          have w0 : 0 ≤ IntKind.wrap .i64 ((T'.length : Int) - 1) := by omega
          have wT : IntKind.wrap .i64 ((T'.length : Int) - 1) < T'.length := by omega
          have wI : IntKind.wrap .i64 ((T'.length : Int) - 1) < I'.length := by omega
          have hi := b6 (IntKind.wrap .i64 ((T'.length : Int) - 1)).toNat (by omega)
          rw [tys_len hX] at hi
          have eB := wrapB (I'.getD (IntKind.wrap .i64 ((T'.length : Int) - 1)).toNat 0)
          have x0 : 0 ≤ IntKind.wrap .i64 ((I'.getD (IntKind.wrap .i64 ((T'.length : Int) - 1)).toNat 0).toNat : Int) := by omega
          have x1 : IntKind.wrap .i64 ((I'.getD (IntKind.wrap .i64 ((T'.length : Int) - 1)).toNat 0).toNat : Int) < X'.length := by omega
          have mb := fun t c => min_b t c
          exact ⟨(bif _ then 15 else 0, 0), fun _ => hcl, fun K hK => by
            rw [g]
            intro E1
            have hE : E1 := rfl
            clear_value E1
            exact brn_Fa hz ⟨hf, brn_Fa he (brn_Fa hx (brn_Fa hn ⟨w0, wT, hL, l5, ⟨w0, wI, ⟨hru, (mb _ _).1, (mb _ _).2, hX, x0, x1, l4, hE⟩, hru, (mb _ _).1, (mb _ _).2, hX, x0, x1, l4, hE⟩, brn_bif hK⟩))⟩⟩
end Y27
set_option maxRecDepth 100000
namespace Y27
open Go Go.AE Go.Proofs E6
noncomputable section
def ftV (n : Int) (T : List Int) (I : List UInt8) (X : List (List IV)) (C : List UInt8) (L : List (List IV)) (S U : List Bool) (T' : List Int) (I' : List UInt8) (X' : List (List IV)) (C' : List UInt8) (L' : List (List IV)) (S' U' : List Bool) (f : List UInt8) : Int × Int := Classical.epsilon fun v : Int × Int => (v.1 = 0 → cln f f.length) ∧ ∀ K : List AV → Prop, K [i64 v.1, i64 v.2] → evSpec N23 Tryz.f39 [.agg (fiC n T I X C L S U T' I' X' C' L' S' U' f)] K
def sFoot : List AV → Option (List Prop × List AV)
  | [.agg [.imm (.int .i64 n), .imm (.ints .i64 T), .imm (.bytes I), .imm (.sl 3 X), .imm (.bytes C), .imm (.sl 2 L), .imm (.bools S), .imm (.bools U), .imm (.ints .i64 T'), .imm (.bytes I'), .imm (.sl 3 X'), .imm (.bytes C'), .imm (.sl 2 L'), .imm (.bools S'), .imm (.bools U'), .imm (.str f)]] => some ([okBp T' I' X' C' L' S' U', okBl T' I' (tys X') C' S' U', (f.length : Int) ≤ 1000000], [i64 (ftV n T I X C L S U T' I' X' C' L' S' U' f).1, i64 (ftV n T I X C L S U T' I' X' C' L' S' U' f).2])
  | _ => none
def F36 := addE F35 39 sFoot
def N24 : Cx := ⟨Tryz.prog, F36, noCall, G16, 4004⟩
def N25 : Cx := ⟨Tryz.prog, F36, noCall, G16, 4003⟩
end
attribute [local irreducible] loopK evCode evSpec loopB norm
theorem ok39e : ∀ args pres res, sFoot args = some (pres, res) → SpecOK Tryz.prog G16 39 args pres res := by
  intro args pres res h
  unfold sFoot at h
  split at h
  case h_2 => cases h
  cases h
  exact spec_ok (C := N23) okF35 noCall_ok Tryz.func39 (by kernel_rfl) (by kernel_rfl) (fun hp => (Classical.epsilon_spec (ft_ex _ _ _ _ _ _ _ _ _ _ _ _ _ _ _ _ (hp _ (by simp)) (hp _ (by simp)) (hp _ (by simp)))).2 _ rfl)
theorem okF36 : EOK Tryz.prog F36 G16 := addE_ok okF35 ok39e
end Y27
