/- The walk's evaluator and its laws (over whatever program), and contracts of the program's functions. -/
import Derived.Test.YthdioiodfodlpaaGreatDoorAe3
import Derived.Lib.Mul64
import Derived.KernelRfl
import Derived.Lib.BytesEntry
import Derived.WalkKit
import Derived.Lib.Walk
import Derived.Laws.Externs
import Derived.ProofKit
import Derived.WideKeyArgs
import Derived.SizedLaws
import Derived.ChangeSlices
import Derived.Test.YthdioiodfodlpaaGreatDoorRows
import Derived.Test.YthdioiodfodlpaaGreatDoorTie
import Derived.Test.YthdioiodfodlpaaGreatDoorCards
import Derived.LaidMore
import Derived.LaidHandle
import Derived.LaidLaws
import Derived.OpenShut
import Derived.Stop.Joined
import Derived.SevenTiedAt
set_option linter.all false
set_option maxRecDepth 100000
namespace Y27
open Go Go.AE Go.Proofs E6
attribute [local irreducible] loopK evCode evSpec loopB norm
theorem f23_ev (d : List UInt8) (K : List AV → Prop) (hK : K [curAV d 0 0 0]) : evSpec K0 Tryz.f27 [by' d] K := Eq.mpr (f23_in d K) hK
theorem f26_ev (d : List UInt8) (p e a : Int) (h : okU ⟨d, p, e, a⟩) (K : List AV → Prop) (hK : K [i64 (restU ⟨d, p, e, a⟩)]) : evSpec K0 Tryz.f51 [curAV d p e a] K := by
  obtain ⟨h0, h1, h2⟩ := h
  simp only at h0 h1 h2
  refine Eq.mpr (f26_in d p e a K) (brn_intro (fun h => ?_) (fun h => ?_))
  · have he : ¬ e = 0 := by simpa using h
    unfold restU at hK
    rw [if_neg he] at hK
    exact hK
  · have he : e = 0 := by simpa using h
    unfold restU at hK
    rw [if_pos he] at hK
    rw [wrap64 (by omega) (by omega)]
    exact hK
theorem f27_ev (d : List UInt8) (p e a w t : Int) (K : List AV → Prop) (hK : K [(failU ⟨d, p, e, a⟩ w t).av]) : evSpec K0 Tryz.f79 [curAV d p e a, i64 w, i64 t] K := by
  refine Eq.mpr (f27_in d p e a w t K) (brn_intro (fun h => ?_) (fun h => ?_))
  · have he : e = 0 ∧ w ≠ 0 := by simpa using h
    unfold failU at hK
    rw [if_pos he] at hK
    exact hK
  · have he : ¬ (e = 0 ∧ w ≠ 0) := by
      rintro ⟨q1, q2⟩
      simp [q1, q2] at h
    unfold failU at hK
    rw [if_neg he] at hK
    exact hK
theorem f10_ev (T : List Int) (I : List UInt8) (X : List (List IV)) (C : List UInt8) (L : List (List IV)) (S U : List Bool) (K : List AV → Prop) (hK : K [bo (fewB T I X C L S U)]) : evSpec K0 Tryz.f36 [blkAV T I X C L S U] K := by
  refine Eq.mpr (f10_in T I X C L S U K) ?_
  have e1 : ∀ n : Nat, decide ((n : Int) ≤ 200) = decide (n ≤ 200) := fun n => decide_eq_decide.2 (by omega)
  have e2 : ∀ n : Nat, decide ((n : Int) ≤ 600) = decide (n ≤ 600) := fun n => decide_eq_decide.2 (by omega)
  simp only [e1, e2]
  exact hK
theorem f17_ev (T : List Int) (I : List UInt8) (X : List (List IV)) (C : List UInt8) (L : List (List IV)) (S U : List Bool) (v : Int) (K : List AV → Prop) (hK : K [(hdOf T X C L S U v).av]) : evSpec K0 Tryz.f21 [blkAV T I X C L S U, i64 v] K := Eq.mpr (f17_in T I X C L S U v K) hK
theorem f36_ev (h : Hd) (hh : okH h) (s : Int) (hs : sz48 s) (K : List AV → Prop) (hK : K [.agg [u6 (l0 h s), u6 (l1 h), u6 (l2 h), u6 (l3 h), u6 (l4 h s), u6 (l5 h), u6 (l6 h)]]) : evSpec K0 Tryz.f40 [h.av, i64 s] K := by
  obtain ⟨v, iu, is, l, t, ty, c⟩ := h
  obtain ⟨⟨a1, a2⟩, ⟨b1, b2⟩, ⟨c1, c2⟩, ⟨d1, d2⟩, ⟨e1, e2⟩, ⟨f1, f2⟩⟩ := hh
  simp only at a1 a2 b1 b2 c1 c2 d1 d2 e1 e2 f1 f2
  refine Eq.mpr (f36_in v iu is l t ty c s K) ?_
  have hs1 : 4 ≤ s ∧ s ≤ 8 := by rcases hs with rfl | rfl <;> decide
  have g1 : 0 ≤ t * s ∧ t * s < 18446744073709551616 := ⟨Int.mul_nonneg d1 (by omega), by rcases hs with rfl | rfl <;> omega⟩
  have g2 : 0 ≤ l * (s + 4) ∧ l * (s + 4) < 18446744073709551616 := ⟨Int.mul_nonneg c1 (by omega), by rcases hs with rfl | rfl <;> omega⟩
  rw [wrapU (n := t) d1 (by omega), wrapU (n := s) (by omega) (by omega), wrapU (n := t * s) g1.1 g1.2, wrapU (n := ty) e1 (by omega), wrapU (n := 6 * ty) (by omega) (by omega), wrapU (n := c) f1 (by omega), wrapU (n := l) c1 (by omega),
    wrapU (n := s + 4) (by omega) (by omega), wrapU (n := l * (s + 4)) g2.1 g2.2, wrapU (n := is) b1 (by omega), wrapU (n := iu) a1 (by omega)]
  exact hK
theorem f74_ev (a b m : Int) (a0 : 0 ≤ a) (a1 : a ≤ 4294967295) (b0 : 0 ≤ b) (b1 : b ≤ 4294967295) (K : List AV → Prop) (hK : K [u6 (mulU a b m), bo (decide (a * b ≤ m))]) : evSpec K1 Tryz.f106 [u6 a, u6 b, u6 m] K := by
  refine Eq.mpr (f74_in a b m K) ⟨a0, a1, b0, b1, brn_intro (fun h => ?_) (fun h => ?_)⟩
  · have h : ¬ a * b ≤ m := by
      simp only [bne_self_eq_false, Bool.false_or, decide_eq_true_eq] at h; omega
    unfold mulU at hK
    rw [if_neg h, decide_eq_false h] at hK
    exact hK
  · have h : a * b ≤ m := by
      simp only [bne_self_eq_false, Bool.false_or, decide_eq_false_iff_not] at h; omega
    unfold mulU at hK
    rw [if_pos h, decide_eq_true h] at hK
    exact hK
theorem f64_ev (d : List UInt8) (p e a n : Int) (hu : okU ⟨d, p, e, a⟩) (K : List AV → Prop) (hK : K [(advU ⟨d, p, e, a⟩ n).av, bo (advOk ⟨d, p, e, a⟩ n)]) : evSpec K1 Tryz.f89 [curAV d p e a, i64 n] K := by
  obtain ⟨h0, h1, h2⟩ := hu
  simp only at h0 h1 h2
  refine Eq.mpr (f64_in d p e a n K) (brn_intro (fun h => ?_) (fun h => ?_))
  · have he : ¬ e = 0 := by simpa using h
    unfold advU advOk at hK
    rw [if_neg he, decide_eq_false (fun q => he q.1)] at hK
    exact hK
  · have he : e = 0 := by simpa using h
    subst he
    refine ⟨fun _ => ⟨h0, h1, h2⟩, brn_intro (fun h => ?_) (fun h => ?_)⟩
    · have h : ¬ (0 ≤ n ∧ n ≤ restU ⟨d, p, 0, a⟩) := by
        simp only [Bool.or_eq_true, decide_eq_true_eq] at h; omega
      unfold advU advOk at hK
      rw [if_pos rfl, if_neg h, decide_eq_false (fun q => h q.2)] at hK
      exact hK
    · have h : 0 ≤ n ∧ n ≤ restU ⟨d, p, 0, a⟩ := by
        simp only [Bool.or_eq_false_iff, decide_eq_false_iff_not] at h; omega
      unfold advU advOk at hK
      rw [if_pos rfl, if_pos h, decide_eq_true ⟨rfl, h⟩] at hK
      have hr : restU ⟨d, p, 0, a⟩ = (d.length : Int) - p := by unfold restU; rw [if_pos rfl]
      rw [hr] at h
      rw [wrap64 (by omega) (by omega)]
      exact hK
theorem sameK_eq (T : List Int) (I : List UInt8) (X : List (List IV)) (C : List UInt8) (L : List (List IV)) (S U : List Bool) (T' : List Int) (I' : List UInt8) (X' : List (List IV)) (C' : List UInt8) (L' : List (List IV)) (S' U' : List Bool) :
    (decide (T = T') && decide (I = I') && decide (tys X = tys X') && decide (C = C') && decide (lps L = lps L') && decide (S = S') && decide (U = U')) = sameK T I X C L S U T' I' X' C' L' S' U' := by
  unfold sameK
  simp only [Bool.and_assoc]
theorem f14_ev (T : List Int) (I : List UInt8) (X : List (List IV)) (C : List UInt8) (L : List (List IV)) (S U : List Bool) (T' : List Int) (I' : List UInt8) (X' : List (List IV)) (C' : List UInt8) (L' : List (List IV)) (S' U' : List Bool) (h : okB T I X C L S U) (h' : okB T' I' X' C' L' S' U')
    (K : List AV → Prop) (hK : K [bo (sameK T I X C L S U T' I' X' C' L' S' U')]) : evSpec K1 Tryz.f38 [blkAV T I X C L S U, blkAV T' I' X' C' L' S' U'] K := by
  obtain ⟨a1, a2, a3, a4, a5, a6, a7, a8, a9⟩ := h
  obtain ⟨b1, b2, b3, b4, b5, b6, b7, b8, b9⟩ := h'
  have hbig : big' = 1000000000000 := rfl
  have hbig2 : big = 4611686018427387904 := rfl
  refine Eq.mpr (f14_in T I X C L S U T' I' X' C' L' S' U' K) ?_
  rw [sameK_eq]
  exact ⟨a3, b3, fun _ => by omega, fun _ => by omega, fun _ => a1, fun _ => b1, fun _ => by omega, fun _ => by omega, fun _ => by omega, fun _ => by omega, fun _ => a2, fun _ => b2, fun _ => a7, fun _ => b7, fun _ => a8, fun _ => b8, fun _ => a9, fun _ => b9, hK⟩
theorem f65_ev (h : Hd) (hh : okH h) (s : Int) (hs : sz48 s) (K : List AV → Prop) (hK : K [.agg [u6 (l0 h s), u6 (l1 h), u6 (l2 h), u6 (l3 h), u6 (l4 h s), u6 (l5 h), u6 (l6 h)]]) : evSpec K1u Tryz.f108 [h.av, i64 s] K := by
  obtain ⟨v, iu, is, l, t, ty, c⟩ := h
  obtain ⟨⟨a1, a2⟩, ⟨b1, b2⟩, ⟨c1, c2⟩, ⟨d1, d2⟩, ⟨e1, e2⟩, ⟨f1, f2⟩⟩ := hh
  simp only at a1 a2 b1 b2 c1 c2 d1 d2 e1 e2 f1 f2
  refine Eq.mpr (f65_in v iu is l t ty c s K) ?_
  have hs1 : 4 ≤ s ∧ s ≤ 8 := by rcases hs with rfl | rfl <;> decide
  have g1 : 0 ≤ t * s ∧ t * s < 18446744073709551616 := ⟨Int.mul_nonneg d1 (by omega), by rcases hs with rfl | rfl <;> omega⟩
  have g2 : 0 ≤ l * (s + 4) ∧ l * (s + 4) < 18446744073709551616 := ⟨Int.mul_nonneg c1 (by omega), by rcases hs with rfl | rfl <;> omega⟩
  simp only [wrapU (n := t) d1 (by omega), wrapU (n := s) (by omega) (by omega), wrapU (n := t * s) g1.1 g1.2, wrapU (n := ty) e1 (by omega), wrapU (n := c) f1 (by omega), wrapU (n := l) c1 (by omega),
    wrapU (n := s + 4) (by omega) (by omega), wrapU (n := l * (s + 4)) g2.1 g2.2, wrapU (n := is) b1 (by omega), wrapU (n := iu) a1 (by omega), Int.mul_one, wrapU (n := ty * 6) (by omega) (by omega)]
  rw [Int.mul_comm ty 6]
  exact hK
theorem lens_bound {h : Hd} (hh : okH h) {s : Int} (hs : sz48 s) : (0 ≤ l0 h s ∧ l0 h s ≤ 34359738360) ∧ (0 ≤ l1 h ∧ l1 h ≤ 4294967295) ∧ (0 ≤ l2 h ∧ l2 h ≤ 25769803770) ∧ (0 ≤ l3 h ∧ l3 h ≤ 4294967295) ∧ (0 ≤ l4 h s ∧ l4 h s ≤ 51539607540) ∧
    (0 ≤ l5 h ∧ l5 h ≤ 4294967295) ∧ (0 ≤ l6 h ∧ l6 h ≤ 4294967295) := by
  obtain ⟨⟨a1, a2⟩, ⟨b1, b2⟩, ⟨c1, c2⟩, ⟨d1, d2⟩, ⟨e1, e2⟩, ⟨f1, f2⟩⟩ := hh
  unfold l0 l1 l2 l3 l4 l5 l6
  rcases hs with rfl | rfl <;> omega
theorem f24_ev (h : Hd) (hh : okH h) (s : Int) (hs : sz48 s) (K : List AV → Prop) (hK : K [u6 (sumU h s)]) : evSpec K1u Tryz.f22 [h.av, i64 s] K := by
  obtain ⟨⟨a1, a2⟩, ⟨b1, b2⟩, ⟨c1, c2⟩, ⟨d1, d2⟩, ⟨e1, e2⟩, ⟨f1, f2⟩, ⟨g1, g2⟩⟩ := lens_bound hh hs
  refine Eq.mpr (f24_in h.v h.iu h.is h.l h.t h.ty h.c s K) ⟨hh, hs, ?_⟩
  have eh : Hd.mk h.v h.iu h.is h.l h.t h.ty h.c = h := rfl
  rw [eh, Int.zero_add]
  unfold sumU at hK
  rw [wrapU (n := l0 h s) (by omega) (by omega), wrapU (n := l0 h s + l1 h) (by omega) (by omega), wrapU (n := l0 h s + l1 h + l2 h) (by omega) (by omega), wrapU (n := l0 h s + l1 h + l2 h + l3 h) (by omega) (by omega),
    wrapU (n := l0 h s + l1 h + l2 h + l3 h + l4 h s) (by omega) (by omega), wrapU (n := l0 h s + l1 h + l2 h + l3 h + l4 h s + l5 h) (by omega) (by omega), wrapU (n := l0 h s + l1 h + l2 h + l3 h + l4 h s + l5 h + l6 h) (by omega) (by omega)]
  exact hK
theorem f29_ev (h : Hd) (hh : okH h) (s : Int) (hs : sz48 s) (K : List AV → Prop) (hK : K [.agg [u6 0, u6 (o1 h s), u6 (o2 h s), u6 (o3 h s), u6 (o4 h s), u6 (o5 h s), u6 (o6 h s), u6 (o7 h s)]]) : evSpec K2u Tryz.f83 [h.av, i64 s] K := by
  obtain ⟨⟨a1, a2⟩, ⟨b1, b2⟩, ⟨c1, c2⟩, ⟨d1, d2⟩, ⟨e1, e2⟩, ⟨f1, f2⟩, ⟨g1, g2⟩⟩ := lens_bound hh hs
  refine Eq.mpr (f29_in h.v h.iu h.is h.l h.t h.ty h.c s K) ⟨hh, hs, ?_⟩
  have eh : Hd.mk h.v h.iu h.is h.l h.t h.ty h.c = h := rfl
  simp only [eh, Int.zero_add]
  unfold o7 o6 o5 o4 o3 o2 o1 at hK
  simp only [wrapU (n := l0 h s) (by omega) (by omega), wrapU (n := l0 h s + l1 h) (by omega) (by omega), wrapU (n := l0 h s + l1 h + l2 h) (by omega) (by omega), wrapU (n := l0 h s + l1 h + l2 h + l3 h) (by omega) (by omega),
    wrapU (n := l0 h s + l1 h + l2 h + l3 h + l4 h s) (by omega) (by omega), wrapU (n := l0 h s + l1 h + l2 h + l3 h + l4 h s + l5 h) (by omega) (by omega), wrapU (n := l0 h s + l1 h + l2 h + l3 h + l4 h s + l5 h + l6 h) (by omega) (by omega)]
  exact hK
theorem dup {p : Prop} (h : p) : p ∧ p := ⟨h, h⟩
theorem mulU_b (x y m : Int) (h : 0 ≤ x * y) (m1 : m ≤ 18446744073709551615) : 0 ≤ mulU x y m ∧ mulU x y m ≤ 18446744073709551615 := by unfold mulU; split <;> omega
theorem stepT {a w m p : Int} {A B : Prop} (p0 : 0 ≤ p) (x0 : 0 ≤ a * w) (hf : ¬ p + a * w ≤ m → A) (hn : p + a * w ≤ m → addU p (mulU a w m) m = p + a * w → B) : brn (!decide (p + mulU a w m ≤ m) || !decide (a * w ≤ m)) A B := by
  by_cases h1 : a * w ≤ m
  · have e : mulU a w m = a * w := by unfold mulU; rw [if_pos h1]
    rw [e, decide_eq_true h1]
    by_cases h2 : p + a * w ≤ m
    · rw [decide_eq_true h2]
      exact hn h2 (by unfold addU; rw [if_pos (by rw [e]; exact h2), e])
    · rw [decide_eq_false h2]
      exact hf h2
  · rw [decide_eq_false h1, Bool.not_false, Bool.or_true]
    exact hf (by omega)
theorem f25_ev (h : Hd) (hh : okH h) (s : Int) (hs : sz48 s) (m : Int) (m0 : 0 ≤ m) (m1 : m ≤ 18446744073709551615) (K : List AV → Prop) (hK : K [u6 (if sumU h s ≤ m then sumU h s else 0), bo (decide (sumU h s ≤ m))]) : evSpec K2u Tryz.f50 [h.av, i64 s, u6 m] K := by
  obtain ⟨⟨a1, a2⟩, ⟨b1, b2⟩, ⟨c1, c2⟩, ⟨d1, d2⟩, ⟨e1, e2⟩, ⟨f1, f2⟩, ⟨g1, g2⟩⟩ := lens_bound hh hs
  obtain ⟨v, iu, is, l, t, ty, c⟩ := h
  obtain ⟨⟨p1, p2⟩, ⟨q1, q2⟩, ⟨r1, r2⟩, ⟨s1, s2⟩, ⟨t1, t2⟩, ⟨u1, u2⟩⟩ := hh
  simp only at p1 p2 q1 q2 r1 r2 s1 s2 t1 t2 u1 u2
  have hs1 : 4 ≤ s ∧ s ≤ 8 := by rcases hs with rfl | rfl <;> decide
  have no : ¬ sumU ⟨v, iu, is, l, t, ty, c⟩ s ≤ m → K [.imm (.int .u64 0), .imm (.bool false)] := fun h => by rw [if_neg h, decide_eq_false h] at hK; exact hK
  have hsum : sumU ⟨v, iu, is, l, t, ty, c⟩ s = 0 + t * s + t * 1 + ty * 6 + c * 1 + l * (s + 4) + is * 1 + iu * 1 := by unfold sumU l0 l1 l2 l3 l4 l5 l6; simp only; omega
  have z0 : 0 ≤ t * s := a1
  have z4 : 0 ≤ l * (s + 4) := e1
  have z0' : t * s ≤ 34359738360 := a2
  have z4' : l * (s + 4) ≤ 51539607540 := e2
  rw [hsum] at no hK
  refine Eq.mpr (f25_in v iu is l t ty c s m K) ?_
  intro R1
  simp only [R1]
  refine dup ?_
  clear R1 a1 a2 b1 b2 c1 c2 d1 d2 e1 e2 f1 f2 g1 g2 hsum
  simp only [wrapU (n := t) s1 (by omega), wrapU (n := s) (by omega) (by omega), wrapU (n := ty) t1 (by omega), wrapU (n := c) u1 (by omega), wrapU (n := l) r1 (by omega), wrapU (n := s + 4) (by omega) (by omega), wrapU (n := is) q1 (by omega), wrapU (n := iu) p1 (by omega)]
  refine ⟨s1, by omega, by omega, by omega, m0, m1, by omega, by omega, (mulU_b t s m (by omega) m1).1, (mulU_b t s m (by omega) m1).2, m0, m1, stepT (by omega) (by omega) (fun h => no (by omega)) (fun h e => ?_)⟩
  simp only [e]
  clear e
  refine ⟨s1, by omega, by decide, by decide, m0, m1, by omega, by omega, (mulU_b t 1 m (by omega) m1).1, (mulU_b t 1 m (by omega) m1).2, m0, m1, stepT (by omega) (by omega) (fun h => no (by omega)) (fun h e => ?_)⟩
  simp only [e]
  clear e
  refine ⟨t1, by omega, by decide, by decide, m0, m1, by omega, by omega, (mulU_b ty 6 m (by omega) m1).1, (mulU_b ty 6 m (by omega) m1).2, m0, m1, stepT (by omega) (by omega) (fun h => no (by omega)) (fun h e => ?_)⟩
  simp only [e]
  clear e
  refine ⟨u1, by omega, by decide, by decide, m0, m1, by omega, by omega, (mulU_b c 1 m (by omega) m1).1, (mulU_b c 1 m (by omega) m1).2, m0, m1, stepT (by omega) (by omega) (fun h => no (by omega)) (fun h e => ?_)⟩
  simp only [e]
  clear e
  refine ⟨r1, by omega, by omega, by omega, m0, m1, by omega, by omega, (mulU_b l (s + 4) m (by omega) m1).1, (mulU_b l (s + 4) m (by omega) m1).2, m0, m1, stepT (by omega) (by omega) (fun h => no (by omega)) (fun h e => ?_)⟩
  simp only [e]
  clear e
  refine ⟨q1, by omega, by decide, by decide, m0, m1, by omega, by omega, (mulU_b is 1 m (by omega) m1).1, (mulU_b is 1 m (by omega) m1).2, m0, m1, stepT (by omega) (by omega) (fun h => no (by omega)) (fun h e => ?_)⟩
  simp only [e]
  clear e
  refine ⟨p1, by omega, by decide, by decide, m0, m1, by omega, by omega, (mulU_b iu 1 m (by omega) m1).1, (mulU_b iu 1 m (by omega) m1).2, m0, m1, stepT (by omega) (by omega) (fun h => no (by omega)) (fun h e => ?_)⟩
  simp only [e]
  clear e
  have e7 : mulU iu 1 m = iu * 1 := by unfold mulU; rw [if_pos (by omega)]
  rw [if_pos h, decide_eq_true h] at hK
  rw [e7, decide_eq_true h]
  exact hK
theorem f28_ev (d : List UInt8) (p e a n : Int) (hu : okU ⟨d, p, e, a⟩) (K : List AV → Prop) (hK : K [.new (.bytes (takeU ⟨d, p, e, a⟩ n)), (advU ⟨d, p, e, a⟩ n).av]) : evSpec K2 Tryz.f82 [curAV d p e a, i64 n] K := by
  obtain ⟨h0, h1, h2⟩ := hu
  simp only at h0 h1 h2
  refine Eq.mpr (f28_in d p e a n K) ?_
  intro R1 R2 R3 R4 R5 R6 R7 R8
  refine ⟨⟨h0, h1, h2⟩, brn_intro (fun h => ?_) (fun h => ?_)⟩
  · have h : advOk ⟨d, p, e, a⟩ n = false := by simpa using h
    unfold takeU at hK
    rw [h] at hK
    exact hK
  · have h : advOk ⟨d, p, e, a⟩ n = true := by simpa using h
    have hq : e = 0 ∧ 0 ≤ n ∧ n ≤ restU ⟨d, p, e, a⟩ := by unfold advOk at h; simpa using h
    obtain ⟨rfl, n0, n1⟩ := hq
    have hr : restU ⟨d, p, 0, a⟩ = (d.length : Int) - p := by unfold restU; rw [if_pos rfl]
    have ha : advU ⟨d, p, 0, a⟩ n = ⟨d, p + n, 0, a⟩ := by unfold advU; rw [if_pos rfl, if_pos ⟨n0, n1⟩]
    unfold takeU at hK
    rw [h, if_pos rfl] at hK
    have e1 : (p + n).toNat - p.toNat = n.toNat := by omega
    have hR1 : R1 := by
      show K _
      rw [ha] at hK ⊢
      simp only [e1]
      exact hK
    rw [hr] at n1
    have c1 : p ≤ (advU ⟨d, p, 0, a⟩ n).p := by rw [ha]; simp only; omega
    have c2 : (advU ⟨d, p, 0, a⟩ n).p ≤ (d.length : Int) := by rw [ha]; simp only; omega
    have c3 : ((List.map u8 []).length + ((d.drop p.toNat).take ((advU ⟨d, p, 0, a⟩ n).p.toNat - p.toNat)).length) * 1 ≤ 140737488355328 := by rw [List.length_take, List.length_drop]; simp; omega
    have c4 : (List.map u8 []).length + ((d.drop p.toNat).take ((advU ⟨d, p, 0, a⟩ n).p.toNat - p.toNat)).length ≤ 140737488355328 := by omega
    clear_value R1
    repeat' first
      | exact hR1
      | exact h0
      | exact c1
      | exact c2
      | exact c3
      | exact c4
      | refine And.intro ?_ ?_
end Y27
set_option maxRecDepth 100000
namespace Y27
open Go Go.AE Go.Proofs E6
attribute [local irreducible] loopK evCode evSpec loopB norm
theorem shr32 {n : Nat} : shrV .u64 (n : Int) 32 = ((n / 4294967296 : Nat) : Int) := by
  unfold shrV
  show (n : Int).fdiv (2 ^ (min 32 64)) = _
  have : (2 : Int) ^ (min 32 64) = 4294967296 := by decide
  rw [this]
  have : (n : Int).fdiv 4294967296 = (n : Int) / 4294967296 := Int.fdiv_eq_ediv_of_nonneg _ (by decide)
  rw [this]; omega
theorem and32 {n : Nat} (h : n < 4294967296) : bitsV .and .u64 (n : Int) 4294967295 = (n : Int) := by
  unfold bitsV
  simp only
  have e1 : (BitVec.ofInt IntKind.u64.bits (n : Int) &&& BitVec.ofInt IntKind.u64.bits 4294967295).toNat = n := by
    show (BitVec.ofInt 64 (n : Int) &&& BitVec.ofInt 64 4294967295).toNat = n
    rw [BitVec.toNat_and]
    have a1 : (BitVec.ofInt 64 (n : Int)).toNat = n := by simp; omega
    have a2 : (BitVec.ofInt 64 4294967295).toNat = 4294967295 := by decide
    rw [a1, a2]
    have := Nat.and_two_pow_sub_one_eq_mod n 32
    have e : (4294967295 : Nat) = 2 ^ 32 - 1 := by decide
    rw [e, this, Nat.mod_eq_of_lt (by omega)]
  rw [e1, wrapU (by omega) (by omega)]
theorem f83_ev (a b : Int) (a0 : 0 ≤ a) (a1 : a ≤ 4294967295) (b0 : 0 ≤ b) (b1 : b ≤ 4294967295) (K : List AV → Prop) (hK : K [u6 0, u6 (a * b)]) : evSpec K0 Tryz.f124 [u6 a, u6 b] K := by
  obtain ⟨a, rfl⟩ := Int.eq_ofNat_of_zero_le a0
  obtain ⟨b, rfl⟩ := Int.eq_ofNat_of_zero_le b0
  have hab : a * b ≤ 4294967295 * 4294967295 := Nat.mul_le_mul (by omega) (by omega)
  have hq : a * b / 4294967296 < 4294967296 := by omega
  refine Eq.mpr (f83_in a b K) ⟨by decide, by decide, by decide, by decide, by decide, ?_⟩
  have z : ((0 : Nat) : Int) = 0 := rfl
  have w0 : IntKind.wrap .u64 0 = 0 := by decide
  have wab : IntKind.wrap .u64 ((a * b : Nat) : Int) = ((a * b : Nat) : Int) := wrapU (by omega) (by omega)
  have wq : IntKind.wrap .u64 ((a * b / 4294967296 : Nat) : Int) = ((a * b / 4294967296 : Nat) : Int) := wrapU (by omega) (by omega)
  have q0 : a / 4294967296 = 0 := Nat.div_eq_of_lt (by omega)
  have q1 : b / 4294967296 = 0 := Nat.div_eq_of_lt (by omega)
  have q2 : a * b / 4294967296 / 4294967296 = 0 := Nat.div_eq_of_lt hq
  rw [← Int.natCast_mul] at hK
  simp only [shr32, and32 (show a < 4294967296 by omega), and32 (show b < 4294967296 by omega), q0, q1, z, Int.zero_mul, Int.mul_zero, w0, Int.zero_add, Int.add_zero, ← Int.natCast_mul, wab, wq, and32 hq, q2]
  exact hK
end Y27
set_option maxRecDepth 100000
namespace Y27
open Go Go.AE Go.Proofs E6
attribute [local irreducible] loopK evCode evSpec loopB norm
theorem f22_in (T : List Int) (I : List UInt8) (X : List (List IV)) (C : List UInt8) (L : List (List IV)) (S : List Bool) (U : List Bool) (s : Int) (K : List AV → Prop) : evSpec K3 Tryz.f17 [blkAV T I X C L S U, i64 s] K = (sz48 s ∧ (↑(List.length T) : Int) ≤ 10000000000 ∧ ((encI s.toNat T).length + List.length I) * 1 ≤ 140737488355328 ∧ (encI s.toNat T).length + List.length I ≤ 140737488355328 ∧ okT X ∧ (↑(List.length X) : Int) ≤ 100000000000 ∧ ((encI s.toNat T ++ I).length + (enc (tys X)).length) * 1 ≤ 140737488355328 ∧ (encI s.toNat T ++ I).length + (enc (tys X)).length ≤ 140737488355328 ∧ ((encI s.toNat T ++ I ++ enc (tys X)).length + List.length C) * 1 ≤ 140737488355328 ∧ (encI s.toNat T ++ I ++ enc (tys X)).length + List.length C ≤ 140737488355328 ∧ okL L ∧ sz48 s ∧ (↑(List.length L) : Int) ≤ 10000000000 ∧ ((encI s.toNat T ++ I ++ enc (tys X) ++ C).length + (encL s.toNat (lps L)).length) * 1 ≤ 140737488355328 ∧ (encI s.toNat T ++ I ++ enc (tys X) ++ C).length + (encL s.toNat (lps L)).length ≤ 140737488355328 ∧ (↑(List.length S) : Int) ≤ big' ∧ ((encI s.toNat T ++ I ++ enc (tys X) ++ C ++ encL s.toNat (lps L)).length + (encO S).length) * 1 ≤ 140737488355328 ∧ (encI s.toNat T ++
 I ++ enc (tys X) ++ C ++ encL s.toNat (lps L)).length + (encO S).length ≤ 140737488355328 ∧ (↑(List.length U) : Int) ≤ big' ∧ ((encI s.toNat T ++ I ++ enc (tys X) ++ C ++ encL s.toNat (lps L) ++ encO S).length + (encO U).length) * 1 ≤ 140737488355328 ∧ (encI s.toNat T ++ I ++ enc (tys X) ++ C ++ encL s.toNat (lps L) ++ encO S).length + (encO U).length ≤ 140737488355328 ∧ K [AV.new (IV.bytes (encI s.toNat T ++ I ++ enc (tys X) ++ C ++ encL s.toNat (lps L) ++ encO S ++ encO U))]) := by kernel_rfl
end Y27
set_option maxRecDepth 100000
namespace Y27
open Go Go.AE Go.Proofs E6
attribute [local irreducible] loopK evCode evSpec loopB norm
theorem enc_lens {T : List Int} {I : List UInt8} {X : List (List IV)} {C : List UInt8} {L : List (List IV)} {S U : List Bool} {s : Int} (h : okE T I X C L S U) (hs : sz48 s) :
    (encI s.toNat T).length ≤ 8000000000 ∧ (enc (tys X)).length ≤ 6000000000 ∧ (encL s.toNat (lps L)).length ≤ 12000000000 ∧ (encO S).length = S.length ∧ (encO U).length = U.length := by
  obtain ⟨a1, a2, a3, a4, a5, a6, a7, a8, a9⟩ := h
  obtain ⟨n, rfl, n4, n8⟩ := sz_nat hs
  have q1 : n * T.length ≤ 8 * 1000000000 := Nat.mul_le_mul n8 (by omega)
  have q2 : (n + 4) * L.length ≤ 12 * 1000000000 := Nat.mul_le_mul (by omega) (by omega)
  refine ⟨?_, ?_, ?_, by simp [encO], by simp [encO]⟩
  · rw [Int.toNat_natCast, encI_len]; omega
  · rw [enc_len]; simp only [tys, List.length_map]; omega
  · rw [Int.toNat_natCast, encL_len]; simp only [lps, List.length_map]; omega
theorem f22_ev (T : List Int) (I : List UInt8) (X : List (List IV)) (C : List UInt8) (L : List (List IV)) (S U : List Bool) (s : Int) (h : okE T I X C L S U) (hs : sz48 s) (K : List AV → Prop) (hK : K [.new (.bytes (encB T I (tys X) C (lps L) S U s.toNat))]) : evSpec K3 Tryz.f17 [blkAV T I X C L S U, i64 s] K := by
  obtain ⟨l1, l2, l3, l4, l5⟩ := enc_lens h hs
  obtain ⟨a1, a2, a3, a4, a5, a6, a7, a8, a9⟩ := h
  have hbig : big' = 1000000000000 := rfl
  refine Eq.mpr (f22_in T I X C L S U s K) ?_
  simp only [List.length_append, Nat.mul_one]
  refine ⟨hs, by omega, by omega, by omega, a1, by omega, by omega, by omega, by omega, by omega, a2, hs, by omega, by omega, by omega, by omega, by omega, by omega, by omega, by omega, by omega, ?_⟩
  unfold encB at hK
  simpa only [List.append_assoc] using hK
end Y27
namespace Y27
open Go Go.AE Go.Proofs E6
theorem I2_ok : ∀ f fn, I2 f = some fn → Tryz.prog.funcs[f]? = some fn ∧ (fn.name == "runtime.NumGoroutine") = false := by
  intro f fn h
  unfold I2 at h
  cases h1 : Nat.beq f 80 with
  | true => rw [h1, cond_true] at h; cases h; obtain rfl := nbeq h1; exact ⟨Tryz.func80, by kernel_rfl⟩
  | false =>
    rw [h1, cond_false] at h
    cases h2 : Nat.beq f 81 with
    | true => rw [h2, cond_true] at h; cases h; obtain rfl := nbeq h2; exact ⟨Tryz.func81, by kernel_rfl⟩
    | false => rw [h2, cond_false] at h; cases h
theorem okU' {E : FuncId → List AV → Option (List Prop × List AV)} (hE : EOK Tryz.prog E G16) (u : Nat) : CallOK (inlU E u) := inl_ok hE I2_ok 3
end Y27
set_option maxRecDepth 100000
namespace Y27
open Go Go.AE Go.Proofs Go.RowKit E6
attribute [local irreducible] loopK evCode evSpec loopB norm
theorem f51_in0 (v : Int) (n : Int) (K : List AV → Prop) : evSpec K0 Tryz.f56 [i64 v, i64 n] K = (brn (n == 8) (K [bo true]) ((1 : Int) ≤ n ∧ n ≤ 8 ∧ K [bo (decide (v ≥ IntKind.wrap .i64 ((0 : Int) - IntKind.wrap .i64 ((2 : Int) ^ (8 * n.toNat - 1)))) && decide (v < IntKind.wrap .i64 ((2 : Int) ^ (8 * n.toNat - 1))))])) := by kernel_rfl
theorem f51_ev0 (v n : Int) (hn : sz48 n) (K : List AV → Prop) (hK : K [bo (fitsP v n)]) : evSpec K0 Tryz.f56 [i64 v, i64 n] K := by
  refine Eq.mpr (f51_in0 v n K) ?_
  rcases hn with rfl | rfl
  · have e : (decide (v ≥ IntKind.wrap .i64 ((0 : Int) - IntKind.wrap .i64 ((2 : Int) ^ (8 * Int.toNat 4 - 1)))) && decide (v < IntKind.wrap .i64 ((2 : Int) ^ (8 * Int.toNat 4 - 1)))) = fitsP v 4 := by
      have w1 : IntKind.wrap .i64 ((2 : Int) ^ (8 * Int.toNat 4 - 1)) = 2147483648 := by decide
      have w2 : IntKind.wrap .i64 ((0 : Int) - 2147483648) = -2147483648 := by decide
      rw [w1, w2]
      unfold fitsP
      rw [decide_eq_false (show ¬ ((4 : Int) = 8) by decide), Bool.false_or]
    exact ⟨by decide, by decide, by rw [e]; exact hK⟩
  · exact hK
theorem ok23 : ∀ args pres res, sNew args = some (pres, res) → SpecOK Tryz.prog G16 27 args pres res := by
  intro args pres res h
  unfold sNew at h
  split at h
  case h_2 => cases h
  cases h
  exact mk okE4 Tryz.func27 (by kernel_rfl) (by kernel_rfl) (fun hp K hK => f23_ev _ K hK)
theorem ok26 : ∀ args pres res, sRest args = some (pres, res) → SpecOK Tryz.prog G16 51 args pres res := by
  intro args pres res h
  unfold sRest at h
  split at h
  case h_2 => cases h
  cases h
  exact mk okE4 Tryz.func51 (by kernel_rfl) (by kernel_rfl) (fun hp K hK => f26_ev _ _ _ _ (hp _ (by simp)) K hK)
theorem ok27 : ∀ args pres res, sFail args = some (pres, res) → SpecOK Tryz.prog G16 79 args pres res := by
  intro args pres res h
  unfold sFail at h
  split at h
  case h_2 => cases h
  cases h
  exact mk okE4 Tryz.func79 (by kernel_rfl) (by kernel_rfl) (fun hp K hK => f27_ev _ _ _ _ _ _ K hK)
theorem ok10 : ∀ args pres res, sFew args = some (pres, res) → SpecOK Tryz.prog G16 36 args pres res := by
  intro args pres res h
  unfold sFew blkS at h
  split at h
  case h_2 => cases h
  try dsimp only at h
  split at h
  case h_2 => cases h
  cases h
  exact mk okE4 Tryz.func36 (by kernel_rfl) (by kernel_rfl) (fun hp K hK => f10_ev _ _ _ _ _ _ _ K hK)
theorem okF1a : EOK Tryz.prog F1a G16 := addE_ok (addE_ok (addE_ok (addE_ok okE4 ok23) ok26) ok27) ok10
theorem ok17 : ∀ args pres res, sHeader args = some (pres, res) → SpecOK Tryz.prog G16 21 args pres res := by
  intro args pres res h
  unfold sHeader blkS at h
  split at h
  case h_2 => cases h
  try dsimp only at h
  split at h
  case h_2 => cases h
  cases h
  exact mk okE4 Tryz.func21 (by kernel_rfl) (by kernel_rfl) (fun hp K hK => f17_ev _ _ _ _ _ _ _ _ K hK)
theorem ok83 : ∀ args pres res, sMul64 args = some (pres, res) → SpecOK Tryz.prog G16 124 args pres res := by
  intro args pres res h
  unfold sMul64 at h
  split at h
  case h_2 => cases h
  cases h
  exact mk okE4 Tryz.func124 (by kernel_rfl) (by kernel_rfl) (fun hp K hK => f83_ev _ _ (hp _ (by simp)) (hp _ (by simp)) (hp _ (by simp)) (hp _ (by simp)) K hK)
theorem ok75 : ∀ args pres res, sAdd args = some (pres, res) → SpecOK Tryz.prog G16 107 args pres res := by
  intro args pres res h
  unfold sAdd at h
  split at h
  case h_2 => cases h
  cases h
  rename_i a b m
  refine ⟨⟨_, Tryz.func107, by kernel_rfl, by kernel_rfl⟩, fun hp w own vals hown hs ha hG => ?_⟩
  obtain ⟨X, Y, Z, rfl⟩ : ∃ X Y Z, vals = #[X, Y, Z] := by
    have hs' : vals.size = 3 := hs
    match vals, hs' with
    | ⟨[X, Y, Z]⟩, _ => exact ⟨X, Y, Z, rfl⟩
  have rX : ARep (zeroGh w own) (.imm (.int .u64 a)) X := ha 0 _ rfl
  have rY : ARep (zeroGh w own) (.imm (.int .u64 b)) Y := ha 1 _ rfl
  have rZ : ARep (zeroGh w own) (.imm (.int .u64 m)) Z := ha 2 _ rfl
  obtain ⟨rfl, _⟩ := arep_int rX
  obtain ⟨rfl, _⟩ := arep_int rY
  obtain ⟨rfl, _⟩ := arep_int rZ
  have q1 := hp (0 ≤ a) (by simp)
  have q2 := hp (a ≤ 18446744073709551615) (by simp)
  have q3 := hp (0 ≤ b) (by simp)
  have q4 := hp (b ≤ 18446744073709551615) (by simp)
  have q5 := hp (0 ≤ m) (by simp)
  have q6 := hp (m ≤ 18446744073709551615) (by simp)
  refine (add_calls a b m q1 q2 q3 q4 q5 q6 w).mono ?_
  rintro e w' ⟨rfl, rfl⟩
  refine ⟨[.int .u64 (if a + b ≤ m then a + b else 0), .bool (decide (a + b ≤ m))], [], rfl, Below.refl _ _, ?_, fun b hb => by cases hb⟩
  refine .one (bs := []) (bs' := []) (fun cs e => by cases e) (.imm ?_ .nil) (fun b hb => by cases hb) (.one (bs := []) (bs' := []) (fun cs e => by cases e) (.imm .bool .nil) (fun b hb => by cases hb) .nil)
  have hb : 0 ≤ addU a b m ∧ addU a b m ≤ 18446744073709551615 := by
    unfold addU
    split <;> omega
  exact .int ⟨hb.1, hb.2⟩
theorem okF1b : EOK Tryz.prog F1b G16 := addE_ok (addE_ok (addE_ok okF1a ok17) ok83) ok75
theorem ok42 : ∀ args pres res, sSameI args = some (pres, res) → SpecOK Tryz.prog G16 62 args pres res := by
  intro args pres res h
  unfold sSameI at h
  split at h
  case h_2 => cases h
  cases h
  exact mk okE4 Tryz.func62 (by kernel_rfl) (by kernel_rfl) (fun hp K hK => f42_ev _ _ (hp _ (by simp)) (hp _ (by simp)) K hK)
theorem ok44 : ∀ args pres res, sSameL args = some (pres, res) → SpecOK Tryz.prog G16 65 args pres res := by
  intro args pres res h
  unfold sSameL at h
  split at h
  case h_2 => cases h
  cases h
  rename_i xs ys
  exact mk okE4 Tryz.func65 (by kernel_rfl) (by kernel_rfl) (fun hp K hK => by
    obtain ⟨L, rfl, e, hL⟩ := okL_elim (hp (okL xs) (by simp))
    obtain ⟨M, rfl, e', hM⟩ := okL_elim (hp (okL ys) (by simp))
    rw [e, e'] at hK
    have h1 := hp (((L.map cellsL).length : Int) ≤ big') (by simp)
    have h2 := hp (((M.map cellsL).length : Int) ≤ big') (by simp)
    rw [List.length_map] at h1 h2
    exact f44_ev L M h1 h2 K hK)
theorem ok45 : ∀ args pres res, sSameO args = some (pres, res) → SpecOK Tryz.prog G16 66 args pres res := by
  intro args pres res h
  unfold sSameO at h
  split at h
  case h_2 => cases h
  cases h
  exact mk okE4 Tryz.func66 (by kernel_rfl) (by kernel_rfl) (fun hp K hK => f45_ev _ _ (hp _ (by simp)) (hp _ (by simp)) K hK)
theorem okF1c : EOK Tryz.prog F1c G16 := addE_ok (addE_ok (addE_ok okF1b ok42) ok44) ok45
theorem ok36 : ∀ args pres res, sLens args = some (pres, res) → SpecOK Tryz.prog G16 40 args pres res := by
  intro args pres res h
  unfold sLens hdS at h
  split at h
  case h_2 => cases h
  cases h
  rename_i v iu is l t ty c s
  exact mk okE4 Tryz.func40 (by kernel_rfl) (by kernel_rfl) (fun hp K hK => f36_ev ⟨v, iu, is, l, t, ty, c⟩ (hp _ (by simp)) s (hp _ (by simp)) K hK)
theorem ok33 : ∀ args pres res, sDecI args = some (pres, res) → SpecOK Tryz.prog G16 87 args pres res := by
  intro args pres res h
  unfold sDecI at h
  split at h
  case h_2 => cases h
  cases h
  exact mk okE4 Tryz.func87 (by kernel_rfl) (by kernel_rfl) (fun hp K hK => f33_ev _ _ (hp _ (by simp)) (hp _ (by simp)) K hK)
theorem ok34 : ∀ args pres res, sDecL args = some (pres, res) → SpecOK Tryz.prog G16 88 args pres res := by
  intro args pres res h
  unfold sDecL at h
  split at h
  case h_2 => cases h
  cases h
  exact mk okE4 Tryz.func88 (by kernel_rfl) (by kernel_rfl) (fun hp K hK => f34_ev _ _ (hp _ (by simp)) (hp _ (by simp)) K hK)
theorem ok32 : ∀ args pres res, sDecO args = some (pres, res) → SpecOK Tryz.prog G16 86 args pres res := by
  intro args pres res h
  unfold sDecO at h
  split at h
  case h_2 => cases h
  cases h
  exact mk okE4 Tryz.func86 (by kernel_rfl) (by kernel_rfl) (fun hp K hK => f32_ev _ (hp _ (by simp)) K hK)
theorem okF1d : EOK Tryz.prog F1d G16 := addE_ok (addE_ok (addE_ok (addE_ok okF1c ok36) ok33) ok34) ok32
theorem ok58 : ∀ args pres res, sEncI args = some (pres, res) → SpecOK Tryz.prog G16 32 args pres res := by
  intro args pres res h
  unfold sEncI at h
  split at h
  case h_2 => cases h
  cases h
  exact mk okE4 Tryz.func32 (by kernel_rfl) (by kernel_rfl) (fun hp K hK => f58_ev _ _ (hp _ (by simp)) (hp _ (by simp)) K hK)
theorem ok60 : ∀ args pres res, sEncL args = some (pres, res) → SpecOK Tryz.prog G16 34 args pres res := by
  intro args pres res h
  unfold sEncL at h
  split at h
  case h_2 => cases h
  cases h
  rename_i xs s
  exact mk okE4 Tryz.func34 (by kernel_rfl) (by kernel_rfl) (fun hp K hK => by
    obtain ⟨L, rfl, e, hL⟩ := okL_elim (hp (okL xs) (by simp))
    rw [e] at hK
    have h1 := hp (((L.map cellsL).length : Int) ≤ 10000000000) (by simp)
    rw [List.length_map] at h1
    exact f60_ev L hL s (hp _ (by simp)) h1 K hK)
theorem ok61 : ∀ args pres res, sEncO args = some (pres, res) → SpecOK Tryz.prog G16 35 args pres res := by
  intro args pres res h
  unfold sEncO at h
  split at h
  case h_2 => cases h
  cases h
  exact mk okE4 Tryz.func35 (by kernel_rfl) (by kernel_rfl) (fun hp K hK => f61_ev _ (hp _ (by simp)) K hK)
theorem ok51 : ∀ args pres res, sFits args = some (pres, res) → SpecOK Tryz.prog G16 56 args pres res := by
  intro args pres res h
  unfold sFits at h
  split at h
  case h_2 => cases h
  cases h
  exact mk okE4 Tryz.func56 (by kernel_rfl) (by kernel_rfl) (fun hp K hK => f51_ev0 _ _ (hp _ (by simp)) K hK)
theorem okF1 : EOK Tryz.prog F1 G16 := addE_ok (addE_ok (addE_ok (addE_ok okF1d ok58) ok60) ok61) ok51
theorem ok74 : ∀ args pres res, sMul args = some (pres, res) → SpecOK Tryz.prog G16 106 args pres res := by
  intro args pres res h
  unfold sMul at h
  split at h
  case h_2 => cases h
  cases h
  exact mk okF1 Tryz.func106 (by kernel_rfl) (by kernel_rfl) (fun hp K hK => f74_ev _ _ _ (hp _ (by simp)) (hp _ (by simp)) (hp _ (by simp)) (hp _ (by simp)) K hK)
theorem ok64 : ∀ args pres res, sAdv args = some (pres, res) → SpecOK Tryz.prog G16 89 args pres res := by
  intro args pres res h
  unfold sAdv at h
  split at h
  case h_2 => cases h
  cases h
  exact mk okF1 Tryz.func89 (by kernel_rfl) (by kernel_rfl) (fun hp K hK => f64_ev _ _ _ _ _ (hp _ (by simp)) K hK)
theorem ok24 : ∀ args pres res, sSum args = some (pres, res) → SpecOK Tryz.prog G16 22 args pres res := by
  intro args pres res h
  unfold sSum hdS at h
  split at h
  case h_2 => cases h
  cases h
  rename_i v iu is l t ty c s
  exact spec_ok (C := K1u) okF1 (okU' okF1 9) Tryz.func22 (by kernel_rfl) (by kernel_rfl) (fun hp => f24_ev ⟨v, iu, is, l, t, ty, c⟩ (hp _ (by simp)) s (hp _ (by simp)) _ rfl)
theorem ok52 : ∀ args pres res, sFit args = some (pres, res) → SpecOK Tryz.prog G16 55 args pres res := by
  intro args pres res h
  unfold sFit at h
  split at h
  case h_2 => cases h
  cases h
  exact mk okF1 Tryz.func55 (by kernel_rfl) (by kernel_rfl) (fun hp K hK => f52_ev _ _ (hp _ (by simp)) (hp _ (by simp)) K hK)
theorem ok14 : ∀ args pres res, sEqual args = some (pres, res) → SpecOK Tryz.prog G16 38 args pres res := by
  intro args pres res h
  unfold sEqual blkS at h
  split at h
  case h_2 => cases h
  try dsimp only at h
  split at h
  case h_2 => cases h
  try dsimp only at h
  split at h
  case h_2 => cases h
  cases h
  exact mk okF1 Tryz.func38 (by kernel_rfl) (by kernel_rfl) (fun hp K hK => f14_ev _ _ _ _ _ _ _ _ _ _ _ _ _ _ (hp _ (by simp)) (hp _ (by simp)) K hK)
theorem ok65 : ∀ args pres res, sLens args = some (pres, res) → SpecOK Tryz.prog G16 108 args pres res := by
  intro args pres res h
  unfold sLens hdS at h
  split at h
  case h_2 => cases h
  cases h
  rename_i v iu is l t ty c s
  exact spec_ok (C := K1u) okF1 (okU' okF1 9) Tryz.func108 (by kernel_rfl) (by kernel_rfl) (fun hp => f65_ev ⟨v, iu, is, l, t, ty, c⟩ (hp _ (by simp)) s (hp _ (by simp)) _ rfl)
theorem okF2 : EOK Tryz.prog F2 G16 := addE_ok (addE_ok (addE_ok (addE_ok (addE_ok (addE_ok okF1 ok74) ok64) ok24) ok52) ok14) ok65
theorem ok25 : ∀ args pres res, sTotal args = some (pres, res) → SpecOK Tryz.prog G16 50 args pres res := by
  intro args pres res h
  unfold sTotal at h
  split at h
  case h_2 => cases h
  cases h
  rename_i v iu is l t ty c s m
  exact spec_ok (C := K2u) okF2 (okU' okF2 9) Tryz.func50 (by kernel_rfl) (by kernel_rfl) (fun hp => f25_ev ⟨v, iu, is, l, t, ty, c⟩ (hp _ (by simp)) s (hp _ (by simp)) m (hp _ (by simp)) (hp _ (by simp)) _ rfl)
theorem ok28 : ∀ args pres res, sTake args = some (pres, res) → SpecOK Tryz.prog G16 82 args pres res := by
  intro args pres res h
  unfold sTake at h
  split at h
  case h_2 => cases h
  cases h
  exact mk okF2 Tryz.func82 (by kernel_rfl) (by kernel_rfl) (fun hp K hK => f28_ev _ _ _ _ _ (hp _ (by simp)) K hK)
theorem ok29 : ∀ args pres res, sOffs args = some (pres, res) → SpecOK Tryz.prog G16 83 args pres res := by
  intro args pres res h
  unfold sOffs hdS at h
  split at h
  case h_2 => cases h
  cases h
  rename_i v iu is l t ty c s
  exact spec_ok (C := K2u) okF2 (okU' okF2 9) Tryz.func83 (by kernel_rfl) (by kernel_rfl) (fun hp => f29_ev ⟨v, iu, is, l, t, ty, c⟩ (hp _ (by simp)) s (hp _ (by simp)) _ rfl)
theorem okF3 : EOK Tryz.prog F3 G16 := addE_ok (addE_ok (addE_ok okF2 ok25) ok28) ok29
end Y27
set_option maxRecDepth 100000
namespace Y27
open Go Go.AE Go.Proofs E6
attribute [local irreducible] loopK evCode evSpec loopB norm
end Y27
set_option maxRecDepth 100000
namespace Y27
open Go Go.AE Go.Proofs E6
attribute [local irreducible] loopK evCode evSpec loopB norm
theorem f12_in (d : List UInt8) (p : Int) (e : Int) (a : Int) (v : Int) (iu : Int) (is : Int) (l : Int) (t : Int) (ty : Int) (c : Int) (s : Int) (at' : Int) (K : List AV → Prop) (h9 : Hd) (hh9 : h9 = Hd.mk v iu is l t ty c) (k9 : Cu) (hk9 : k9 = Cu.mk d p e a) (N9 : Int) (hN9 : N9 = IntKind.wrap .i64 (if sumU h9 s ≤ IntKind.wrap IntKind.u64 (restU k9) then sumU h9 s else (0 : Int))) (A9 : Cu) (hA9 : A9 = advU k9 N9) (T9 : List UInt8) (hT9 : T9 = takeU k9 N9) (g0 : List UInt8) (hg0 : g0 = List.take ((o1 h9 s).toNat - (0 : Int).toNat) (List.drop (0 : Int).toNat T9)) (g1 : List UInt8) (hg1 : g1 = List.take ((o2 h9 s).toNat - (o1 h9 s).toNat) (List.drop (o1 h9 s).toNat T9)) (g2 : List UInt8) (hg2 : g2 = List.take ((o3 h9 s).toNat - (o2 h9 s).toNat) (List.drop (o2 h9 s).toNat T9)) (g3 : List UInt8) (hg3 : g3 = List.take ((o4 h9 s).toNat - (o3 h9 s).toNat) (List.drop (o3 h9 s).toNat T9)) (g4 : List UInt8) (hg4 : g4 = List.take ((o5 h9 s).toNat - (o4 h9 s).toNat) (List.drop (o4 h9 s).toNat T9)) (g5 : List UInt8) (hg5 : g5 = List.take ((o6 h9 s).toNat - (o5 h9 s).toNat) (List.drop (o5 h9 s).toNat T9)) (g6 : List UInt8) (hg6 : g6 = List.take ((o7 h9 s).toNat - (o6 h9 s).toNat) (List.drop (o6
 h9 s).toNat T9)) : evSpec K3i Tryz.f52 [curAV d p e a, hdAV v iu is l t ty c, i64 s, i64 at'] K = (let R1 : Prop := (brn (!decide (sumU h9 s ≤ IntKind.wrap IntKind.u64 (restU k9))) (K [.agg [AV.new (IV.ints IntKind.i64 []), AV.new (IV.bytes []), AV.new (IV.sl 3 []), AV.new (IV.bytes []), AV.new (IV.sl 2 []), AV.new (IV.bools []), AV.new (IV.bools [])], .agg [.imm (.bytes (Cu.d (failU k9 (1 : Int) (d.length : Int)))), .imm (.int .i64 (Cu.p (failU k9 (1 : Int) (d.length : Int)))), .imm (.int .i64 (Cu.e (failU k9 (1 : Int) (d.length : Int)))), .imm (.int .i64 (Cu.a (failU k9 (1 : Int) (d.length : Int))))]]) (okU k9 ∧ okH h9 ∧ sz48 s ∧ (0 : Int) ≤ o2 h9 s ∧ o2 h9 s ≤ o3 h9 s ∧ o3 h9 s ≤ o3 h9 s ∧ o3 h9 s ≤ (↑(List.length T9) : Int) ∧ (↑(List.length g2) : Int) ≤ 1000000000000 ∧ (0 : Int) ≤ o5 h9 s ∧ o5 h9 s ≤ o6 h9 s ∧ o6 h9 s ≤ o6 h9 s ∧ o6 h9 s ≤ (↑(List.length T9) : Int) ∧ (↑(List.length g5) : Int) ≤ big' ∧ (0 : Int) ≤ o6 h9 s ∧ o6 h9 s ≤ o7 h9 s ∧ o7 h9 s ≤ o7 h9 s ∧ o7 h9 s ≤ (↑(List.length T9) : Int) ∧ (↑(List.length g6) : Int) ≤ big' ∧ brn (!decOk g2 || !indOk g5 || !indOk g6) (K [.agg [AV.new (IV.ints IntKind.i64 []), AV.new (IV.bytes []), AV.new (IV.sl 3 []), AV.new (IV.bytes
 []), AV.new (IV.sl 2 []), AV.new (IV.bools []), AV.new (IV.bools [])], .agg [.imm (.bytes (Cu.d (failU (Cu.mk (Cu.d A9) (Cu.p A9) (Cu.e A9) (Cu.a A9)) (10 : Int) at'))), .imm (.int .i64 (Cu.p (failU (Cu.mk (Cu.d A9) (Cu.p A9) (Cu.e A9) (Cu.a A9)) (10 : Int) at'))), .imm (.int .i64 (Cu.e (failU (Cu.mk (Cu.d A9) (Cu.p A9) (Cu.e A9) (Cu.a A9)) (10 : Int) at'))), .imm (.int .i64 (Cu.a (failU (Cu.mk (Cu.d A9) (Cu.p A9) (Cu.e A9) (Cu.a A9)) (10 : Int) at')))]]) (((0 : Int) ≤ 0 ∧ (0 : Int) ≤ o1 h9 s ∧ o1 h9 s ≤ o1 h9 s ∧ o1 h9 s ≤ (↑(List.length T9) : Int) ∧ (sz48 s ∧ (↑(List.length g0) : Int) ≤ big' ∧ ((0 : Int) ≤ o1 h9 s ∧ o1 h9 s ≤ o2 h9 s ∧ o2 h9 s ≤ o2 h9 s ∧ o2 h9 s ≤ (↑(List.length T9) : Int) ∧ ((0 : Int) ≤ o3 h9 s ∧ o3 h9 s ≤ o4 h9 s ∧ o4 h9 s ≤ o4 h9 s ∧ o4 h9 s ≤ (↑(List.length T9) : Int) ∧ ((0 : Int) ≤ o4 h9 s ∧ o4 h9 s ≤ o5 h9 s ∧ o5 h9 s ≤ o5 h9 s ∧ o5 h9 s ≤ (↑(List.length T9) : Int) ∧ (sz48 s ∧ (↑(List.length g4) : Int) ≤ big' ∧ (K [.agg [AV.new (IV.ints IntKind.i64 (decI g0 s.toNat (List.length g0 / s.toNat))), .imm (.bytes g1), AV.new (IV.sl 3 (List.map cellsT (dec g2))), .imm (.bytes g3), AV.new (IV.sl 2 (List.map cellsL (decL g4 s.toNat (List.length g4 / (s.toNat +
 4))))), AV.new (IV.bools (decO g5)), AV.new (IV.bools (decO g6))], .agg [.imm (.bytes (Cu.d A9)), .imm (.int .i64 (Cu.p A9)), .imm (.int .i64 (Cu.e A9)), .imm (.int .i64 (Cu.a A9))]] ∧ K [.agg [AV.new (IV.ints IntKind.i64 (decI g0 s.toNat (List.length g0 / s.toNat))), .imm (.bytes g1), AV.new (IV.sl 3 (List.map cellsT (dec g2))), .imm (.bytes g3), AV.new (IV.sl 2 (List.map cellsL (decL g4 s.toNat (List.length g4 / (s.toNat + 4))))), AV.new (IV.bools (decO g5)), AV.new (IV.bools (decO g6))], .agg [.imm (.bytes (Cu.d A9)), .imm (.int .i64 (Cu.p A9)), .imm (.int .i64 (Cu.e A9)), .imm (.int .i64 (Cu.a A9))]]) ∧ K [.agg [AV.new (IV.ints IntKind.i64 (decI g0 s.toNat (List.length g0 / s.toNat))), .imm (.bytes g1), AV.new (IV.sl 3 (List.map cellsT (dec g2))), .imm (.bytes g3), AV.new (IV.sl 2 (List.map cellsL (decL g4 s.toNat (List.length g4 / (s.toNat + 4))))), AV.new (IV.bools (decO g5)), AV.new (IV.bools (decO g6))], .agg [.imm (.bytes (Cu.d A9)), .imm (.int .i64 (Cu.p A9)), .imm (.int .i64 (Cu.e A9)), .imm (.int .i64 (Cu.a A9))]]) ∧ sz48 s ∧ (↑(List.length g4) : Int) ≤ big' ∧ K [.agg [AV.new (IV.ints IntKind.i64 (decI g0 s.toNat (List.length g0 / s.toNat))), .imm (.bytes g1), AV.new
 (IV.sl 3 (List.map cellsT (dec g2))), .imm (.bytes g3), AV.new (IV.sl 2 (List.map cellsL (decL g4 s.toNat (List.length g4 / (s.toNat + 4))))), AV.new (IV.bools (decO g5)), AV.new (IV.bools (decO g6))], .agg [.imm (.bytes (Cu.d A9)), .imm (.int .i64 (Cu.p A9)), .imm (.int .i64 (Cu.e A9)), .imm (.int .i64 (Cu.a A9))]]) ∧ (0 : Int) ≤ o4 h9 s ∧ o4 h9 s ≤ o5 h9 s ∧ o5 h9 s ≤ o5 h9 s ∧ o5 h9 s ≤ (↑(List.length T9) : Int) ∧ sz48 s ∧ (↑(List.length g4) : Int) ≤ big' ∧ K [.agg [AV.new (IV.ints IntKind.i64 (decI g0 s.toNat (List.length g0 / s.toNat))), .imm (.bytes g1), AV.new (IV.sl 3 (List.map cellsT (dec g2))), .imm (.bytes g3), AV.new (IV.sl 2 (List.map cellsL (decL g4 s.toNat (List.length g4 / (s.toNat + 4))))), AV.new (IV.bools (decO g5)), AV.new (IV.bools (decO g6))], .agg [.imm (.bytes (Cu.d A9)), .imm (.int .i64 (Cu.p A9)), .imm (.int .i64 (Cu.e A9)), .imm (.int .i64 (Cu.a A9))]]) ∧ (0 : Int) ≤ o3 h9 s ∧ o3 h9 s ≤ o4 h9 s ∧ o4 h9 s ≤ o4 h9 s ∧ o4 h9 s ≤ (↑(List.length T9) : Int) ∧ (0 : Int) ≤ o4 h9 s ∧ o4 h9 s ≤ o5 h9 s ∧ o5 h9 s ≤ o5 h9 s ∧ o5 h9 s ≤ (↑(List.length T9) : Int) ∧ sz48 s ∧ (↑(List.length g4) : Int) ≤ big' ∧ K [.agg [AV.new (IV.ints IntKind.i64 (decI g0 s.toNat
 (List.length g0 / s.toNat))), .imm (.bytes g1), AV.new (IV.sl 3 (List.map cellsT (dec g2))), .imm (.bytes g3), AV.new (IV.sl 2 (List.map cellsL (decL g4 s.toNat (List.length g4 / (s.toNat + 4))))), AV.new (IV.bools (decO g5)), AV.new (IV.bools (decO g6))], .agg [.imm (.bytes (Cu.d A9)), .imm (.int .i64 (Cu.p A9)), .imm (.int .i64 (Cu.e A9)), .imm (.int .i64 (Cu.a A9))]]) ∧ (0 : Int) ≤ o1 h9 s ∧ o1 h9 s ≤ o2 h9 s ∧ o2 h9 s ≤ o2 h9 s ∧ o2 h9 s ≤ (↑(List.length T9) : Int) ∧ (0 : Int) ≤ o3 h9 s ∧ o3 h9 s ≤ o4 h9 s ∧ o4 h9 s ≤ o4 h9 s ∧ o4 h9 s ≤ (↑(List.length T9) : Int) ∧ (0 : Int) ≤ o4 h9 s ∧ o4 h9 s ≤ o5 h9 s ∧ o5 h9 s ≤ o5 h9 s ∧ o5 h9 s ≤ (↑(List.length T9) : Int) ∧ sz48 s ∧ (↑(List.length g4) : Int) ≤ big' ∧ K [.agg [AV.new (IV.ints IntKind.i64 (decI g0 s.toNat (List.length g0 / s.toNat))), .imm (.bytes g1), AV.new (IV.sl 3 (List.map cellsT (dec g2))), .imm (.bytes g3), AV.new (IV.sl 2 (List.map cellsL (decL g4 s.toNat (List.length g4 / (s.toNat + 4))))), AV.new (IV.bools (decO g5)), AV.new (IV.bools (decO g6))], .agg [.imm (.bytes (Cu.d A9)), .imm (.int .i64 (Cu.p A9)), .imm (.int .i64 (Cu.e A9)), .imm (.int .i64 (Cu.a A9))]]) ∧ sz48 s ∧ (↑(List.length g0) : Int) ≤ big' ∧ (0 :
 Int) ≤ o1 h9 s ∧ o1 h9 s ≤ o2 h9 s ∧ o2 h9 s ≤ o2 h9 s ∧ o2 h9 s ≤ (↑(List.length T9) : Int) ∧ (0 : Int) ≤ o3 h9 s ∧ o3 h9 s ≤ o4 h9 s ∧ o4 h9 s ≤ o4 h9 s ∧ o4 h9 s ≤ (↑(List.length T9) : Int) ∧ (0 : Int) ≤ o4 h9 s ∧ o4 h9 s ≤ o5 h9 s ∧ o5 h9 s ≤ o5 h9 s ∧ o5 h9 s ≤ (↑(List.length T9) : Int) ∧ sz48 s ∧ (↑(List.length g4) : Int) ≤ big' ∧ K [.agg [AV.new (IV.ints IntKind.i64 (decI g0 s.toNat (List.length g0 / s.toNat))), .imm (.bytes g1), AV.new (IV.sl 3 (List.map cellsT (dec g2))), .imm (.bytes g3), AV.new (IV.sl 2 (List.map cellsL (decL g4 s.toNat (List.length g4 / (s.toNat + 4))))), AV.new (IV.bools (decO g5)), AV.new (IV.bools (decO g6))], .agg [.imm (.bytes (Cu.d A9)), .imm (.int .i64 (Cu.p A9)), .imm (.int .i64 (Cu.e A9)), .imm (.int .i64 (Cu.a A9))]]) ∧ (0 : Int) ≤ 0 ∧ (0 : Int) ≤ o1 h9 s ∧ o1 h9 s ≤ o1 h9 s ∧ o1 h9 s ≤ (↑(List.length T9) : Int) ∧ sz48 s ∧ (↑(List.length g0) : Int) ≤ big' ∧ (0 : Int) ≤ o1 h9 s ∧ o1 h9 s ≤ o2 h9 s ∧ o2 h9 s ≤ o2 h9 s ∧ o2 h9 s ≤ (↑(List.length T9) : Int) ∧ (0 : Int) ≤ o3 h9 s ∧ o3 h9 s ≤ o4 h9 s ∧ o4 h9 s ≤ o4 h9 s ∧ o4 h9 s ≤ (↑(List.length T9) : Int) ∧ (0 : Int) ≤ o4 h9 s ∧ o4 h9 s ≤ o5 h9 s ∧ o5 h9 s ≤ o5 h9 s ∧ o5 h9 s ≤ (↑(List.length T9) :
 Int) ∧ sz48 s ∧ (↑(List.length g4) : Int) ≤ big' ∧ K [.agg [AV.new (IV.ints IntKind.i64 (decI g0 s.toNat (List.length g0 / s.toNat))), .imm (.bytes g1), AV.new (IV.sl 3 (List.map cellsT (dec g2))), .imm (.bytes g3), AV.new (IV.sl 2 (List.map cellsL (decL g4 s.toNat (List.length g4 / (s.toNat + 4))))), AV.new (IV.bools (decO g5)), AV.new (IV.bools (decO g6))], .agg [.imm (.bytes (Cu.d A9)), .imm (.int .i64 (Cu.p A9)), .imm (.int .i64 (Cu.e A9)), .imm (.int .i64 (Cu.a A9))]]))); let R2 : Prop := K [.agg [AV.new (IV.ints IntKind.i64 []), AV.new (IV.bytes []), AV.new (IV.sl 3 []), AV.new (IV.bytes []), AV.new (IV.sl 2 []), AV.new (IV.bools []), AV.new (IV.bools [])], .agg [.imm (.bytes d), .imm (.int .i64 p), .imm (.int .i64 e), .imm (.int .i64 a)]]; let R3 : Prop := (okU k9 ∧ okH h9 ∧ sz48 s ∧ (0 : Int) ≤ IntKind.wrap IntKind.u64 (restU k9) ∧ IntKind.wrap IntKind.u64 (restU k9) ≤ 18446744073709551615 ∧ brn (e != 0) ((R2 ∧ R2) ∧ R2) R1); R3 ∧ R3 ∧ okU k9 ∧ okH h9 ∧ sz48 s ∧ (0 : Int) ≤ IntKind.wrap IntKind.u64 (restU k9) ∧ IntKind.wrap IntKind.u64 (restU k9) ≤ 18446744073709551615 ∧ brn (e != 0) ((R2 ∧ R2) ∧ R2) R1) := by subst hg6; subst hg5; subst hg4; subst hg3; subst hg2; subst hg1; subst hg0; subst hT9; subst hA9; subst hN9; subst hk9; subst hh9; kernel_rfl
end Y27
set_option maxRecDepth 100000
namespace Y27
open Go Go.AE Go.Proofs E6
attribute [local irreducible] loopK evCode evSpec loopB norm
theorem cut_pt (l : List UInt8) {n x y : Int} (hx : 0 ≤ x) (hy : x ≤ y) (hn : y ≤ n) : List.take (Int.toNat y - Int.toNat x) (List.drop (Int.toNat x) (l.take n.toNat)) = pt l x (y - x) := by
  unfold pt
  rw [List.drop_take, List.take_take]
  congr 1
  omega
theorem pt_len (l : List UInt8) {x n : Int} (hx : 0 ≤ x) (h0 : 0 ≤ n) (hn : x + n ≤ l.length) : ((pt l x n).length : Int) = n := by
  unfold pt
  rw [List.length_take, List.length_drop]
  omega
theorem sum_pos {h : Hd} {s : Int} (hh : okH h) (hs : sz48 s) : 0 ≤ l0 h s ∧ 0 ≤ l1 h ∧ 0 ≤ l2 h ∧ 0 ≤ l3 h ∧ 0 ≤ l4 h s ∧ 0 ≤ l5 h ∧ 0 ≤ l6 h ∧ sumU h s ≤ 1000000000000 := by
  obtain ⟨⟨a1, a2⟩, ⟨b1, b2⟩, ⟨c1, c2⟩, ⟨d1, d2⟩, ⟨e1, e2⟩, ⟨f1, f2⟩⟩ := hh
  rcases hs with rfl | rfl <;> simp only [sumU, l0, l1, l2, l3, l4, l5, l6] <;> omega
set_option maxHeartbeats 2000000 in
theorem f12_ok' (d : List UInt8) (p e a v iu is l t ty c s at' : Int) (hu : okU ⟨d, p, e, a⟩) (hh : okH ⟨v, iu, is, l, t, ty, c⟩) (hs : sz48 s) :
    evSpec K3i Tryz.f52 [curAV d p e a, hdAV v iu is l t ty c, i64 s, i64 at'] (fun r => lmap AE.settle r = [(decU ⟨d, p, e, a⟩ ⟨v, iu, is, l, t, ty, c⟩ s at').1.av, (decU ⟨d, p, e, a⟩ ⟨v, iu, is, l, t, ty, c⟩ s at').2.av]) := by
  have hu' := hu
  obtain ⟨hp0, hp1, hd⟩ := hu
  simp only at hp0 hp1 hd
  obtain ⟨q0, q1, q2, q3, q4, q5, q6, q7⟩ := sum_pos hh hs
  have hbig : big' = 1000000000000 := rfl
  refine Eq.mpr (f12_in d p e a v iu is l t ty c s at' _ _ rfl _ rfl _ rfl _ rfl _ rfl _ rfl _ rfl _ rfl _ rfl _ rfl _ rfl _ rfl) ?_
  generalize hH : (⟨v, iu, is, l, t, ty, c⟩ : Hd) = h at *
  have hW : IntKind.wrap .u64 (restU ⟨d, p, e, a⟩) = restU ⟨d, p, e, a⟩ := by
    unfold restU; simp only
    split
    · exact wrapU (by omega) (by omega)
    · exact wrapU (by omega) (by omega)
  rw [hW]
  have hW0 : 0 ≤ restU ⟨d, p, e, a⟩ ∧ restU ⟨d, p, e, a⟩ ≤ 1000000000000 := by
    unfold restU; simp only
    split <;> omega
  intro R1 R2 R3
  have h2 : e ≠ 0 → R2 := fun he => by
    show lmap AE.settle _ = _
    have : decU ⟨d, p, e, a⟩ h s at' = (zB, ⟨d, p, e, a⟩) := by unfold decU; rw [if_neg (show ¬ e = 0 from he)]
    rw [this]
    rfl
  have h1 : e = 0 → R1 := fun he => by
    subst he
    have hr : restU ⟨d, p, 0, a⟩ = (d.length : Int) - p := by unfold restU; rw [if_pos rfl]
    refine brn_intro (fun hb => ?_) (fun hb => ?_)
    · have hb' : ¬ sumU h s ≤ restU ⟨d, p, 0, a⟩ := by simpa using hb
      have : decU ⟨d, p, 0, a⟩ h s at' = (zB, ⟨d, p, 1, d.length⟩) := by
        unfold decU fitsD
        rw [if_pos rfl, if_neg (by simpa using hb')]
      rw [this]
      have : failU ⟨d, p, 0, a⟩ 1 d.length = ⟨d, p, 1, d.length⟩ := by unfold failU; rw [if_pos ⟨rfl, by decide⟩]
      rw [this]
      rfl
    · have hb' : sumU h s ≤ restU ⟨d, p, 0, a⟩ := by simpa using hb
      have hsum : sumU h s = l0 h s + l1 h + l2 h + l3 h + l4 h s + l5 h + l6 h := rfl
      have e1 : o1 h s = l0 h s := rfl
      have e2 : o2 h s = o1 h s + l1 h := rfl
      have e3 : o3 h s = o2 h s + l2 h := rfl
      have e4 : o4 h s = o3 h s + l3 h := rfl
      have e5 : o5 h s = o4 h s + l4 h s := rfl
      have e6 : o6 h s = o5 h s + l5 h := rfl
      have e7 : o7 h s = o6 h s + l6 h := rfl
      have hN : IntKind.wrap .i64 (if sumU h s ≤ restU ⟨d, p, 0, a⟩ then sumU h s else 0) = sumU h s := by
        rw [if_pos hb']; exact wrap64 (by omega) (by omega)
      have hAD : advU ⟨d, p, 0, a⟩ (sumU h s) = ⟨d, p + sumU h s, 0, a⟩ := by
        unfold advU; rw [if_pos rfl, if_pos ⟨by omega, hb'⟩]
      have hTK : takeU ⟨d, p, 0, a⟩ (sumU h s) = (d.drop p.toNat).take (sumU h s).toNat := by
        unfold takeU advOk
        rw [if_pos (decide_eq_true ⟨rfl, by omega, hb'⟩)]
      rw [hN, hAD, hTK]
      generalize hD : d.drop p.toNat = D
      have hDl : (D.length : Int) = d.length - p := by rw [← hD, List.length_drop]; omega
      have hlen : (((D.take (sumU h s).toNat).length : Nat) : Int) = sumU h s := by rw [List.length_take]; omega
      have c0 := cut_pt D (n := sumU h s) (x := 0) (y := o1 h s) (by omega) (by omega) (by omega)
      have c1 := cut_pt D (n := sumU h s) (x := o1 h s) (y := o2 h s) (by omega) (by omega) (by omega)
      have c2 := cut_pt D (n := sumU h s) (x := o2 h s) (y := o3 h s) (by omega) (by omega) (by omega)
      have c3 := cut_pt D (n := sumU h s) (x := o3 h s) (y := o4 h s) (by omega) (by omega) (by omega)
      have c4 := cut_pt D (n := sumU h s) (x := o4 h s) (y := o5 h s) (by omega) (by omega) (by omega)
      have c5 := cut_pt D (n := sumU h s) (x := o5 h s) (y := o6 h s) (by omega) (by omega) (by omega)
      have c6 := cut_pt D (n := sumU h s) (x := o6 h s) (y := o7 h s) (by omega) (by omega) (by omega)
      have d0 : o1 h s - 0 = l0 h s := by omega
      have d1 : o2 h s - o1 h s = l1 h := by omega
      have d2 : o3 h s - o2 h s = l2 h := by omega
      have d3 : o4 h s - o3 h s = l3 h := by omega
      have d4 : o5 h s - o4 h s = l4 h s := by omega
      have d5 : o6 h s - o5 h s = l5 h := by omega
      have d6 : o7 h s - o6 h s = l6 h := by omega
      rw [d0] at c0; rw [d1] at c1; rw [d2] at c2; rw [d3] at c3; rw [d4] at c4; rw [d5] at c5; rw [d6] at c6
      rw [c0, c1, c2, c3, c4, c5, c6]
      have m0 := pt_len D (x := 0) (n := l0 h s) (by omega) (by omega) (by omega)
      have m2 := pt_len D (x := o2 h s) (n := l2 h) (by omega) (by omega) (by omega)
      have m4 := pt_len D (x := o4 h s) (n := l4 h s) (by omega) (by omega) (by omega)
      have m5 := pt_len D (x := o5 h s) (n := l5 h) (by omega) (by omega) (by omega)
      have m6 := pt_len D (x := o6 h s) (n := l6 h) (by omega) (by omega) (by omega)
      have g1 : 0 ≤ o1 h s := by omega
      have g2 : 0 ≤ o2 h s := by omega
      have g3 : 0 ≤ o3 h s := by omega
      have g4 : 0 ≤ o4 h s := by omega
      have g5 : 0 ≤ o5 h s := by omega
      have g6 : 0 ≤ o6 h s := by omega
      have k1 : o1 h s ≤ o2 h s := by omega
      have k2 : o2 h s ≤ o3 h s := by omega
      have k3 : o3 h s ≤ o4 h s := by omega
      have k4 : o4 h s ≤ o5 h s := by omega
      have k5 : o5 h s ≤ o6 h s := by omega
      have k6 : o6 h s ≤ o7 h s := by omega
      have j1 : o1 h s ≤ ((D.take (sumU h s).toNat).length : Int) := by omega
      have j2 : o2 h s ≤ ((D.take (sumU h s).toNat).length : Int) := by omega
      have j3 : o3 h s ≤ ((D.take (sumU h s).toNat).length : Int) := by omega
      have j4 : o4 h s ≤ ((D.take (sumU h s).toNat).length : Int) := by omega
      have j5 : o5 h s ≤ ((D.take (sumU h s).toNat).length : Int) := by omega
      have j6 : o6 h s ≤ ((D.take (sumU h s).toNat).length : Int) := by omega
      have j7 : o7 h s ≤ ((D.take (sumU h s).toNat).length : Int) := by omega
      have n0 : ((pt D 0 (l0 h s)).length : Int) ≤ big' := by omega
      have n2 : ((pt D (o2 h s) (l2 h)).length : Int) ≤ 1000000000000 := by omega
      have n4 : ((pt D (o4 h s) (l4 h s)).length : Int) ≤ big' := by omega
      have n5 : ((pt D (o5 h s) (l5 h)).length : Int) ≤ big' := by omega
      have n6 : ((pt D (o6 h s) (l6 h)).length : Int) ≤ big' := by omega
      have hf : fitsD ⟨d, p, 0, a⟩ h s = true := by unfold fitsD; simpa using hb'
      refine ⟨hu', hh, hs, g2, k2, Int.le_refl _, j3, n2, g5, k5, Int.le_refl _, j6, n5, g6, k6, Int.le_refl _, j7, n6, brn_intro (fun hk => ?_) (fun hk => ?_)⟩
      · have hno : okD D h s = false := by
          unfold okD b2 b5 b6
          cases h1 : decOk (pt D (o2 h s) (l2 h)) <;> cases h2 : indOk (pt D (o5 h s) (l5 h)) <;> cases h3 : indOk (pt D (o6 h s) (l6 h)) <;> simp_all
        have : decU ⟨d, p, 0, a⟩ h s at' = (zB, ⟨d, p + sumU h s, 10, at'⟩) := by
          unfold decU
          rw [if_pos rfl, if_pos hf]
          simp only [hD]
          rw [if_neg (by rw [hno]; decide)]
        rw [this]
        have : failU ⟨d, p + sumU h s, 0, a⟩ 10 at' = ⟨d, p + sumU h s, 10, at'⟩ := by unfold failU; rw [if_pos ⟨rfl, by decide⟩]
        rw [this]
        rfl
      · have hyes : okD D h s = true := by
          unfold okD b2 b5 b6
          cases h1 : decOk (pt D (o2 h s) (l2 h)) <;> cases h2 : indOk (pt D (o5 h s) (l5 h)) <;> cases h3 : indOk (pt D (o6 h s) (l6 h)) <;> simp_all
        have hdec : decU ⟨d, p, 0, a⟩ h s at' = (decB D h s, ⟨d, p + sumU h s, 0, a⟩) := by
          unfold decU
          rw [if_pos rfl, if_pos hf]
          simp only [hD]
          rw [if_pos hyes]
        rw [hdec]
        have leaf : lmap AE.settle [AV.agg [AV.new (IV.ints IntKind.i64 (decI (pt D 0 (l0 h s)) (Int.toNat s) (List.length (pt D 0 (l0 h s)) / Int.toNat s))), AV.imm (IV.bytes (pt D (o1 h s) (l1 h))), AV.new (IV.sl 3 (List.map cellsT (dec (pt D (o2 h s) (l2 h))))), AV.imm (IV.bytes (pt D (o3 h s) (l3 h))),
            AV.new (IV.sl 2 (List.map cellsL (decL (pt D (o4 h s) (l4 h s)) (Int.toNat s) (List.length (pt D (o4 h s) (l4 h s)) / (Int.toNat s + 4))))), AV.new (IV.bools (decO (pt D (o5 h s) (l5 h)))), AV.new (IV.bools (decO (pt D (o6 h s) (l6 h))))], AV.agg [AV.imm (IV.bytes d), AV.imm (IV.int IntKind.i64 (p + sumU h s)), AV.imm (IV.int IntKind.i64 0), AV.imm (IV.int IntKind.i64 a)]] = [(decB D h s).av, Cu.av ⟨d, p + sumU h s, 0, a⟩] := rfl
        have z0 : (0 : Int) ≤ 0 := Int.le_refl _
        simp only [Int.le_refl, g1, g2, g3, g4, g5, g6, k1, k2, k3, k4, k5, k6, j1, j2, j3, j4, j5, j6, j7, n0, n4, hs, true_and, and_true]
        simp only [leaf, and_self]
  have hW1 : restU ⟨d, p, e, a⟩ ≤ 18446744073709551615 := by omega
  have hx : brn (e != 0) ((R2 ∧ R2) ∧ R2) R1 := brn_intro (fun he => by
    have : e ≠ 0 := by simpa using he
    exact ⟨⟨h2 this, h2 this⟩, h2 this⟩) (fun he => h1 (by simpa using he))
  have h3 : R3 := ⟨hu', hh, hs, hW0.1, hW1, hx⟩
  exact ⟨h3, h3, hu', hh, hs, hW0.1, hW1, hx⟩
end Y27
set_option maxRecDepth 100000
namespace Y27
open Go Go.AE Go.Proofs E6
attribute [local irreducible] loopK evCode evSpec loopB norm
end Y27

set_option maxRecDepth 100000
namespace Y27
open Go Go.AE Go.Proofs Go.RowKit E6
attribute [local irreducible] loopK evCode evSpec loopB norm
theorem I3_ok : ∀ f fn, I3 f = some fn → Tryz.prog.funcs[f]? = some fn ∧ (fn.name == "runtime.NumGoroutine") = false := by
  intro f fn h
  unfold I3 at h
  cases h1 : Nat.beq f 84 with
  | true => rw [h1, cond_true] at h; cases h; obtain rfl := nbeq h1; exact ⟨Tryz.func84, by kernel_rfl⟩
  | false => rw [h1, cond_false] at h; cases h
theorem ok12 : ∀ args pres res, sDecode args = some (pres, res) → SpecOK Tryz.prog G16 52 args pres res := by
  intro args pres res h
  unfold sDecode at h
  split at h
  case h_2 => cases h
  cases h
  exact spec_okS (C := K3i) okF3 (inl_ok okF3 I3_ok 3) Tryz.func52 (by kernel_rfl) (by kernel_rfl) (fun hp => f12_ok' _ _ _ _ _ _ _ _ _ _ _ _ _ (hp _ (by simp)) (hp _ (by simp)) (hp _ (by simp)))
theorem ok22 : ∀ args pres res, sEncode args = some (pres, res) → SpecOK Tryz.prog G16 17 args pres res := by
  intro args pres res h
  unfold sEncode blkS at h
  split at h
  case h_2 => cases h
  try dsimp only at h
  split at h
  case h_2 => cases h
  cases h
  exact mk okF3 Tryz.func17 (by kernel_rfl) (by kernel_rfl) (fun hp K hK => f22_ev _ _ _ _ _ _ _ _ (hp _ (by simp)) (hp _ (by simp)) K hK)
theorem okF4 : EOK Tryz.prog F4 G16 := addE_ok (addE_ok okF3 ok12) ok22
end Y27
namespace Y27
open Go Go.AE Go.Proofs E6
noncomputable def L0 : Cx := ⟨Tryz.prog, F4, noCall, G16, 9⟩
def elems (h : Hd) : Int := 2 * h.t + h.ty + h.c + h.l + h.is + h.iu
def consH (h : Hd) : Bool := h.ty != 0 && h.c != 0 && (h.iu == 0 || h.iu == h.ty) && (h.is == 0 || h.is == h.ty)
def sElem : List AV → Option (List Prop × List AV)
  | [.agg [.imm (.int .i64 v), .imm (.int .u32 iu), .imm (.int .u32 is), .imm (.int .u32 l), .imm (.int .u32 t), .imm (.int .u32 ty), .imm (.int .u32 c)]] => some ([okH ⟨v, iu, is, l, t, ty, c⟩], [.imm (.int .u64 (elems ⟨v, iu, is, l, t, ty, c⟩))])
  | _ => none
def sCons : List AV → Option (List Prop × List AV)
  | [.agg [.imm (.int .i64 v), .imm (.int .u32 iu), .imm (.int .u32 is), .imm (.int .u32 l), .imm (.int .u32 t), .imm (.int .u32 ty), .imm (.int .u32 c)]] => some ([], [bo (consH ⟨v, iu, is, l, t, ty, c⟩)])
  | _ => none
def sBound : List AV → Option (List Prop × List AV)
  | [.imm (.int .i64 n)] => some ([0 ≤ n, n ≤ 1099511627776], [.agg [i64 (4 * n + 64), i64 (16 * n + 64)]])
  | _ => none
end Y27
set_option maxRecDepth 100000
namespace Y27
open Go Go.AE Go.Proofs E6
attribute [local irreducible] loopK evCode evSpec loopB norm
theorem g12_in (v : Int) (iu : Int) (is : Int) (l : Int) (t : Int) (ty : Int) (c : Int) (K : List AV → Prop) : evSpec L0 Tryz.f12 [hdAV v iu is l t ty c] K = (K [.imm (.int IntKind.u64 (IntKind.wrap IntKind.u64 (IntKind.wrap IntKind.u64 (IntKind.wrap IntKind.u64 (IntKind.wrap IntKind.u64 (IntKind.wrap IntKind.u64 (IntKind.wrap IntKind.u64 ((2 : Int) * IntKind.wrap IntKind.u64 t) + IntKind.wrap IntKind.u64 ty) + IntKind.wrap IntKind.u64 c) + IntKind.wrap IntKind.u64 l) + IntKind.wrap IntKind.u64 is) + IntKind.wrap IntKind.u64 iu)))]) := by kernel_rfl
theorem g11_in (v : Int) (iu : Int) (is : Int) (l : Int) (t : Int) (ty : Int) (c : Int) (K : List AV → Prop) : evSpec L0 Tryz.f11 [hdAV v iu is l t ty c] K = ((0 : Int) ≤ 0 ∧ (0 : Int) < (↑(List.length [ty, c, l, is, iu]) : Int) ∧ (0 : Int) ≤ IntKind.wrap .i64 ((0 : Int) + 1) ∧ IntKind.wrap .i64 ((0 : Int) + 1) < (↑(List.length [ty, c, l, is, iu]) : Int) ∧ (0 : Int) ≤ IntKind.wrap .i64 (IntKind.wrap .i64 ((0 : Int) + 1) + 1) ∧ IntKind.wrap .i64 (IntKind.wrap .i64 ((0 : Int) + 1) + 1) < (↑(List.length [ty, c, l, is, iu]) : Int) ∧ (0 : Int) ≤ IntKind.wrap .i64 (IntKind.wrap .i64 (IntKind.wrap .i64 ((0 : Int) + 1) + 1) + 1) ∧ IntKind.wrap .i64 (IntKind.wrap .i64 (IntKind.wrap .i64 ((0 : Int) + 1) + 1) + 1) < (↑(List.length [ty, c, l, is, iu]) : Int) ∧ (0 : Int) ≤ IntKind.wrap .i64 (IntKind.wrap .i64 (IntKind.wrap .i64 (IntKind.wrap .i64 ((0 : Int) + 1) + 1) + 1) + 1) ∧ IntKind.wrap .i64 (IntKind.wrap .i64 (IntKind.wrap .i64 (IntKind.wrap .i64 ((0 : Int) + 1) + 1) + 1) + 1) < (↑(List.length [ty, c, l, is, iu]) : Int) ∧ K [.imm (.int IntKind.u64 (IntKind.wrap IntKind.u64 (IntKind.wrap IntKind.u64 (IntKind.wrap IntKind.u64 (IntKind.wrap IntKind.u64 (IntKind.wrap IntKind.u64 (IntKind.wrap
 IntKind.u64 ((2 : Int) * IntKind.wrap IntKind.u64 t) + IntKind.wrap IntKind.u64 (List.getD [ty, c, l, is, iu] (0 : Int).toNat (0 : Int))) + IntKind.wrap IntKind.u64 (List.getD [ty, c, l, is, iu] (IntKind.wrap .i64 ((0 : Int) + 1)).toNat (0 : Int))) + IntKind.wrap IntKind.u64 (List.getD [ty, c, l, is, iu] (IntKind.wrap .i64 (IntKind.wrap .i64 ((0 : Int) + 1) + 1)).toNat (0 : Int))) + IntKind.wrap IntKind.u64 (List.getD [ty, c, l, is, iu] (IntKind.wrap .i64 (IntKind.wrap .i64 (IntKind.wrap .i64 ((0 : Int) + 1) + 1) + 1)).toNat (0 : Int))) + IntKind.wrap IntKind.u64 (List.getD [ty, c, l, is, iu] (IntKind.wrap .i64 (IntKind.wrap .i64 (IntKind.wrap .i64 (IntKind.wrap .i64 ((0 : Int) + 1) + 1) + 1) + 1)).toNat (0 : Int)))))]) := by kernel_rfl
theorem g13_in (n : Int) (K : List AV → Prop) : evSpec L0 Tryz.f13 [i64 n] K = (K [.agg [i64 (IntKind.wrap .i64 (IntKind.wrap .i64 ((4 : Int) * n) + 64)), i64 (IntKind.wrap .i64 (IntKind.wrap .i64 ((16 : Int) * n) + 64))]]) := by kernel_rfl
theorem g78_in (v : Int) (iu : Int) (is : Int) (l : Int) (t : Int) (ty : Int) (c : Int) (K : List AV → Prop) : evSpec L0 Tryz.f78 [hdAV v iu is l t ty c] K = (K [bo (ty != 0 && c != 0 && (iu == 0 || iu == ty) && (is == 0 || is == ty))]) := by kernel_rfl
end Y27
set_option maxRecDepth 100000
namespace Y27
open Go Go.AE Go.Proofs E6
attribute [local irreducible] loopK evCode evSpec loopB norm
theorem g12_ev (v iu is l t ty c : Int) (hh : okH ⟨v, iu, is, l, t, ty, c⟩) (K : List AV → Prop) (hK : K [.imm (.int .u64 (elems ⟨v, iu, is, l, t, ty, c⟩))]) : evSpec L0 Tryz.f12 [hdAV v iu is l t ty c] K := by
  refine Eq.mpr (g12_in v iu is l t ty c K) ?_
  obtain ⟨⟨a1, a2⟩, ⟨b1, b2⟩, ⟨c1, c2⟩, ⟨d1, d2⟩, ⟨e1, e2⟩, ⟨f1, f2⟩⟩ := hh
  simp only at a1 a2 b1 b2 c1 c2 d1 d2 e1 e2 f1 f2
  rw [wrapU (n := t) (by omega) (by omega), wrapU (n := ty) (by omega) (by omega), wrapU (n := c) (by omega) (by omega), wrapU (n := l) (by omega) (by omega), wrapU (n := is) (by omega) (by omega), wrapU (n := iu) (by omega) (by omega),
    wrapU (n := 2 * t) (by omega) (by omega), wrapU (n := 2 * t + ty) (by omega) (by omega), wrapU (n := 2 * t + ty + c) (by omega) (by omega), wrapU (n := 2 * t + ty + c + l) (by omega) (by omega), wrapU (n := 2 * t + ty + c + l + is) (by omega) (by omega), wrapU (n := 2 * t + ty + c + l + is + iu) (by omega) (by omega)]
  exact hK
theorem g11_ev (v iu is l t ty c : Int) (hh : okH ⟨v, iu, is, l, t, ty, c⟩) (K : List AV → Prop) (hK : K [.imm (.int .u64 (elems ⟨v, iu, is, l, t, ty, c⟩))]) : evSpec L0 Tryz.f11 [hdAV v iu is l t ty c] K := by
  refine Eq.mpr (g11_in v iu is l t ty c K) ?_
  obtain ⟨⟨a1, a2⟩, ⟨b1, b2⟩, ⟨c1, c2⟩, ⟨d1, d2⟩, ⟨e1, e2⟩, ⟨f1, f2⟩⟩ := hh
  simp only at a1 a2 b1 b2 c1 c2 d1 d2 e1 e2 f1 f2
  have w1 : IntKind.wrap IntKind.i64 ((0 : Int) + (1 : Int)) = 1 := by decide
  have w2 : IntKind.wrap IntKind.i64 ((1 : Int) + (1 : Int)) = 2 := by decide
  have w3 : IntKind.wrap IntKind.i64 ((2 : Int) + (1 : Int)) = 3 := by decide
  have w4 : IntKind.wrap IntKind.i64 ((3 : Int) + (1 : Int)) = 4 := by decide
  rw [w1, w2, w3, w4]
  have g0 : List.getD [ty, c, l, is, iu] (Int.toNat (0 : Int)) (0 : Int) = ty := rfl
  have g1 : List.getD [ty, c, l, is, iu] (Int.toNat (1 : Int)) (0 : Int) = c := rfl
  have g2 : List.getD [ty, c, l, is, iu] (Int.toNat (2 : Int)) (0 : Int) = l := rfl
  have g3 : List.getD [ty, c, l, is, iu] (Int.toNat (3 : Int)) (0 : Int) = is := rfl
  have g4 : List.getD [ty, c, l, is, iu] (Int.toNat (4 : Int)) (0 : Int) = iu := rfl
  rw [g0, g1, g2, g3, g4]
  rw [wrapU (n := t) (by omega) (by omega), wrapU (n := ty) (by omega) (by omega), wrapU (n := c) (by omega) (by omega), wrapU (n := l) (by omega) (by omega), wrapU (n := is) (by omega) (by omega), wrapU (n := iu) (by omega) (by omega),
    wrapU (n := 2 * t) (by omega) (by omega), wrapU (n := 2 * t + ty) (by omega) (by omega), wrapU (n := 2 * t + ty + c) (by omega) (by omega), wrapU (n := 2 * t + ty + c + l) (by omega) (by omega), wrapU (n := 2 * t + ty + c + l + is) (by omega) (by omega), wrapU (n := 2 * t + ty + c + l + is + iu) (by omega) (by omega)]
  have hl : ((List.length [ty, c, l, is, iu] : Nat) : Int) = 5 := rfl
  rw [hl]
  exact ⟨by decide, by decide, by decide, by decide, by decide, by decide, by decide, by decide, by decide, by decide, hK⟩
theorem g13_ev (n : Int) (h0 : 0 ≤ n) (h1 : n ≤ 1099511627776) (K : List AV → Prop) (hK : K [.agg [i64 (4 * n + 64), i64 (16 * n + 64)]]) : evSpec L0 Tryz.f13 [i64 n] K := by
  refine Eq.mpr (g13_in n K) ?_
  rw [wrap64 (n := 4 * n) (by omega) (by omega), wrap64 (n := 16 * n) (by omega) (by omega), wrap64 (n := 4 * n + 64) (by omega) (by omega), wrap64 (n := 16 * n + 64) (by omega) (by omega)]
  exact hK
theorem g78_ev (v iu is l t ty c : Int) (K : List AV → Prop) (hK : K [bo (consH ⟨v, iu, is, l, t, ty, c⟩)]) : evSpec L0 Tryz.f78 [hdAV v iu is l t ty c] K :=
  Eq.mpr (g78_in v iu is l t ty c K) hK
theorem ok12e : ∀ args pres res, sElem args = some (pres, res) → SpecOK Tryz.prog G16 12 args pres res := by
  intro args pres res h
  unfold sElem at h
  split at h
  case h_2 => cases h
  cases h
  exact spec_ok (C := L0) okF4 noCall_ok Tryz.func12 (by kernel_rfl) (by kernel_rfl) (fun hp => g12_ev _ _ _ _ _ _ _ (hp _ (by simp)) _ rfl)
theorem ok11e : ∀ args pres res, sElem args = some (pres, res) → SpecOK Tryz.prog G16 11 args pres res := by
  intro args pres res h
  unfold sElem at h
  split at h
  case h_2 => cases h
  cases h
  exact spec_ok (C := L0) okF4 noCall_ok Tryz.func11 (by kernel_rfl) (by kernel_rfl) (fun hp => g11_ev _ _ _ _ _ _ _ (hp _ (by simp)) _ rfl)
theorem ok13e : ∀ args pres res, sBound args = some (pres, res) → SpecOK Tryz.prog G16 13 args pres res := by
  intro args pres res h
  unfold sBound at h
  split at h
  case h_2 => cases h
  cases h
  exact spec_ok (C := L0) okF4 noCall_ok Tryz.func13 (by kernel_rfl) (by kernel_rfl) (fun hp => g13_ev _ (hp _ (by simp)) (hp _ (by simp)) _ rfl)
theorem ok78e : ∀ args pres res, sCons args = some (pres, res) → SpecOK Tryz.prog G16 78 args pres res := by
  intro args pres res h
  unfold sCons at h
  split at h
  case h_2 => cases h
  cases h
  exact spec_ok (C := L0) okF4 noCall_ok Tryz.func78 (by kernel_rfl) (by kernel_rfl) (fun hp => g78_ev _ _ _ _ _ _ _ _ rfl)
def F5 := addE (addE (addE (addE F4 12 sElem) 11 sElem) 13 sBound) 78 sCons
theorem okF5 : EOK Tryz.prog F5 G16 := addE_ok (addE_ok (addE_ok (addE_ok okF4 ok12e) ok11e) ok13e) ok78e
end Y27
namespace Y27
open Go Go.AE Go.Proofs E6
noncomputable def L1 : Cx := cx F5
def misI (d w : List UInt8) : Option Nat := (List.range w.length).find? fun i => d.getD i 0 != w.getD i 0
def expU (c : Cu) (w : List UInt8) (y : Int) : Cu := if advOk c w.length then (match misI (c.d.drop c.p.toNat) w with
  | none => advU c w.length
  | some i => failU c y (c.p + i)) else advU c w.length
def sExp : List AV → Option (List Prop × List AV)
  | [.agg [.imm (.bytes d), .imm (.int .i64 p), .imm (.int .i64 e), .imm (.int .i64 a)], .imm (.bytes w), .imm (.int .i64 y)] => some ([okU ⟨d, p, e, a⟩, (w.length : Int) ≤ 1000], [(expU ⟨d, p, e, a⟩ w y).av])
  | _ => none
def cuC (d : List UInt8) (p e a : Int) : Ob := ⟨true, 0, .cells [by' d, i64 p, i64 e, i64 a]⟩
def hX53 (d : List UInt8) (p e a : Int) (w : List UInt8) (y : Int) (d' : List UInt8) (p' e' a' : Int) (i : Nat) : St :=
  ⟨spr [(2, i64 y), (3, .ptr 0 0), (6, .ptr 1 0), (7, .ptr 2 0), (21, by' w), (22, ln w.length), (23, ln i)] 0 47, [(0, cuC d p e a), (1, ⟨true, 0, .cells zCur⟩), (2, cuC d' p' e' a')], 3, []⟩
def pX53 : Plan := ⟨[], msk [2, 3, 6, 7, 21, 22, 23] 0 47, [0, 1, 2]⟩
theorem misI_some {d w : List UInt8} {i : Nat} (hi : i < w.length) (hb : ∀ j, j < i → d.getD j 0 = w.getD j 0) (hn : d.getD i 0 ≠ w.getD i 0) : misI d w = some i := by
  unfold misI
  rw [List.find?_range_eq_some]
  exact ⟨by simpa using hn, by simpa using hi, fun j hj => by simpa using hb j hj⟩
theorem misI_none {d w : List UInt8} (hb : ∀ j, j < w.length → d.getD j 0 = w.getD j 0) : misI d w = none := by
  unfold misI
  rw [List.find?_eq_none]
  intro i hi
  have := hb i (List.mem_range.1 hi)
  simpa using this
end Y27
set_option maxRecDepth 100000
namespace Y27
open Go Go.AE Go.Proofs E6
attribute [local irreducible] loopK evCode evSpec loopB norm
theorem g53_in (d : List UInt8) (p : Int) (e : Int) (a : Int) (w : List UInt8) (y : Int) (K : List AV → Prop) : evSpec L1 Tryz.f53 [curAV d p e a, by' w, i64 y] K = (((0 : Int) ≤ Cu.p (Cu.mk d p e a) ∧ Cu.p (Cu.mk d p e a) ≤ (↑(Cu.d (Cu.mk d p e a)).length : Int) ∧ (↑(Cu.d (Cu.mk d p e a)).length : Int) ≤ 1000000000000) ∧ brn (!advOk (Cu.mk d p e a) (w.length : Int)) (K [.agg [by' (Cu.d (advU (Cu.mk d p e a) (w.length : Int))), i64 (Cu.p (advU (Cu.mk d p e a) (w.length : Int))), i64 (Cu.e (advU (Cu.mk d p e a) (w.length : Int))), i64 (Cu.a (advU (Cu.mk d p e a) (w.length : Int)))]]) (LoopI L1 (bodyOf Tryz.f53) 0 (St.mk (lapp [.agg [by' d, i64 p, i64 e, i64 a], by' w, i64 y, .ptr 0 0, .dead, .dead, .ptr 1 0, .ptr 2 0, bo (advOk (Cu.mk d p e a) (w.length : Int)), .dead, .dead, .tup [.agg [by' (Cu.d (advU (Cu.mk d p e a) (w.length : Int))), i64 (Cu.p (advU (Cu.mk d p e a) (w.length : Int))), i64 (Cu.e (advU (Cu.mk d p e a) (w.length : Int))), i64 (Cu.a (advU (Cu.mk d p e a) (w.length : Int)))], bo (advOk (Cu.mk d p e a) (w.length : Int))], .agg [by' d, i64 p, i64 e, i64 a], by' w, i64 (w.length : Int), .tup [.agg [by' (Cu.d (advU (Cu.mk d p e a) (w.length : Int))), i64 (Cu.p (advU
 (Cu.mk d p e a) (w.length : Int))), i64 (Cu.e (advU (Cu.mk d p e a) (w.length : Int))), i64 (Cu.a (advU (Cu.mk d p e a) (w.length : Int)))], bo (advOk (Cu.mk d p e a) (w.length : Int))], .agg [by' (Cu.d (advU (Cu.mk d p e a) (w.length : Int))), i64 (Cu.p (advU (Cu.mk d p e a) (w.length : Int))), i64 (Cu.e (advU (Cu.mk d p e a) (w.length : Int))), i64 (Cu.a (advU (Cu.mk d p e a) (w.length : Int)))], bo (advOk (Cu.mk d p e a) (w.length : Int)), bo (advOk (Cu.mk d p e a) (w.length : Int)), bo (!advOk (Cu.mk d p e a) (w.length : Int)), .dead, by' w, i64 (w.length : Int), i64 0] (dN 23)) [(0, Ob.mk true 0 (AObj.cells [by' d, i64 p, i64 e, i64 a])), (1, Ob.mk true 0 (AObj.cells [.imm (.val (Value.slice none 0 0)), i64 0, i64 0, i64 0])), (2, Ob.mk true 0 (AObj.cells [by' (Cu.d (advU (Cu.mk d p e a) (w.length : Int))), i64 (Cu.p (advU (Cu.mk d p e a) (w.length : Int))), i64 (Cu.e (advU (Cu.mk d p e a) (w.length : Int))), i64 (Cu.a (advU (Cu.mk d p e a) (w.length : Int)))]))] 3 []) (finK L1 Tryz.f53 K))) := by kernel_rfl
theorem g53_lp (d : List UInt8) (p : Int) (e : Int) (a : Int) (w : List UInt8) (y : Int) (d' : List UInt8) (p' : Int) (e' : Int) (a' : Int) (i : Nat) (k : AX → St → Prop) : evCode L1 (loopB (bodyOf Tryz.f53) 0) (hX53 d p e a w y d' p' e' a' i) k = (brn (decide ((↑i : Int) < (w.length : Int))) ((0 : Int) ≤ (↑i : Int) ∧ (↑i : Int) < (w.length : Int) ∧ (0 : Int) ≤ IntKind.wrap .i64 (p + (↑i : Int)) ∧ IntKind.wrap .i64 (p + (↑i : Int)) < (d.length : Int) ∧ brn ((↑(UInt8.toNat (List.getD d (IntKind.wrap .i64 (p + (↑i : Int))).toNat (0 : UInt8))) : Int) != (↑(UInt8.toNat (List.getD w (↑i : Int).toNat (0 : UInt8))) : Int)) (k AX.ret (St.mk (lapp [.dead, .dead, i64 y, .ptr 0 0, .dead, .dead, .ptr 1 0, .ptr 2 0, .dead, i64 (↑i : Int), .imm (.int .u8 (↑(UInt8.toNat (List.getD w (↑i : Int).toNat (0 : UInt8))) : Int))] (lapp (dN 10) [by' w, i64 (w.length : Int), i64 (↑i : Int), bo (decide ((↑i : Int) < (w.length : Int))), i64 (↑i : Int), AV.elv [IV.int .u8 (↑(UInt8.toNat (List.getD w (↑i : Int).toNat (0 : UInt8))) : Int)], .imm (.int .u8 (↑(UInt8.toNat (List.getD w (↑i : Int).toNat (0 : UInt8))) : Int)), .ptr 0 0, by' d, .ptr 0 1, i64 p, i64 (↑i : Int), i64 (IntKind.wrap .i64 (p + (↑i : Int))),
 AV.elv [IV.int .u8 (↑(UInt8.toNat (List.getD d (IntKind.wrap .i64 (p + (↑i : Int))).toNat (0 : UInt8))) : Int)], .imm (.int .u8 (↑(UInt8.toNat (List.getD d (IntKind.wrap .i64 (p + (↑i : Int))).toNat (0 : UInt8))) : Int)), .imm (.int .u8 (↑(UInt8.toNat (List.getD w (↑i : Int).toNat (0 : UInt8))) : Int)), bo ((↑(UInt8.toNat (List.getD d (IntKind.wrap .i64 (p + (↑i : Int))).toNat (0 : UInt8))) : Int) != (↑(UInt8.toNat (List.getD w (↑i : Int).toNat (0 : UInt8))) : Int)), .agg [by' d, i64 p, i64 e, i64 a], i64 y, .ptr 0 1, i64 p, i64 (↑i : Int), i64 (IntKind.wrap .i64 (p + (↑i : Int))), .agg [by' (Cu.d (failU (Cu.mk d p e a) y (IntKind.wrap .i64 (p + (↑i : Int))))), i64 (Cu.p (failU (Cu.mk d p e a) y (IntKind.wrap .i64 (p + (↑i : Int))))), i64 (Cu.e (failU (Cu.mk d p e a) y (IntKind.wrap .i64 (p + (↑i : Int))))), i64 (Cu.a (failU (Cu.mk d p e a) y (IntKind.wrap .i64 (p + (↑i : Int)))))], .dead, .dead])) [(0, Ob.mk true 0 (AObj.cells [by' d, i64 p, i64 e, i64 a])), (1, Ob.mk true 0 (AObj.cells [by' (Cu.d (failU (Cu.mk d p e a) y (IntKind.wrap .i64 (p + (↑i : Int))))), i64 (Cu.p (failU (Cu.mk d p e a) y (IntKind.wrap .i64 (p + (↑i : Int))))), i64 (Cu.e (failU (Cu.mk d p e a) y
 (IntKind.wrap .i64 (p + (↑i : Int))))), i64 (Cu.a (failU (Cu.mk d p e a) y (IntKind.wrap .i64 (p + (↑i : Int)))))])), (2, Ob.mk true 0 (AObj.cells [by' d', i64 p', i64 e', i64 a']))] 3 [])) (k AX.normal (St.mk (lapp [.dead, .dead, i64 y, .ptr 0 0, .dead, .dead, .ptr 1 0, .ptr 2 0, .dead, i64 (↑i : Int), .imm (.int .u8 (↑(UInt8.toNat (List.getD w (↑i : Int).toNat (0 : UInt8))) : Int))] (lapp (dN 10) (lapp [by' w, i64 (w.length : Int), i64 (IntKind.wrap .i64 ((↑i : Int) + 1)), bo (decide ((↑i : Int) < (w.length : Int))), i64 (↑i : Int), AV.elv [IV.int .u8 (↑(UInt8.toNat (List.getD w (↑i : Int).toNat (0 : UInt8))) : Int)], .imm (.int .u8 (↑(UInt8.toNat (List.getD w (↑i : Int).toNat (0 : UInt8))) : Int)), .ptr 0 0, by' d, .ptr 0 1, i64 p, i64 (↑i : Int), i64 (IntKind.wrap .i64 (p + (↑i : Int))), AV.elv [IV.int .u8 (↑(UInt8.toNat (List.getD d (IntKind.wrap .i64 (p + (↑i : Int))).toNat (0 : UInt8))) : Int)], .imm (.int .u8 (↑(UInt8.toNat (List.getD d (IntKind.wrap .i64 (p + (↑i : Int))).toNat (0 : UInt8))) : Int)), .imm (.int .u8 (↑(UInt8.toNat (List.getD w (↑i : Int).toNat (0 : UInt8))) : Int)), bo ((↑(UInt8.toNat (List.getD d (IntKind.wrap .i64 (p + (↑i : Int))).toNat (0 : UInt8))) :
 Int) != (↑(UInt8.toNat (List.getD w (↑i : Int).toNat (0 : UInt8))) : Int))] (lapp (dN 7) [i64 (IntKind.wrap .i64 ((↑i : Int) + 1)), .dead])))) [(0, Ob.mk true 0 (AObj.cells [by' d, i64 p, i64 e, i64 a])), (1, Ob.mk true 0 (AObj.cells [.imm (.val (Value.slice none 0 0)), i64 0, i64 0, i64 0])), (2, Ob.mk true 0 (AObj.cells [by' d', i64 p', i64 e', i64 a']))] 3 []))) (k (AX.exit 0) (St.mk (lapp [.dead, .dead, i64 y, .ptr 0 0, .dead, .dead, .ptr 1 0, .ptr 2 0] (lapp (dN 13) (lapp [by' w, i64 (w.length : Int), i64 (↑i : Int), bo (decide ((↑i : Int) < (w.length : Int)))] (dN 22)))) [(0, Ob.mk true 0 (AObj.cells [by' d, i64 p, i64 e, i64 a])), (1, Ob.mk true 0 (AObj.cells [.imm (.val (Value.slice none 0 0)), i64 0, i64 0, i64 0])), (2, Ob.mk true 0 (AObj.cells [by' d', i64 p', i64 e', i64 a']))] 3 []))) := by kernel_rfl
end Y27
set_option maxRecDepth 100000
namespace Y27
open Go Go.AE Go.Proofs E6
attribute [local irreducible] loopK evCode evSpec loopB norm
theorem advOk_elim {d : List UInt8} {p e a : Int} {n : Nat} (h : advOk ⟨d, p, e, a⟩ n = true) : e = 0 ∧ (n : Int) ≤ d.length - p := by
  unfold advOk restU at h
  simp only [decide_eq_true_eq] at h
  obtain ⟨h1, _, h3⟩ := h
  rw [if_pos h1] at h3
  exact ⟨h1, h3⟩
theorem getD_drop {d : List UInt8} (p i : Nat) : (d.drop p).getD i 0 = d.getD (p + i) 0 := by
  rw [List.getD_eq_getElem?_getD, List.getD_eq_getElem?_getD, List.getElem?_drop]
set_option maxHeartbeats 2000000 in
theorem g53_ev (d : List UInt8) (p e a : Int) (w : List UInt8) (y : Int) (hu : okU ⟨d, p, e, a⟩) (hw : (w.length : Int) ≤ 1000) (K : List AV → Prop) (hK : K [(expU ⟨d, p, e, a⟩ w y).av]) : evSpec L1 Tryz.f53 [curAV d p e a, by' w, i64 y] K := by
  rw [g53_in]
  refine ⟨hu, brn_intro (fun h => ?_) (fun h => ?_)⟩
  · have : expU ⟨d, p, e, a⟩ w y = advU ⟨d, p, e, a⟩ (w.length : Int) := by
      unfold expU; rw [if_neg (by simpa using h)]
    rw [this] at hK; exact hK
  · have hok : advOk ⟨d, p, e, a⟩ (w.length : Int) = true := by simpa using h
    obtain ⟨he, hn⟩ := advOk_elim hok
    obtain ⟨hp0, hp1, hd⟩ := hu
    simp only at hp0 hp1 hd
    unfold LoopI
    refine loop_rule (fun i : Nat => hX53 d p e a w y (Cu.d (advU ⟨d, p, e, a⟩ (w.length : Int))) (Cu.p (advU ⟨d, p, e, a⟩ (w.length : Int))) (Cu.e (advU ⟨d, p, e, a⟩ (w.length : Int))) (Cu.a (advU ⟨d, p, e, a⟩ (w.length : Int))) i)
      (fun i => i ≤ w.length ∧ ∀ j, j < i → (d.drop p.toNat).getD j 0 = w.getD j 0) (fun i => w.length - i) (fun i hP K' hnorm hexit => ?_) rfl 0 pX53 _ ⟨Nat.zero_le _, fun j h => by omega⟩ (by kernel_rfl)
    obtain ⟨hi, ht⟩ := hP
    rw [g53_lp]
    refine brn_intro (fun h1 => ?_) (fun h1 => ?_)
    · simp only [decide_eq_true_eq] at h1
      have e1 : IntKind.wrap IntKind.i64 (p + (i : Int)) = p + (i : Int) := wrap64 (by omega) (by omega)
      have e2 : IntKind.wrap .i64 ((i : Int) + 1) = ((i + 1 : Nat) : Int) := by rw [wrap64 (by omega) (by omega)]; rfl
      simp only [e1, e2]
      have hg : (d.drop p.toNat).getD i 0 = d.getD (Int.toNat (p + (i : Int))) 0 := by
        rw [getD_drop]; congr 1; omega
      refine ⟨by omega, by omega, by omega, by omega, brn_intro (fun h2 => ?_) (fun h2 => ?_)⟩
      · have hm : misI (d.drop p.toNat) w = some i := misI_some (by omega) ht (by
          rw [hg]
          intro e
          rw [e, Int.toNat_natCast] at h2
          simp at h2)
        have : expU ⟨d, p, e, a⟩ w y = failU ⟨d, p, e, a⟩ y (p + i) := by
          unfold expU
          rw [if_pos hok]
          simp only [hm]
        rw [this] at hK
        exact hexit _ _ (by simp) (Eq.mp (by kernel_rfl) hK)
      · have e3 : (d.drop p.toNat).getD i 0 = w.getD i 0 := by
          rw [hg]
          simp only [bne_eq_false_iff_eq, Int.toNat_natCast] at h2
          exact UInt8.toNat_inj.1 (by omega)
        refine hnorm (i + 1) pX53 _ ⟨by omega, fun j hj => ?_⟩ (by omega) (by kernel_rfl)
        by_cases hji : j = i
        · rw [hji]; exact e3
        · exact ht j (by omega)
    · simp only [decide_eq_false_iff_not] at h1
      have hil : i = w.length := by omega
      have : expU ⟨d, p, e, a⟩ w y = advU ⟨d, p, e, a⟩ (w.length : Int) := by
        unfold expU
        rw [if_pos hok, misI_none (fun j hj => ht j (by omega))]
      rw [this] at hK
      exact hexit _ _ (by simp) (Eq.mp (by kernel_rfl) hK)
end Y27
set_option maxRecDepth 100000
namespace Y27
open Go Go.AE Go.Proofs E6
attribute [local irreducible] loopK evCode evSpec loopB norm
def sUintC : List AV → Option (List Prop × List AV)
  | [.agg [.imm (.bytes d), .imm (.int .i64 p), .imm (.int .i64 e), .imm (.int .i64 a)], .imm (.int .i64 n)] => some ([okU ⟨d, p, e, a⟩, 1 ≤ n, n ≤ 8], [.imm (.int .u64 (uintP (takeU ⟨d, p, e, a⟩ n) 0 n.toNat : Int)), (advU ⟨d, p, e, a⟩ n).av])
  | _ => none
theorem ok53e : ∀ args pres res, sExp args = some (pres, res) → SpecOK Tryz.prog G16 53 args pres res := by
  intro args pres res h
  unfold sExp at h
  split at h
  case h_2 => cases h
  cases h
  exact spec_ok (C := L1) okF5 noCall_ok Tryz.func53 (by kernel_rfl) (by kernel_rfl) (fun hp => g53_ev _ _ _ _ _ _ (hp _ (by simp)) (hp _ (by simp)) _ rfl)
end Y27
set_option maxRecDepth 100000
namespace Y27
open Go Go.AE Go.Proofs E6
noncomputable def IC : FuncId → Option Func := fun f => bif Nat.beq f 104 then some Tryz.f104 else none
noncomputable def L2 : Cx := ⟨Tryz.prog, F5, inl IC Tryz.prog F5 G16 0 3, G16, 0⟩
section
attribute [local irreducible] loopK evCode evSpec loopB norm
theorem g77_in (d : List UInt8) (p : Int) (e : Int) (a : Int) (n : Int) (K : List AV → Prop) : evSpec L2 Tryz.f77 [curAV d p e a, i64 n] K = (((0 : Int) ≤ Cu.p (Cu.mk d p e a) ∧ Cu.p (Cu.mk d p e a) ≤ (↑(Cu.d (Cu.mk d p e a)).length : Int) ∧ (↑(Cu.d (Cu.mk d p e a)).length : Int) ≤ 1000000000000) ∧ brn (!advOk (Cu.mk d p e a) n) (K [.imm (.int IntKind.u64 (0 : Int)), .agg [by' (Cu.d (advU (Cu.mk d p e a) n)), i64 (Cu.p (advU (Cu.mk d p e a) n)), i64 (Cu.e (advU (Cu.mk d p e a) n)), i64 (Cu.a (advU (Cu.mk d p e a) n))]]) ((d.length : Int) ≤ big ∧ (0 : Int) ≤ p ∧ p ≤ big ∧ (0 : Int) ≤ n ∧ n ≤ 8 ∧ K [.imm (.int IntKind.u64 (↑(uintP d p.toNat n.toNat) : Int)), .agg [by' (Cu.d (advU (Cu.mk d p e a) n)), i64 (Cu.p (advU (Cu.mk d p e a) n)), i64 (Cu.e (advU (Cu.mk d p e a) n)), i64 (Cu.a (advU (Cu.mk d p e a) n))]])) := by kernel_rfl
theorem IC_ok : ∀ f fn, IC f = some fn → Tryz.prog.funcs[f]? = some fn ∧ (fn.name == "runtime.NumGoroutine") = false := by
  intro f fn h
  unfold IC at h
  cases h1 : Nat.beq f 104 with
  | true => rw [h1, cond_true] at h; cases h; obtain rfl := nbeq h1; exact ⟨Tryz.func104, by kernel_rfl⟩
  | false => rw [h1, cond_false] at h; cases h
theorem uint_take {d : List UInt8} {p e a n : Int} (hp : 0 ≤ p) (n0 : 1 ≤ n) (h : advOk ⟨d, p, e, a⟩ n = true) : uintP (takeU ⟨d, p, e, a⟩ n) 0 n.toNat = uintP d p.toNat n.toNat := by
  have ht : takeU ⟨d, p, e, a⟩ n = (d.drop p.toNat).take n.toNat := by
    unfold takeU
    rw [if_pos h]
  have hl : n ≤ (d.length : Int) - p := by
    unfold advOk restU at h
    simp only [decide_eq_true_eq] at h
    obtain ⟨h1, _, h3⟩ := h
    rw [if_pos h1] at h3
    exact h3
  rw [ht]
  unfold uintP okR
  have hlen : ((d.drop p.toNat).take n.toNat).length = n.toNat := by
    rw [List.length_take, List.length_drop]; omega
  rw [if_pos (by simp only [decide_eq_true_eq, hlen]; omega), if_pos (by simp only [decide_eq_true_eq]; omega), List.drop_zero, List.take_take, Nat.min_self]
theorem uint_none {d : List UInt8} {p e a n : Int} (n0 : 1 ≤ n) (h : advOk ⟨d, p, e, a⟩ n = false) : uintP (takeU ⟨d, p, e, a⟩ n) 0 n.toNat = 0 := by
  have ht : takeU ⟨d, p, e, a⟩ n = [] := by
    unfold takeU
    rw [if_neg (by rw [h]; decide)]
  rw [ht]
  unfold uintP okR
  rw [if_neg (by simp only [decide_eq_true_eq, List.length_nil]; omega)]
theorem g77_ev (d : List UInt8) (p e a n : Int) (hu : okU ⟨d, p, e, a⟩) (n1 : 1 ≤ n) (n8 : n ≤ 8) (K : List AV → Prop) (hK : K [.imm (.int .u64 (uintP (takeU ⟨d, p, e, a⟩ n) 0 n.toNat : Int)), (advU ⟨d, p, e, a⟩ n).av]) : evSpec L2 Tryz.f77 [curAV d p e a, i64 n] K := by
  rw [g77_in]
  obtain ⟨hp0, hp1, hd⟩ := hu
  simp only at hp0 hp1 hd
  have hbig : big = 4611686018427387904 := rfl
  refine ⟨⟨hp0, hp1, hd⟩, brn_intro (fun h => ?_) (fun h => ?_)⟩
  · rw [uint_none n1 (by simpa using h)] at hK
    exact hK
  · rw [uint_take hp0 n1 (by simpa using h)] at hK
    exact ⟨by omega, hp0, by omega, by omega, n8, hK⟩
theorem ok77e : ∀ args pres res, sUintC args = some (pres, res) → SpecOK Tryz.prog G16 77 args pres res := by
  intro args pres res h
  unfold sUintC at h
  split at h
  case h_2 => cases h
  cases h
  exact spec_ok (C := L2) okF5 (inl_ok okF5 IC_ok 3) Tryz.func77 (by kernel_rfl) (by kernel_rfl) (fun hp => g77_ev _ _ _ _ _ (hp _ (by simp)) (hp _ (by simp)) (hp _ (by simp)) _ rfl)
end
def F6 := addE (addE F5 53 sExp) 77 sUintC
theorem okF6 : EOK Tryz.prog F6 G16 := addE_ok (addE_ok okF5 ok53e) ok77e
end Y27
set_option maxRecDepth 100000
namespace Y27
open Go Go.AE Go.Proofs E6
def verB (x : Int) : Int := if x = 0 then 1 else if x = 50 then 2 else if x = 51 then 3 else if x = 52 then 4 else 0
def verU (c : Cu) : Int × Cu := if Cu.e (advU c 1) ≠ 0 then (0, advU c 1) else if verB (uintP (takeU c 1) 0 1) = 0 then (0, failU c 4 c.p) else (verB (uintP (takeU c 1) 0 1), advU c 1)
def sVer : List AV → Option (List Prop × List AV)
  | [.agg [.imm (.bytes d), .imm (.int .i64 p), .imm (.int .i64 e), .imm (.int .i64 a)]] => some ([okU ⟨d, p, e, a⟩], [i64 (verU ⟨d, p, e, a⟩).1, (verU ⟨d, p, e, a⟩).2.av])
  | _ => none
def sByte : List AV → Option (List Prop × List AV)
  | [.imm (.int .i64 k)] => some ([1 ≤ k, k ≤ 4], [.imm (.int .u8 (if k = 1 then 0 else 48 + k))])
  | _ => none
noncomputable def L3 : Cx := ⟨Tryz.prog, F6, noCall, G16, 9⟩
section
attribute [local irreducible] loopK evCode evSpec loopB norm
theorem g75_in (d : List UInt8) (p : Int) (e : Int) (a : Int) (K : List AV → Prop) : evSpec L3 Tryz.f75 [curAV d p e a] K = (((0 : Int) ≤ Cu.p (Cu.mk d p e a) ∧ Cu.p (Cu.mk d p e a) ≤ (↑(Cu.d (Cu.mk d p e a)).length : Int) ∧ (↑(Cu.d (Cu.mk d p e a)).length : Int) ≤ 1000000000000) ∧ (1 : Int) ≤ 1 ∧ (1 : Int) ≤ 8 ∧ brn (Cu.e (advU (Cu.mk d p e a) (1 : Int)) != 0) (K [i64 0, .agg [by' (Cu.d (advU (Cu.mk d p e a) (1 : Int))), i64 (Cu.p (advU (Cu.mk d p e a) (1 : Int))), i64 (Cu.e (advU (Cu.mk d p e a) (1 : Int))), i64 (Cu.a (advU (Cu.mk d p e a) (1 : Int)))]]) (brn (IntKind.wrap IntKind.u64 (0 : Int) == (↑(uintP (takeU (Cu.mk d p e a) (1 : Int)) 0 (1 : Int).toNat) : Int)) (K [i64 1, .agg [by' (Cu.d (advU (Cu.mk d p e a) (1 : Int))), i64 (Cu.p (advU (Cu.mk d p e a) (1 : Int))), i64 (Cu.e (advU (Cu.mk d p e a) (1 : Int))), i64 (Cu.a (advU (Cu.mk d p e a) (1 : Int)))]]) (brn (IntKind.wrap IntKind.u64 (50 : Int) == (↑(uintP (takeU (Cu.mk d p e a) (1 : Int)) 0 (1 : Int).toNat) : Int)) (K [i64 2, .agg [by' (Cu.d (advU (Cu.mk d p e a) (1 : Int))), i64 (Cu.p (advU (Cu.mk d p e a) (1 : Int))), i64 (Cu.e (advU (Cu.mk d p e a) (1 : Int))), i64 (Cu.a (advU (Cu.mk d p e a) (1 : Int)))]]) (brn
 (IntKind.wrap IntKind.u64 (51 : Int) == (↑(uintP (takeU (Cu.mk d p e a) (1 : Int)) 0 (1 : Int).toNat) : Int)) (K [i64 3, .agg [by' (Cu.d (advU (Cu.mk d p e a) (1 : Int))), i64 (Cu.p (advU (Cu.mk d p e a) (1 : Int))), i64 (Cu.e (advU (Cu.mk d p e a) (1 : Int))), i64 (Cu.a (advU (Cu.mk d p e a) (1 : Int)))]]) (brn (IntKind.wrap IntKind.u64 (52 : Int) == (↑(uintP (takeU (Cu.mk d p e a) (1 : Int)) 0 (1 : Int).toNat) : Int)) (K [i64 4, .agg [by' (Cu.d (advU (Cu.mk d p e a) (1 : Int))), i64 (Cu.p (advU (Cu.mk d p e a) (1 : Int))), i64 (Cu.e (advU (Cu.mk d p e a) (1 : Int))), i64 (Cu.a (advU (Cu.mk d p e a) (1 : Int)))]]) (K [i64 0, .agg [by' (Cu.d (failU (Cu.mk d p e a) (4 : Int) p)), i64 (Cu.p (failU (Cu.mk d p e a) (4 : Int) p)), i64 (Cu.e (failU (Cu.mk d p e a) (4 : Int) p)), i64 (Cu.a (failU (Cu.mk d p e a) (4 : Int) p))]])))))) := by kernel_rfl
theorem g30_in (k : Int) (K : List AV → Prop) : evSpec L3 Tryz.f30 [i64 k] K = (brn (k == 1) (K [.imm (.int .u8 0)]) (K [.imm (.int .u8 (IntKind.wrap IntKind.u8 (IntKind.wrap .i64 ((48 : Int) + k))))])) := by kernel_rfl
theorem g75_ev (d : List UInt8) (p e a : Int) (hu : okU ⟨d, p, e, a⟩) (K : List AV → Prop) (hK : K [i64 (verU ⟨d, p, e, a⟩).1, (verU ⟨d, p, e, a⟩).2.av]) : evSpec L3 Tryz.f75 [curAV d p e a] K := by
  rw [g75_in]
  have w0 : IntKind.wrap IntKind.u64 (0 : Int) = 0 := wrapU (by decide) (by decide)
  have w1 : IntKind.wrap IntKind.u64 (50 : Int) = 50 := wrapU (by decide) (by decide)
  have w2 : IntKind.wrap IntKind.u64 (51 : Int) = 51 := wrapU (by decide) (by decide)
  have w3 : IntKind.wrap IntKind.u64 (52 : Int) = 52 := wrapU (by decide) (by decide)
  rw [w0, w1, w2, w3]
  have t1 : Int.toNat (1 : Int) = 1 := rfl
  rw [t1]
  refine ⟨hu, by decide, by decide, brn_intro (fun h => ?_) (fun h => ?_)⟩
  · have : verU ⟨d, p, e, a⟩ = (0, advU ⟨d, p, e, a⟩ 1) := by
      unfold verU
      rw [if_pos (by simpa using h)]
    rw [this] at hK
    exact hK
  · have he : ¬ (Cu.e (advU ⟨d, p, e, a⟩ 1) ≠ 0) := by simpa using h
    generalize hv : ((uintP (takeU ⟨d, p, e, a⟩ 1) 0 1 : Nat) : Int) = v
    have hver : verU ⟨d, p, e, a⟩ = if verB v = 0 then (0, failU ⟨d, p, e, a⟩ 4 p) else (verB v, advU ⟨d, p, e, a⟩ 1) := by
      unfold verU
      rw [if_neg he, hv]
    have go : ∀ k : Int, k ≠ 0 → verB v = k → K [i64 k, (advU ⟨d, p, e, a⟩ 1).av] := fun k hk hb => by
      rw [hver, if_neg (by rw [hb]; exact hk), hb] at hK
      exact hK
    refine brn_intro (fun h0 => go 1 (by decide) ?_) (fun h0 => brn_intro (fun h1 => go 2 (by decide) ?_) (fun h1 => brn_intro (fun h2 => go 3 (by decide) ?_) (fun h2 => brn_intro (fun h3 => go 4 (by decide) ?_) (fun h3 => ?_))))
    · simp only [beq_iff_eq] at h0
      rw [← h0]; rfl
    · simp only [beq_iff_eq] at h1
      rw [← h1]; rfl
    · simp only [beq_iff_eq] at h2
      rw [← h2]; rfl
    · simp only [beq_iff_eq] at h3
      rw [← h3]; rfl
    · simp only [beq_eq_false_iff_ne, ne_eq] at h0 h1 h2 h3
      have : verB v = 0 := by
        unfold verB
        rw [if_neg (fun x => h0 x.symm), if_neg (fun x => h1 x.symm), if_neg (fun x => h2 x.symm), if_neg (fun x => h3 x.symm)]
      rw [hver, if_pos this] at hK
      exact hK
theorem g30_ev (k : Int) (k1 : 1 ≤ k) (k4 : k ≤ 4) (K : List AV → Prop) (hK : K [.imm (.int .u8 (if k = 1 then 0 else 48 + k))]) : evSpec L3 Tryz.f30 [i64 k] K := by
  rw [g30_in]
  refine brn_intro (fun h => ?_) (fun h => ?_)
  · rw [if_pos (by simpa using h)] at hK
    exact hK
  · rw [if_neg (by simpa using h)] at hK
    rw [wrap64 (n := 48 + k) (by omega) (by omega), wrapU8 (n := 48 + k) (by omega) (by omega)]
    exact hK
theorem ok75e : ∀ args pres res, sVer args = some (pres, res) → SpecOK Tryz.prog G16 75 args pres res := by
  intro args pres res h
  unfold sVer at h
  split at h
  case h_2 => cases h
  cases h
  exact spec_ok (C := L3) okF6 noCall_ok Tryz.func75 (by kernel_rfl) (by kernel_rfl) (fun hp => g75_ev _ _ _ _ (hp _ (by simp)) _ rfl)
theorem ok30e : ∀ args pres res, sByte args = some (pres, res) → SpecOK Tryz.prog G16 30 args pres res := by
  intro args pres res h
  unfold sByte at h
  split at h
  case h_2 => cases h
  cases h
  exact spec_ok (C := L3) okF6 noCall_ok Tryz.func30 (by kernel_rfl) (by kernel_rfl) (fun hp => g30_ev _ (hp _ (by simp)) (hp _ (by simp)) _ rfl)
end
def F7 := addE (addE F6 75 sVer) 30 sByte
theorem okF7 : EOK Tryz.prog F7 G16 := addE_ok (addE_ok okF6 ok75e) ok30e
end Y27
set_option maxRecDepth 100000
namespace Y27
open Go Go.AE Go.Proofs E6
def hd0 (v : Int) : List UInt8 := List.map u8 [84, 90, 105, 102, if v = 1 then 0 else 48 + v, 0, 0, 0, 0, 0, 0, 0, 0, 0, 0, 0, 0, 0, 0, 0]
def hdB (h : Hd) : List UInt8 := hd0 h.v ++ be 4 h.iu.toNat ++ be 4 h.is.toNat ++ be 4 h.l.toNat ++ be 4 h.t.toNat ++ be 4 h.ty.toNat ++ be 4 h.c.toNat
def sHdE : List AV → Option (List Prop × List AV)
  | [.agg [.imm (.int .i64 v), .imm (.int .u32 iu), .imm (.int .u32 is), .imm (.int .u32 l), .imm (.int .u32 t), .imm (.int .u32 ty), .imm (.int .u32 c)]] => some ([1 ≤ v, v ≤ 4, okH ⟨v, iu, is, l, t, ty, c⟩], [.new (.bytes (hdB ⟨v, iu, is, l, t, ty, c⟩))])
  | _ => none
noncomputable def L5 : Cx := ⟨Tryz.prog, F7, noCall, G16, 9⟩
section
attribute [local irreducible] loopK evCode evSpec loopB norm
theorem g16_in (v : Int) (iu : Int) (is : Int) (l : Int) (t : Int) (ty : Int) (c : Int) (K : List AV → Prop) : evSpec L5 Tryz.f16 [hdAV v iu is l t ty c] K = ((1 : Int) ≤ v ∧ v ≤ 4 ∧ (0 : Int) ≤ 0 ∧ (0 : Int) < (↑(List.length [iu, is, l, t, ty, c]) : Int) ∧ (↑(List.map u8 [(84 : Int), (90 : Int), (105 : Int), (102 : Int), if v = 1 then (0 : Int) else (48 : Int) + v, (0 : Int), (0 : Int), (0 : Int), (0 : Int), (0 : Int), (0 : Int), (0 : Int), (0 : Int), (0 : Int), (0 : Int), (0 : Int), (0 : Int), (0 : Int), (0 : Int), (0 : Int)]).length : Int) ≤ 1000000000000 ∧ (0 : Int) ≤ 4 ∧ (4 : Int) ≤ 8 ∧ (0 : Int) ≤ IntKind.wrap IntKind.u64 (List.getD [iu, is, l, t, ty, c] (0 : Int).toNat (0 : Int)) ∧ IntKind.wrap IntKind.u64 (List.getD [iu, is, l, t, ty, c] (0 : Int).toNat (0 : Int)) < 18446744073709551616 ∧ (0 : Int) ≤ IntKind.wrap .i64 ((0 : Int) + 1) ∧ IntKind.wrap .i64 ((0 : Int) + 1) < (↑(List.length [iu, is, l, t, ty, c]) : Int) ∧ (↑(List.map u8 [(84 : Int), (90 : Int), (105 : Int), (102 : Int), if v = 1 then (0 : Int) else (48 : Int) + v, (0 : Int), (0 : Int), (0 : Int), (0 : Int), (0 : Int), (0 : Int), (0 : Int), (0 : Int), (0 : Int), (0 : Int), (0 : Int), (0 : Int), (0 : Int), (0 :
 Int), (0 : Int)] ++ be (4 : Int).toNat (IntKind.wrap IntKind.u64 (List.getD [iu, is, l, t, ty, c] (0 : Int).toNat (0 : Int))).toNat).length : Int) ≤ 1000000000000 ∧ (0 : Int) ≤ 4 ∧ (4 : Int) ≤ 8 ∧ (0 : Int) ≤ IntKind.wrap IntKind.u64 (List.getD [iu, is, l, t, ty, c] (IntKind.wrap .i64 ((0 : Int) + 1)).toNat (0 : Int)) ∧ IntKind.wrap IntKind.u64 (List.getD [iu, is, l, t, ty, c] (IntKind.wrap .i64 ((0 : Int) + 1)).toNat (0 : Int)) < 18446744073709551616 ∧ (0 : Int) ≤ IntKind.wrap .i64 (IntKind.wrap .i64 ((0 : Int) + 1) + 1) ∧ IntKind.wrap .i64 (IntKind.wrap .i64 ((0 : Int) + 1) + 1) < (↑(List.length [iu, is, l, t, ty, c]) : Int) ∧ (↑(List.map u8 [(84 : Int), (90 : Int), (105 : Int), (102 : Int), if v = 1 then (0 : Int) else (48 : Int) + v, (0 : Int), (0 : Int), (0 : Int), (0 : Int), (0 : Int), (0 : Int), (0 : Int), (0 : Int), (0 : Int), (0 : Int), (0 : Int), (0 : Int), (0 : Int), (0 : Int), (0 : Int)] ++ be (4 : Int).toNat (IntKind.wrap IntKind.u64 (List.getD [iu, is, l, t, ty, c] (0 : Int).toNat (0 : Int))).toNat ++ be (4 : Int).toNat (IntKind.wrap IntKind.u64 (List.getD [iu, is, l, t, ty, c] (IntKind.wrap .i64 ((0 : Int) + 1)).toNat (0 : Int))).toNat).length : Int) ≤ 1000000000000 ∧
 (0 : Int) ≤ 4 ∧ (4 : Int) ≤ 8 ∧ (0 : Int) ≤ IntKind.wrap IntKind.u64 (List.getD [iu, is, l, t, ty, c] (IntKind.wrap .i64 (IntKind.wrap .i64 ((0 : Int) + 1) + 1)).toNat (0 : Int)) ∧ IntKind.wrap IntKind.u64 (List.getD [iu, is, l, t, ty, c] (IntKind.wrap .i64 (IntKind.wrap .i64 ((0 : Int) + 1) + 1)).toNat (0 : Int)) < 18446744073709551616 ∧ (0 : Int) ≤ IntKind.wrap .i64 (IntKind.wrap .i64 (IntKind.wrap .i64 ((0 : Int) + 1) + 1) + 1) ∧ IntKind.wrap .i64 (IntKind.wrap .i64 (IntKind.wrap .i64 ((0 : Int) + 1) + 1) + 1) < (↑(List.length [iu, is, l, t, ty, c]) : Int) ∧ (↑(List.map u8 [(84 : Int), (90 : Int), (105 : Int), (102 : Int), if v = 1 then (0 : Int) else (48 : Int) + v, (0 : Int), (0 : Int), (0 : Int), (0 : Int), (0 : Int), (0 : Int), (0 : Int), (0 : Int), (0 : Int), (0 : Int), (0 : Int), (0 : Int), (0 : Int), (0 : Int), (0 : Int)] ++ be (4 : Int).toNat (IntKind.wrap IntKind.u64 (List.getD [iu, is, l, t, ty, c] (0 : Int).toNat (0 : Int))).toNat ++ be (4 : Int).toNat (IntKind.wrap IntKind.u64 (List.getD [iu, is, l, t, ty, c] (IntKind.wrap .i64 ((0 : Int) + 1)).toNat (0 : Int))).toNat ++ be (4 : Int).toNat (IntKind.wrap IntKind.u64 (List.getD [iu, is, l, t, ty, c] (IntKind.wrap .i64
 (IntKind.wrap .i64 ((0 : Int) + 1) + 1)).toNat (0 : Int))).toNat).length : Int) ≤ 1000000000000 ∧ (0 : Int) ≤ 4 ∧ (4 : Int) ≤ 8 ∧ (0 : Int) ≤ IntKind.wrap IntKind.u64 (List.getD [iu, is, l, t, ty, c] (IntKind.wrap .i64 (IntKind.wrap .i64 (IntKind.wrap .i64 ((0 : Int) + 1) + 1) + 1)).toNat (0 : Int)) ∧ IntKind.wrap IntKind.u64 (List.getD [iu, is, l, t, ty, c] (IntKind.wrap .i64 (IntKind.wrap .i64 (IntKind.wrap .i64 ((0 : Int) + 1) + 1) + 1)).toNat (0 : Int)) < 18446744073709551616 ∧ (0 : Int) ≤ IntKind.wrap .i64 (IntKind.wrap .i64 (IntKind.wrap .i64 (IntKind.wrap .i64 ((0 : Int) + 1) + 1) + 1) + 1) ∧ IntKind.wrap .i64 (IntKind.wrap .i64 (IntKind.wrap .i64 (IntKind.wrap .i64 ((0 : Int) + 1) + 1) + 1) + 1) < (↑(List.length [iu, is, l, t, ty, c]) : Int) ∧ (↑(List.map u8 [(84 : Int), (90 : Int), (105 : Int), (102 : Int), if v = 1 then (0 : Int) else (48 : Int) + v, (0 : Int), (0 : Int), (0 : Int), (0 : Int), (0 : Int), (0 : Int), (0 : Int), (0 : Int), (0 : Int), (0 : Int), (0 : Int), (0 : Int), (0 : Int), (0 : Int), (0 : Int)] ++ be (4 : Int).toNat (IntKind.wrap IntKind.u64 (List.getD [iu, is, l, t, ty, c] (0 : Int).toNat (0 : Int))).toNat ++ be (4 : Int).toNat (IntKind.wrap IntKind.u64
 (List.getD [iu, is, l, t, ty, c] (IntKind.wrap .i64 ((0 : Int) + 1)).toNat (0 : Int))).toNat ++ be (4 : Int).toNat (IntKind.wrap IntKind.u64 (List.getD [iu, is, l, t, ty, c] (IntKind.wrap .i64 (IntKind.wrap .i64 ((0 : Int) + 1) + 1)).toNat (0 : Int))).toNat ++ be (4 : Int).toNat (IntKind.wrap IntKind.u64 (List.getD [iu, is, l, t, ty, c] (IntKind.wrap .i64 (IntKind.wrap .i64 (IntKind.wrap .i64 ((0 : Int) + 1) + 1) + 1)).toNat (0 : Int))).toNat).length : Int) ≤ 1000000000000 ∧ (0 : Int) ≤ 4 ∧ (4 : Int) ≤ 8 ∧ (0 : Int) ≤ IntKind.wrap IntKind.u64 (List.getD [iu, is, l, t, ty, c] (IntKind.wrap .i64 (IntKind.wrap .i64 (IntKind.wrap .i64 (IntKind.wrap .i64 ((0 : Int) + 1) + 1) + 1) + 1)).toNat (0 : Int)) ∧ IntKind.wrap IntKind.u64 (List.getD [iu, is, l, t, ty, c] (IntKind.wrap .i64 (IntKind.wrap .i64 (IntKind.wrap .i64 (IntKind.wrap .i64 ((0 : Int) + 1) + 1) + 1) + 1)).toNat (0 : Int)) < 18446744073709551616 ∧ (0 : Int) ≤ IntKind.wrap .i64 (IntKind.wrap .i64 (IntKind.wrap .i64 (IntKind.wrap .i64 (IntKind.wrap .i64 ((0 : Int) + 1) + 1) + 1) + 1) + 1) ∧ IntKind.wrap .i64 (IntKind.wrap .i64 (IntKind.wrap .i64 (IntKind.wrap .i64 (IntKind.wrap .i64 ((0 : Int) + 1) + 1) + 1) + 1) + 1) <
 (↑(List.length [iu, is, l, t, ty, c]) : Int) ∧ (↑(List.map u8 [(84 : Int), (90 : Int), (105 : Int), (102 : Int), if v = 1 then (0 : Int) else (48 : Int) + v, (0 : Int), (0 : Int), (0 : Int), (0 : Int), (0 : Int), (0 : Int), (0 : Int), (0 : Int), (0 : Int), (0 : Int), (0 : Int), (0 : Int), (0 : Int), (0 : Int), (0 : Int)] ++ be (4 : Int).toNat (IntKind.wrap IntKind.u64 (List.getD [iu, is, l, t, ty, c] (0 : Int).toNat (0 : Int))).toNat ++ be (4 : Int).toNat (IntKind.wrap IntKind.u64 (List.getD [iu, is, l, t, ty, c] (IntKind.wrap .i64 ((0 : Int) + 1)).toNat (0 : Int))).toNat ++ be (4 : Int).toNat (IntKind.wrap IntKind.u64 (List.getD [iu, is, l, t, ty, c] (IntKind.wrap .i64 (IntKind.wrap .i64 ((0 : Int) + 1) + 1)).toNat (0 : Int))).toNat ++ be (4 : Int).toNat (IntKind.wrap IntKind.u64 (List.getD [iu, is, l, t, ty, c] (IntKind.wrap .i64 (IntKind.wrap .i64 (IntKind.wrap .i64 ((0 : Int) + 1) + 1) + 1)).toNat (0 : Int))).toNat ++ be (4 : Int).toNat (IntKind.wrap IntKind.u64 (List.getD [iu, is, l, t, ty, c] (IntKind.wrap .i64 (IntKind.wrap .i64 (IntKind.wrap .i64 (IntKind.wrap .i64 ((0 : Int) + 1) + 1) + 1) + 1)).toNat (0 : Int))).toNat).length : Int) ≤ 1000000000000 ∧ (0 : Int) ≤ 4 ∧ (4 :
 Int) ≤ 8 ∧ (0 : Int) ≤ IntKind.wrap IntKind.u64 (List.getD [iu, is, l, t, ty, c] (IntKind.wrap .i64 (IntKind.wrap .i64 (IntKind.wrap .i64 (IntKind.wrap .i64 (IntKind.wrap .i64 ((0 : Int) + 1) + 1) + 1) + 1) + 1)).toNat (0 : Int)) ∧ IntKind.wrap IntKind.u64 (List.getD [iu, is, l, t, ty, c] (IntKind.wrap .i64 (IntKind.wrap .i64 (IntKind.wrap .i64 (IntKind.wrap .i64 (IntKind.wrap .i64 ((0 : Int) + 1) + 1) + 1) + 1) + 1)).toNat (0 : Int)) < 18446744073709551616 ∧ K [AV.new (IV.bytes (List.map u8 [(84 : Int), (90 : Int), (105 : Int), (102 : Int), if v = 1 then (0 : Int) else (48 : Int) + v, (0 : Int), (0 : Int), (0 : Int), (0 : Int), (0 : Int), (0 : Int), (0 : Int), (0 : Int), (0 : Int), (0 : Int), (0 : Int), (0 : Int), (0 : Int), (0 : Int), (0 : Int)] ++ be (4 : Int).toNat (IntKind.wrap IntKind.u64 (List.getD [iu, is, l, t, ty, c] (0 : Int).toNat (0 : Int))).toNat ++ be (4 : Int).toNat (IntKind.wrap IntKind.u64 (List.getD [iu, is, l, t, ty, c] (IntKind.wrap .i64 ((0 : Int) + 1)).toNat (0 : Int))).toNat ++ be (4 : Int).toNat (IntKind.wrap IntKind.u64 (List.getD [iu, is, l, t, ty, c] (IntKind.wrap .i64 (IntKind.wrap .i64 ((0 : Int) + 1) + 1)).toNat (0 : Int))).toNat ++ be (4 : Int).toNat
 (IntKind.wrap IntKind.u64 (List.getD [iu, is, l, t, ty, c] (IntKind.wrap .i64 (IntKind.wrap .i64 (IntKind.wrap .i64 ((0 : Int) + 1) + 1) + 1)).toNat (0 : Int))).toNat ++ be (4 : Int).toNat (IntKind.wrap IntKind.u64 (List.getD [iu, is, l, t, ty, c] (IntKind.wrap .i64 (IntKind.wrap .i64 (IntKind.wrap .i64 (IntKind.wrap .i64 ((0 : Int) + 1) + 1) + 1) + 1)).toNat (0 : Int))).toNat ++ be (4 : Int).toNat (IntKind.wrap IntKind.u64 (List.getD [iu, is, l, t, ty, c] (IntKind.wrap .i64 (IntKind.wrap .i64 (IntKind.wrap .i64 (IntKind.wrap .i64 (IntKind.wrap .i64 ((0 : Int) + 1) + 1) + 1) + 1) + 1)).toNat (0 : Int))).toNat))]) := by kernel_rfl
set_option maxHeartbeats 2000000 in
theorem g16_ev (v iu is l t ty c : Int) (v1 : 1 ≤ v) (v4 : v ≤ 4) (hh : okH ⟨v, iu, is, l, t, ty, c⟩) (K : List AV → Prop) (hK : K [.new (.bytes (hdB ⟨v, iu, is, l, t, ty, c⟩))]) : evSpec L5 Tryz.f16 [hdAV v iu is l t ty c] K := by
  refine Eq.mpr (g16_in v iu is l t ty c K) ?_
  obtain ⟨⟨a1, a2⟩, ⟨b1, b2⟩, ⟨c1, c2⟩, ⟨d1, d2⟩, ⟨e1, e2⟩, ⟨f1, f2⟩⟩ := hh
  simp only at a1 a2 b1 b2 c1 c2 d1 d2 e1 e2 f1 f2
  have w1 : IntKind.wrap IntKind.i64 ((0 : Int) + (1 : Int)) = 1 := by decide
  have w2 : IntKind.wrap IntKind.i64 ((1 : Int) + (1 : Int)) = 2 := by decide
  have w3 : IntKind.wrap IntKind.i64 ((2 : Int) + (1 : Int)) = 3 := by decide
  have w4 : IntKind.wrap IntKind.i64 ((3 : Int) + (1 : Int)) = 4 := by decide
  have w5 : IntKind.wrap IntKind.i64 ((4 : Int) + (1 : Int)) = 5 := by decide
  rw [w1, w2, w3, w4, w5]
  have g0 : List.getD [iu, is, l, t, ty, c] (Int.toNat (0 : Int)) (0 : Int) = iu := rfl
  have g1 : List.getD [iu, is, l, t, ty, c] (Int.toNat (1 : Int)) (0 : Int) = is := rfl
  have g2 : List.getD [iu, is, l, t, ty, c] (Int.toNat (2 : Int)) (0 : Int) = l := rfl
  have g3 : List.getD [iu, is, l, t, ty, c] (Int.toNat (3 : Int)) (0 : Int) = t := rfl
  have g4 : List.getD [iu, is, l, t, ty, c] (Int.toNat (4 : Int)) (0 : Int) = ty := rfl
  have g5 : List.getD [iu, is, l, t, ty, c] (Int.toNat (5 : Int)) (0 : Int) = c := rfl
  have t4 : Int.toNat (4 : Int) = 4 := rfl
  rw [g0, g1, g2, g3, g4, g5, wrapU (n := iu) (by omega) (by omega), wrapU (n := is) (by omega) (by omega), wrapU (n := l) (by omega) (by omega), wrapU (n := t) (by omega) (by omega), wrapU (n := ty) (by omega) (by omega), wrapU (n := c) (by omega) (by omega), t4]
  have hl : ((List.length [iu, is, l, t, ty, c] : Nat) : Int) = 6 := rfl
  rw [hl]
  have hm : ∀ x : Int, (List.map u8 [84, 90, 105, 102, x, 0, 0, 0, 0, 0, 0, 0, 0, 0, 0, 0, 0, 0, 0, 0]).length = 20 := fun x => rfl
  have hK' : K [.new (.bytes (List.map u8 [84, 90, 105, 102, if v = 1 then 0 else 48 + v, 0, 0, 0, 0, 0, 0, 0, 0, 0, 0, 0, 0, 0, 0, 0] ++ be 4 iu.toNat ++ be 4 is.toNat ++ be 4 l.toNat ++ be 4 t.toNat ++ be 4 ty.toNat ++ be 4 c.toNat))] := hK
  clear hK
  generalize hx : (if v = 1 then (0 : Int) else 48 + v) = x at hK' ⊢
  generalize hy : List.map u8 [84, 90, 105, 102, x, 0, 0, 0, 0, 0, 0, 0, 0, 0, 0, 0, 0, 0, 0, 0] = y at hK' ⊢
  have hm' : y.length = 20 := by rw [← hy]; exact hm x
  repeat' (first | assumption | apply And.intro | omega | (simp only [List.length_append, hm', be_len]; omega))
theorem ok16h : ∀ args pres res, sHdE args = some (pres, res) → SpecOK Tryz.prog G16 16 args pres res := by
  intro args pres res h
  unfold sHdE at h
  split at h
  case h_2 => cases h
  cases h
  exact spec_ok (C := L5) okF7 noCall_ok Tryz.func16 (by kernel_rfl) (by kernel_rfl) (fun hp => g16_ev _ _ _ _ _ _ _ (hp _ (by simp)) (hp _ (by simp)) (hp _ (by simp)) _ rfl)
end
def F8 := addE F7 16 sHdE
theorem okF8 : EOK Tryz.prog F8 G16 := addE_ok okF7 ok16h
end Y27
namespace Y27
open Go Go.AE Go.Proofs E6
noncomputable def IH : FuncId → Option Func := fun f => bif Nat.beq f 76 then some Tryz.f76 else none
noncomputable def L4 : Cx := ⟨Tryz.prog, F7, inl IH Tryz.prog F7 G16 999 3, G16, 999⟩
theorem IH_ok : ∀ f fn, IH f = some fn → Tryz.prog.funcs[f]? = some fn ∧ (fn.name == "runtime.NumGoroutine") = false := by
  intro f fn h
  unfold IH at h
  cases h1 : Nat.beq f 76 with
  | true => rw [h1, cond_true] at h; cases h; obtain rfl := nbeq h1; exact ⟨Tryz.func76, by kernel_rfl⟩
  | false => rw [h1, cond_false] at h; cases h
end Y27
set_option maxRecDepth 100000
namespace Y27
open Go Go.AE Go.Proofs E6
attribute [local irreducible] loopK evCode evSpec loopB norm
theorem g49_in (d : List UInt8) (p : Int) (e : Int) (a : Int) (K : List AV → Prop) : evSpec L4 Tryz.f49 [curAV d p e a] K = (let Q1 : Cu := (expU (Cu.mk d p e a) (List.map u8 [(84 : Int), (90 : Int), (105 : Int), (102 : Int)]) (3 : Int)); let Q2 : Int × Cu := (verU Q1); let Q3 : Cu := (expU (Prod.snd Q2) (List.replicate (15 : Int).toNat (0 : UInt8)) (5 : Int)); let Q4 : Cu := (advU Q3 (4 : Int)); let Q5 : Cu := (advU Q4 (4 : Int)); let Q6 : Cu := (advU Q5 (4 : Int)); let Q7 : Cu := (advU Q6 (4 : Int)); let Q8 : Cu := (advU Q7 (4 : Int)); let Q9 : Cu := (advU Q8 (4 : Int)); let R1 : Prop := (brn (Cu.e (failU Q9 (6 : Int) p) != 0) ((K [.agg [i64 0, u32 (0 : Int), u32 (0 : Int), u32 (0 : Int), u32 (0 : Int), u32 (0 : Int), u32 (0 : Int)], .agg [by' (Cu.d (failU Q9 (6 : Int) p)), i64 (Cu.p (failU Q9 (6 : Int) p)), i64 (Cu.e (failU Q9 (6 : Int) p)), i64 (Cu.a (failU Q9 (6 : Int) p))]] ∧ K [.agg [i64 0, u32 (0 : Int), u32 (0 : Int), u32 (0 : Int), u32 (0 : Int), u32 (0 : Int), u32 (0 : Int)], .agg [by' (Cu.d (failU Q9 (6 : Int) p)), i64 (Cu.p (failU Q9 (6 : Int) p)), i64 (Cu.e (failU Q9 (6 : Int) p)), i64 (Cu.a (failU Q9 (6 : Int) p))]]) ∧ K [.agg [i64 0, u32 (0 : Int), u32 (0 : Int), u32
 (0 : Int), u32 (0 : Int), u32 (0 : Int), u32 (0 : Int)], .agg [by' (Cu.d (failU Q9 (6 : Int) p)), i64 (Cu.p (failU Q9 (6 : Int) p)), i64 (Cu.e (failU Q9 (6 : Int) p)), i64 (Cu.a (failU Q9 (6 : Int) p))]]) (K [.agg [i64 (Prod.fst Q2), u32 (IntKind.wrap IntKind.u32 (↑(uintP (takeU Q3 (4 : Int)) 0 (4 : Int).toNat) : Int)), u32 (IntKind.wrap IntKind.u32 (↑(uintP (takeU Q4 (4 : Int)) 0 (4 : Int).toNat) : Int)), u32 (IntKind.wrap IntKind.u32 (↑(uintP (takeU Q5 (4 : Int)) 0 (4 : Int).toNat) : Int)), u32 (IntKind.wrap IntKind.u32 (↑(uintP (takeU Q6 (4 : Int)) 0 (4 : Int).toNat) : Int)), u32 (IntKind.wrap IntKind.u32 (↑(uintP (takeU Q7 (4 : Int)) 0 (4 : Int).toNat) : Int)), u32 (IntKind.wrap IntKind.u32 (↑(uintP (takeU Q8 (4 : Int)) 0 (4 : Int).toNat) : Int))], .agg [by' (Cu.d (failU Q9 (6 : Int) p)), i64 (Cu.p (failU Q9 (6 : Int) p)), i64 (Cu.e (failU Q9 (6 : Int) p)), i64 (Cu.a (failU Q9 (6 : Int) p))]] ∧ K [.agg [i64 (Prod.fst Q2), u32 (IntKind.wrap IntKind.u32 (↑(uintP (takeU Q3 (4 : Int)) 0 (4 : Int).toNat) : Int)), u32 (IntKind.wrap IntKind.u32 (↑(uintP (takeU Q4 (4 : Int)) 0 (4 : Int).toNat) : Int)), u32 (IntKind.wrap IntKind.u32 (↑(uintP (takeU Q5 (4 : Int)) 0 (4 : Int).toNat) :
 Int)), u32 (IntKind.wrap IntKind.u32 (↑(uintP (takeU Q6 (4 : Int)) 0 (4 : Int).toNat) : Int)), u32 (IntKind.wrap IntKind.u32 (↑(uintP (takeU Q7 (4 : Int)) 0 (4 : Int).toNat) : Int)), u32 (IntKind.wrap IntKind.u32 (↑(uintP (takeU Q8 (4 : Int)) 0 (4 : Int).toNat) : Int))], .agg [by' (Cu.d (failU Q9 (6 : Int) p)), i64 (Cu.p (failU Q9 (6 : Int) p)), i64 (Cu.e (failU Q9 (6 : Int) p)), i64 (Cu.a (failU Q9 (6 : Int) p))]])); let R2 : Prop := (brn (Cu.e Q9 != 0) ((K [.agg [i64 0, u32 (0 : Int), u32 (0 : Int), u32 (0 : Int), u32 (0 : Int), u32 (0 : Int), u32 (0 : Int)], .agg [by' (Cu.d Q9), i64 (Cu.p Q9), i64 (Cu.e Q9), i64 (Cu.a Q9)]] ∧ K [.agg [i64 0, u32 (0 : Int), u32 (0 : Int), u32 (0 : Int), u32 (0 : Int), u32 (0 : Int), u32 (0 : Int)], .agg [by' (Cu.d Q9), i64 (Cu.p Q9), i64 (Cu.e Q9), i64 (Cu.a Q9)]]) ∧ K [.agg [i64 0, u32 (0 : Int), u32 (0 : Int), u32 (0 : Int), u32 (0 : Int), u32 (0 : Int), u32 (0 : Int)], .agg [by' (Cu.d Q9), i64 (Cu.p Q9), i64 (Cu.e Q9), i64 (Cu.a Q9)]]) (K [.agg [i64 (Prod.fst Q2), u32 (IntKind.wrap IntKind.u32 (↑(uintP (takeU Q3 (4 : Int)) 0 (4 : Int).toNat) : Int)), u32 (IntKind.wrap IntKind.u32 (↑(uintP (takeU Q4 (4 : Int)) 0 (4 : Int).toNat) : Int)), u32
 (IntKind.wrap IntKind.u32 (↑(uintP (takeU Q5 (4 : Int)) 0 (4 : Int).toNat) : Int)), u32 (IntKind.wrap IntKind.u32 (↑(uintP (takeU Q6 (4 : Int)) 0 (4 : Int).toNat) : Int)), u32 (IntKind.wrap IntKind.u32 (↑(uintP (takeU Q7 (4 : Int)) 0 (4 : Int).toNat) : Int)), u32 (IntKind.wrap IntKind.u32 (↑(uintP (takeU Q8 (4 : Int)) 0 (4 : Int).toNat) : Int))], .agg [by' (Cu.d Q9), i64 (Cu.p Q9), i64 (Cu.e Q9), i64 (Cu.a Q9)]] ∧ K [.agg [i64 (Prod.fst Q2), u32 (IntKind.wrap IntKind.u32 (↑(uintP (takeU Q3 (4 : Int)) 0 (4 : Int).toNat) : Int)), u32 (IntKind.wrap IntKind.u32 (↑(uintP (takeU Q4 (4 : Int)) 0 (4 : Int).toNat) : Int)), u32 (IntKind.wrap IntKind.u32 (↑(uintP (takeU Q5 (4 : Int)) 0 (4 : Int).toNat) : Int)), u32 (IntKind.wrap IntKind.u32 (↑(uintP (takeU Q6 (4 : Int)) 0 (4 : Int).toNat) : Int)), u32 (IntKind.wrap IntKind.u32 (↑(uintP (takeU Q7 (4 : Int)) 0 (4 : Int).toNat) : Int)), u32 (IntKind.wrap IntKind.u32 (↑(uintP (takeU Q8 (4 : Int)) 0 (4 : Int).toNat) : Int))], .agg [by' (Cu.d Q9), i64 (Cu.p Q9), i64 (Cu.e Q9), i64 (Cu.a Q9)]])); ((0 : Int) ≤ Cu.p (Cu.mk d p e a) ∧ Cu.p (Cu.mk d p e a) ≤ (↑(Cu.d (Cu.mk d p e a)).length : Int) ∧ (↑(Cu.d (Cu.mk d p e a)).length : Int) ≤ 1000000000000)
 ∧ (↑(List.map u8 [(84 : Int), (90 : Int), (105 : Int), (102 : Int)]).length : Int) ≤ 1000 ∧ ((0 : Int) ≤ Cu.p Q1 ∧ Cu.p Q1 ≤ (↑(Cu.d Q1).length : Int) ∧ (↑(Cu.d Q1).length : Int) ≤ 1000000000000) ∧ ((0 : Int) ≤ 15 ∧ (15 : Int) ≤ 15 ∧ (↑1 : Int) * 15 ≤ 140737488355328 ∧ (15 : Int) ≤ 140737488355328 ∧ ((0 : Int) ≤ Cu.p (Prod.snd Q2) ∧ Cu.p (Prod.snd Q2) ≤ (↑(Cu.d (Prod.snd Q2)).length : Int) ∧ (↑(Cu.d (Prod.snd Q2)).length : Int) ≤ 1000000000000) ∧ (↑(List.replicate (15 : Int).toNat (0 : UInt8)).length : Int) ≤ 1000 ∧ ((0 : Int) ≤ Cu.p Q3 ∧ Cu.p Q3 ≤ (↑(Cu.d Q3).length : Int) ∧ (↑(Cu.d Q3).length : Int) ≤ 1000000000000) ∧ (1 : Int) ≤ 4 ∧ (4 : Int) ≤ 8 ∧ ((0 : Int) ≤ Cu.p Q4 ∧ Cu.p Q4 ≤ (↑(Cu.d Q4).length : Int) ∧ (↑(Cu.d Q4).length : Int) ≤ 1000000000000) ∧ (1 : Int) ≤ 4 ∧ (4 : Int) ≤ 8 ∧ ((0 : Int) ≤ Cu.p Q5 ∧ Cu.p Q5 ≤ (↑(Cu.d Q5).length : Int) ∧ (↑(Cu.d Q5).length : Int) ≤ 1000000000000) ∧ (1 : Int) ≤ 4 ∧ (4 : Int) ≤ 8 ∧ ((0 : Int) ≤ Cu.p Q6 ∧ Cu.p Q6 ≤ (↑(Cu.d Q6).length : Int) ∧ (↑(Cu.d Q6).length : Int) ≤ 1000000000000) ∧ (1 : Int) ≤ 4 ∧ (4 : Int) ≤ 8 ∧ ((0 : Int) ≤ Cu.p Q7 ∧ Cu.p Q7 ≤ (↑(Cu.d Q7).length : Int) ∧ (↑(Cu.d Q7).length : Int) ≤ 1000000000000) ∧ (1 : Int) ≤ 4 ∧ (4 :
 Int) ≤ 8 ∧ ((0 : Int) ≤ Cu.p Q8 ∧ Cu.p Q8 ≤ (↑(Cu.d Q8).length : Int) ∧ (↑(Cu.d Q8).length : Int) ≤ 1000000000000) ∧ (1 : Int) ≤ 4 ∧ (4 : Int) ≤ 8 ∧ brn (Cu.e Q9 == 0 && !consH (Hd.mk (Prod.fst Q2) (IntKind.wrap IntKind.u32 (↑(uintP (takeU Q3 (4 : Int)) 0 (4 : Int).toNat) : Int)) (IntKind.wrap IntKind.u32 (↑(uintP (takeU Q4 (4 : Int)) 0 (4 : Int).toNat) : Int)) (IntKind.wrap IntKind.u32 (↑(uintP (takeU Q5 (4 : Int)) 0 (4 : Int).toNat) : Int)) (IntKind.wrap IntKind.u32 (↑(uintP (takeU Q6 (4 : Int)) 0 (4 : Int).toNat) : Int)) (IntKind.wrap IntKind.u32 (↑(uintP (takeU Q7 (4 : Int)) 0 (4 : Int).toNat) : Int)) (IntKind.wrap IntKind.u32 (↑(uintP (takeU Q8 (4 : Int)) 0 (4 : Int).toNat) : Int)))) R1 R2) ∧ (0 : Int) ≤ 15 ∧ (15 : Int) ≤ 15 ∧ (↑1 : Int) * 15 ≤ 140737488355328 ∧ (15 : Int) ≤ 140737488355328 ∧ ((0 : Int) ≤ Cu.p (Prod.snd Q2) ∧ Cu.p (Prod.snd Q2) ≤ (↑(Cu.d (Prod.snd Q2)).length : Int) ∧ (↑(Cu.d (Prod.snd Q2)).length : Int) ≤ 1000000000000) ∧ (↑(List.replicate (15 : Int).toNat (0 : UInt8)).length : Int) ≤ 1000 ∧ ((0 : Int) ≤ Cu.p Q3 ∧ Cu.p Q3 ≤ (↑(Cu.d Q3).length : Int) ∧ (↑(Cu.d Q3).length : Int) ≤ 1000000000000) ∧ (1 : Int) ≤ 4 ∧ (4 : Int) ≤ 8 ∧ ((0 : Int) ≤ Cu.p Q4 ∧ Cu.p Q4 ≤
 (↑(Cu.d Q4).length : Int) ∧ (↑(Cu.d Q4).length : Int) ≤ 1000000000000) ∧ (1 : Int) ≤ 4 ∧ (4 : Int) ≤ 8 ∧ ((0 : Int) ≤ Cu.p Q5 ∧ Cu.p Q5 ≤ (↑(Cu.d Q5).length : Int) ∧ (↑(Cu.d Q5).length : Int) ≤ 1000000000000) ∧ (1 : Int) ≤ 4 ∧ (4 : Int) ≤ 8 ∧ ((0 : Int) ≤ Cu.p Q6 ∧ Cu.p Q6 ≤ (↑(Cu.d Q6).length : Int) ∧ (↑(Cu.d Q6).length : Int) ≤ 1000000000000) ∧ (1 : Int) ≤ 4 ∧ (4 : Int) ≤ 8 ∧ ((0 : Int) ≤ Cu.p Q7 ∧ Cu.p Q7 ≤ (↑(Cu.d Q7).length : Int) ∧ (↑(Cu.d Q7).length : Int) ≤ 1000000000000) ∧ (1 : Int) ≤ 4 ∧ (4 : Int) ≤ 8 ∧ ((0 : Int) ≤ Cu.p Q8 ∧ Cu.p Q8 ≤ (↑(Cu.d Q8).length : Int) ∧ (↑(Cu.d Q8).length : Int) ≤ 1000000000000) ∧ (1 : Int) ≤ 4 ∧ (4 : Int) ≤ 8 ∧ brn (Cu.e Q9 == 0 && !consH (Hd.mk (Prod.fst Q2) (IntKind.wrap IntKind.u32 (↑(uintP (takeU Q3 (4 : Int)) 0 (4 : Int).toNat) : Int)) (IntKind.wrap IntKind.u32 (↑(uintP (takeU Q4 (4 : Int)) 0 (4 : Int).toNat) : Int)) (IntKind.wrap IntKind.u32 (↑(uintP (takeU Q5 (4 : Int)) 0 (4 : Int).toNat) : Int)) (IntKind.wrap IntKind.u32 (↑(uintP (takeU Q6 (4 : Int)) 0 (4 : Int).toNat) : Int)) (IntKind.wrap IntKind.u32 (↑(uintP (takeU Q7 (4 : Int)) 0 (4 : Int).toNat) : Int)) (IntKind.wrap IntKind.u32 (↑(uintP (takeU Q8 (4 : Int)) 0 (4 : Int).toNat) :
 Int)))) R1 R2) := by kernel_rfl
end Y27
set_option maxRecDepth 100000
namespace Y27
open Go Go.AE Go.Proofs E6
attribute [local irreducible] loopK evCode evSpec loopB norm
def magC : List UInt8 := [84, 90, 105, 102]
def z15 : List UInt8 := List.replicate 15 0
def num4 (c : Cu) : Int := IntKind.wrap .u32 (uintP (takeU c 4) 0 4 : Int)
def hq1 (c : Cu) : Cu := expU c magC 3
def hq2 (c : Cu) : Int × Cu := verU (hq1 c)
def hq3 (c : Cu) : Cu := expU (hq2 c).2 z15 5
def hq4 (c : Cu) : Cu := advU (hq3 c) 4
def hq5 (c : Cu) : Cu := advU (hq4 c) 4
def hq6 (c : Cu) : Cu := advU (hq5 c) 4
def hq7 (c : Cu) : Cu := advU (hq6 c) 4
def hq8 (c : Cu) : Cu := advU (hq7 c) 4
def hq9 (c : Cu) : Cu := advU (hq8 c) 4
def hdRd (c : Cu) : Hd := ⟨(hq2 c).1, num4 (hq3 c), num4 (hq4 c), num4 (hq5 c), num4 (hq6 c), num4 (hq7 c), num4 (hq8 c)⟩
def zH : Hd := ⟨0, 0, 0, 0, 0, 0, 0⟩
def hdU (c : Cu) : Hd × Cu := if (hq9 c).e = 0 then (if consH (hdRd c) then (hdRd c, hq9 c) else (zH, failU (hq9 c) 6 c.p)) else (zH, hq9 c)
def sHdD : List AV → Option (List Prop × List AV)
  | [.agg [.imm (.bytes d), .imm (.int .i64 p), .imm (.int .i64 e), .imm (.int .i64 a)]] => some ([okU ⟨d, p, e, a⟩], [(hdU ⟨d, p, e, a⟩).1.av, (hdU ⟨d, p, e, a⟩).2.av])
  | _ => none
theorem okU_fail {c : Cu} {y a : Int} (h : okU c) : okU (failU c y a) := by
  unfold failU
  split
  · exact h
  · exact h
theorem okU_adv {c : Cu} {n : Int} (h : okU c) : okU (advU c n) := by
  obtain ⟨h1, h2, h3⟩ := h
  unfold advU
  split
  · rename_i he
    split
    · rename_i hn
      unfold restU at hn
      rw [if_pos he] at hn
      exact ⟨by show 0 ≤ c.p + n; omega, by show c.p + n ≤ (c.d.length : Int); omega, h3⟩
    · exact ⟨h1, h2, h3⟩
  · exact ⟨h1, h2, h3⟩
theorem okU_exp {c : Cu} {w : List UInt8} {y : Int} (h : okU c) : okU (expU c w y) := by
  unfold expU
  split
  · split
    · exact okU_adv h
    · exact okU_fail h
  · exact okU_adv h
theorem okU_ver {c : Cu} (h : okU c) : okU (verU c).2 := by
  unfold verU
  split
  · exact okU_adv h
  · split
    · exact okU_fail h
    · exact okU_adv h
theorem fail_e6 {c : Cu} {p : Int} (he : c.e = 0) : Cu.e (failU c 6 p) = 6 := by
  unfold failU
  rw [if_pos ⟨he, by decide⟩]
attribute [local irreducible] expU verU advU uintP takeU failU consH okU
set_option maxHeartbeats 2000000 in
theorem g49_ev (d : List UInt8) (p e a : Int) (hu : okU ⟨d, p, e, a⟩) (K : List AV → Prop) (hK : K [(hdU ⟨d, p, e, a⟩).1.av, (hdU ⟨d, p, e, a⟩).2.av]) : evSpec L4 Tryz.f49 [curAV d p e a] K := by
  refine Eq.mpr (g49_in d p e a K) ?_
  intro Q1 Q2 Q3 Q4 Q5 Q6 Q7 Q8 Q9 R1 R2
  have h1 : Q1 = hq1 ⟨d, p, e, a⟩ := rfl
  have h2 : Q2 = hq2 ⟨d, p, e, a⟩ := congrArg verU h1
  have h3 : Q3 = hq3 ⟨d, p, e, a⟩ := congrArg (fun x : Int × Cu => expU x.2 z15 5) h2
  have h4 : Q4 = hq4 ⟨d, p, e, a⟩ := congrArg (fun x => advU x 4) h3
  have h5 : Q5 = hq5 ⟨d, p, e, a⟩ := congrArg (fun x => advU x 4) h4
  have h6 : Q6 = hq6 ⟨d, p, e, a⟩ := congrArg (fun x => advU x 4) h5
  have h7 : Q7 = hq7 ⟨d, p, e, a⟩ := congrArg (fun x => advU x 4) h6
  have h8 : Q8 = hq8 ⟨d, p, e, a⟩ := congrArg (fun x => advU x 4) h7
  have h9 : Q9 = hq9 ⟨d, p, e, a⟩ := congrArg (fun x => advU x 4) h8
  have o1 : okU Q1 := okU_exp hu
  have o2 : okU Q2.2 := okU_ver o1
  have o3 : okU Q3 := okU_exp o2
  have o4 : okU Q4 := okU_adv o3
  have o5 : okU Q5 := okU_adv o4
  have o6 : okU Q6 := okU_adv o5
  have o7 : okU Q7 := okU_adv o6
  have o8 : okU Q8 := okU_adv o7
  have hKK : K [(if Q9.e = 0 then (if consH ⟨Q2.1, num4 Q3, num4 Q4, num4 Q5, num4 Q6, num4 Q7, num4 Q8⟩ then ((⟨Q2.1, num4 Q3, num4 Q4, num4 Q5, num4 Q6, num4 Q7, num4 Q8⟩ : Hd), Q9) else (zH, failU Q9 6 p)) else (zH, Q9)).1.av,
      (if Q9.e = 0 then (if consH ⟨Q2.1, num4 Q3, num4 Q4, num4 Q5, num4 Q6, num4 Q7, num4 Q8⟩ then ((⟨Q2.1, num4 Q3, num4 Q4, num4 Q5, num4 Q6, num4 Q7, num4 Q8⟩ : Hd), Q9) else (zH, failU Q9 6 p)) else (zH, Q9)).2.av] := by
    rw [h9, h8, h7, h6, h5, h4, h3, h2]
    exact hK
  clear_value Q1 Q2 Q3 Q4 Q5 Q6 Q7 Q8 Q9
  have r1 : Q9.e = 0 → consH ⟨Q2.1, num4 Q3, num4 Q4, num4 Q5, num4 Q6, num4 Q7, num4 Q8⟩ = false → R1 := by
    intro he hc
    rw [if_pos he, hc] at hKK
    simp only [Bool.false_eq_true, if_false] at hKK
    have hf : Cu.e (failU Q9 6 p) = 6 := fail_e6 he
    refine brn_intro (fun _ => ⟨⟨hKK, hKK⟩, hKK⟩) (fun h => ?_)
    exfalso
    have h' : (Cu.e (failU Q9 6 p) != (0 : Int)) = false := h
    rw [hf] at h'
    cases h'
  have r2 : ((Q9.e == (0 : Int) && !consH ⟨Q2.1, num4 Q3, num4 Q4, num4 Q5, num4 Q6, num4 Q7, num4 Q8⟩) = false) → R2 := by
    intro hc
    refine brn_intro (fun he => ?_) (fun he => ?_)
    · have he' : ¬ (Q9.e = 0) := by simpa using he
      rw [if_neg he'] at hKK
      exact ⟨⟨hKK, hKK⟩, hKK⟩
    · have he' : Q9.e = 0 := by simpa using he
      have hc' : consH ⟨Q2.1, num4 Q3, num4 Q4, num4 Q5, num4 Q6, num4 Q7, num4 Q8⟩ = true := by
        rw [he'] at hc
        simpa using hc
      rw [if_pos he', if_pos hc'] at hKK
      exact ⟨hKK, hKK⟩
  have fin : brn (Q9.e == (0 : Int) && !consH ⟨Q2.1, num4 Q3, num4 Q4, num4 Q5, num4 Q6, num4 Q7, num4 Q8⟩) R1 R2 := by
    refine brn_intro (fun h => ?_) (fun h => r2 h)
    simp only [Bool.and_eq_true, Bool.not_eq_true', beq_iff_eq] at h
    exact r1 h.1 h.2
  have tail : ∀ X : Prop, X → (0 : Int) ≤ 15 ∧ (15 : Int) ≤ 15 ∧ ((1 : Nat) : Int) * 15 ≤ 140737488355328 ∧ (15 : Int) ≤ 140737488355328 ∧ X := fun X h => ⟨by decide, by decide, by decide, by decide, h⟩
  have body : okU Q2.2 ∧ ((List.length (List.replicate (Int.toNat (15 : Int)) (0 : UInt8)) : Nat) : Int) ≤ 1000 ∧ okU Q3 ∧ (1 : Int) ≤ 4 ∧ (4 : Int) ≤ 8 ∧ okU Q4 ∧ (1 : Int) ≤ 4 ∧ (4 : Int) ≤ 8 ∧ okU Q5 ∧ (1 : Int) ≤ 4 ∧ (4 : Int) ≤ 8 ∧ okU Q6 ∧ (1 : Int) ≤ 4 ∧ (4 : Int) ≤ 8 ∧
      okU Q7 ∧ (1 : Int) ≤ 4 ∧ (4 : Int) ≤ 8 ∧ okU Q8 ∧ (1 : Int) ≤ 4 ∧ (4 : Int) ≤ 8 ∧ brn (Q9.e == (0 : Int) && !consH ⟨Q2.1, num4 Q3, num4 Q4, num4 Q5, num4 Q6, num4 Q7, num4 Q8⟩) R1 R2 :=
    ⟨o2, by decide, o3, by decide, by decide, o4, by decide, by decide, o5, by decide, by decide, o6, by decide, by decide, o7, by decide, by decide, o8, by decide, by decide, fin⟩
  unfold okU at hu o1 body
  exact ⟨hu, by decide, o1, tail _ body, tail _ body⟩
theorem ok49h : ∀ args pres res, sHdD args = some (pres, res) → SpecOK Tryz.prog G16 49 args pres res := by
  intro args pres res h
  unfold sHdD at h
  split at h
  case h_2 => cases h
  cases h
  exact spec_ok (C := L4) okF7 (inl_ok okF7 IH_ok 3) Tryz.func49 (by kernel_rfl) (by kernel_rfl) (fun hp => g49_ev _ _ _ _ (hp _ (by simp)) _ rfl)
end Y27
namespace Y27
open Go Go.AE Go.Proofs E6
def F9 := addE F8 49 sHdD
theorem okF9 : EOK Tryz.prog F9 G16 := addE_ok okF8 ok49h
end Y27
namespace Y27
open Go Go.AE Go.Proofs Go.RowKit E6
def ixB (l : List UInt8) (n : Int) : Int := Lib.indexByte l n.toNat.toUInt8
theorem bytesOf_nat (l : List UInt8) : Lib.bytesOf (l.map fun b => (b.toNat : Int)) = l := by
  unfold Lib.bytesOf
  rw [List.map_map]
  conv => rhs; rw [← List.map_id l]
  exact List.map_congr_left fun b _ => by
    show UInt8.ofNat ((b.toNat : Int)).toNat = b
    rw [Int.toNat_natCast]
    exact UInt8.ofNat_toNat
theorem run_ix {P : Program} {w : World} (a : Addr) (n c : Nat) (xs : List Int) (hx : xs.length = n) (hc : ∀ j x, xs[j]? = some x → w.cell? (a.add j) = some (.int .u8 x)) (cv : Int) :
    (Extern.BytealgIndexByte.indexByte #[.slice (some a) n c, .int .u8 cv]).run P w = .ok (.int .i64 (Lib.indexByte (Lib.bytesOf xs) cv.toNat.toUInt8)) w := by
  have hl := Lib.run_loadBytesX (P := P) w xs a .empty hc
  rw [hx] at hl
  have hs := Lib.run_indexByteString (P := P) ⟨(Lib.bytesOf xs).toArray⟩ cv w
  have he : (⟨ByteArray.empty.data ++ (Lib.bytesOf xs).toArray⟩ : ByteArray) = ⟨(Lib.bytesOf xs).toArray⟩ := by
    apply ByteArray.ext
    show (#[] : Array UInt8) ++ (Lib.bytesOf xs).toArray = (Lib.bytesOf xs).toArray
    simp
  rw [he] at hl
  change Sem.run P (do
    let b ← Extern.Bytes.bytesOf (.slice (some a) n c)
    let c ← Extern.Bytes.asByte (.int .u8 cv)
    match (List.range b.size).find? fun i => b[i]! == c with
    | some i => pure (goInt i)
    | none => pure (goInt (-1))) w = _
  change Sem.run P (do
    let b ← Extern.Bytes.bytesOf (.string ⟨(Lib.bytesOf xs).toArray⟩)
    let c ← Extern.Bytes.asByte (.int .u8 cv)
    match (List.range b.size).find? fun i => b[i]! == c with
    | some i => pure (goInt i)
    | none => pure (goInt (-1))) w = _ at hs
  simp only [Extern.Bytes.bytesOf, Sem.run_bind, Sem.run_pure, hl, Result.andThen] at hs ⊢
  exact hs
theorem ix_calls (a : Addr) (n c : Nat) (l : List UInt8) (hn : l.length = n) (w : World) (hc : ∀ j b, l[j]? = some b → w.cell? (a.add j) = some (.int .u8 (b.toNat : Int))) (cv : Int) :
    Calls Tryz.prog 54 #[.slice (some a) n c, .int .u8 cv] w fun e w' => e = .returned (.int .i64 (ixB l cv)) ∧ w' = w := by
  have h90 := @run_callFunc_extern Tryz.prog 90 _ Extern.BytealgIndexByte.indexByte Tryz.func90 (by kernel_rfl) (by kernel_rfl) (by kernel_rfl) (by kernel_rfl)
  have hr := run_ix (P := Tryz.prog) (w := w) a n c (l.map fun b => (b.toNat : Int)) (by rw [List.length_map, hn]) (fun j x hj => by
    rw [List.getElem?_map] at hj
    obtain ⟨b, hb, rfl⟩ := Option.map_eq_some_iff.1 hj
    exact hc j b hb) cv
  rw [bytesOf_nat] at hr
  go_enter Tryz.func54, Tryz.ntmps54
  go_wp2
  go_ret
  exact ⟨rfl, rfl⟩
theorem ix_calls_nil (cv : Int) (w : World) :
    Calls Tryz.prog 54 #[.slice none 0 0, .int .u8 cv] w fun e w' => e = .returned (.int .i64 (-1)) ∧ w' = w := by
  have h90 := @run_callFunc_extern Tryz.prog 90 _ Extern.BytealgIndexByte.indexByte Tryz.func90 (by kernel_rfl) (by kernel_rfl) (by kernel_rfl) (by kernel_rfl)
  have hr := Lib.run_indexByteNil (P := Tryz.prog) w 0 0 cv
  go_enter Tryz.func54, Tryz.ntmps54
  go_wp2
  go_ret
  exact ⟨rfl, rfl⟩
theorem ixB_rng (l : List UInt8) (n : Int) : -1 ≤ ixB l n ∧ ixB l n < (l.length : Int) ∨ ixB l n = -1 := by
  unfold ixB
  generalize n.toNat.toUInt8 = c
  induction l with
  | nil => exact .inr rfl
  | cons b l ih =>
    unfold Lib.indexByte
    have := Lib.indexByte_ge l c
    simp only [List.length_cons]
    split
    · left; constructor <;> omega
    · split
      · exact .inr rfl
      · rename_i h
        simp only [beq_iff_eq] at h
        left
        rcases ih with ih | ih
        · omega
        · exact absurd ih h
def sIdx : List AV → Option (List Prop × List AV)
  | [.imm (.bytes l), .imm (.int .u8 n)] => some ([(l.length : Int) ≤ big'], [i64 (ixB l n)])
  | _ => none
theorem ok54 : ∀ args pres res, sIdx args = some (pres, res) → SpecOK Tryz.prog G16 54 args pres res := by
  intro args pres res h
  unfold sIdx at h
  split at h
  case h_2 => cases h
  cases h
  rename_i l n
  refine ⟨⟨_, Tryz.func54, by kernel_rfl, by kernel_rfl⟩, fun hp w own vals hown hs ha hG => ?_⟩
  obtain ⟨X, Y, rfl⟩ : ∃ X Y, vals = #[X, Y] := by
    have hs' : vals.size = 2 := hs
    match vals, hs' with
    | ⟨[X, Y]⟩, _ => exact ⟨X, Y, rfl⟩
  have rX : ARep (zeroGh w own) (.imm (.bytes l)) X := ha 0 _ rfl
  have rY : ARep (zeroGh w own) (.imm (.int .u8 n)) Y := ha 1 _ rfl
  obtain ⟨rfl, _⟩ := arep_int rY
  have hl : (l.length : Int) ≤ big' := hp _ (by simp)
  have hb' : big' = 1000000000000 := rfl
  have done : ∀ r : Int, r = ixB l n → Calls Tryz.prog 54 #[X, .int .u8 n] w (fun e w' => e = .returned (.int .i64 r) ∧ w' = w) →
      Calls Tryz.prog 54 #[X, .int .u8 n] w fun e w' => ∃ Vs bs, e = .returned (resV Vs) ∧ Below w.heap.size w w' ∧ RRes w w' (fun b => own b ∨ b ∈ bs) [i64 (ixB l n)] Vs bs ∧ ∀ b, b ∈ bs → b < w'.heap.size := by
    intro r hr hc
    refine hc.mono ?_
    rintro e w' ⟨rfl, rfl⟩
    refine ⟨[.int .i64 r], [], rfl, Below.refl _ _, ?_, fun b hb => by cases hb⟩
    rw [hr]
    refine .one (bs := []) (bs' := []) (fun cs e => by cases e) (.imm (.int ?_) .nil) (fun b hb => by cases hb) .nil
    have := ixB_rng l n
    show (-9223372036854775808 : Int) ≤ _ ∧ _ ≤ (9223372036854775807 : Int)
    omega
  cases rX.imm_inv with
  | nilSlice h1 h2 =>
    have : l = [] := by
      have : l.length = 0 := by simpa [IV.len] using h2
      exact List.length_eq_zero_iff.1 this
    subst this
    exact done (-1) rfl (ix_calls_nil n w)
  | slice vs h1 h2 h3 h4 h5 h6 h7 h8 h9 =>
    rename_i a k cap
    have hk : l.length = k := by simpa [IV.len] using h2
    refine done _ rfl (ix_calls a k cap l hk w (fun j b hj => ?_) n)
    have hc : (IV.bytes l).cellAt j 0 = some (.int .u8 (b.toNat : Int)) := by
      show (l[j]?).map _ = _
      rw [hj]; rfl
    have e1 := h8 j 0 _ hc
    have e2 := h9 j 0 _ hc
    have e3 : j * (IV.bytes l).esize + 0 = j := by show j * 1 + 0 = j; omega
    rw [e3] at e1
    have e1' : w.cell? (a.add j) = some (vs j 0) := e1
    rw [e1']
    have inv : ∀ V : Value, Rep (zeroGh w own).w (zeroGh w own).own (.int .u8 (b.toNat : Int)) V → V = .int .u8 (b.toNat : Int) := fun V h => (arep_int (.imm h)).1
    rw [inv _ e2]
end Y27
namespace Y27
open Go Go.AE Go.Proofs E6
def nlC : List UInt8 := [10]
def cntU (h : Hd) (c : Cu) (s : Int) : Int := if sumU h s ≤ restU c then elems h else 0
def footU (c : Cu) : Int := if (expU c nlC 14).e ≠ 0 then 0 else if 0 ≤ ixB ((expU c nlC 14).d.drop (expU c nlC 14).p.toNat) 10 then ixB ((expU c nlC 14).d.drop (expU c nlC 14).p.toNat) 10 else 0
def cntP (c : Cu) (s : Int) : Int := cntU (hdU c).1 (hdU c).2 s
def nextP (c : Cu) (s : Int) : Cu := (decU (hdU c).2 (hdU c).1 s 0).2
def measB (A L : Int) (c : Cu) : Int × Int := if (hdU c).2.e ≠ 0 then (A, L) else (A + cntP c 8 + footU (nextP c 8), L + 6 + cntP c 8 + footU (nextP c 8))
def measA (c : Cu) : Int × Int := if (hdU c).2.e ≠ 0 then (0, 0) else if (nextP c 4).e ≠ 0 ∨ (hdU c).1.v < 2 then (cntP c 4, 6 + cntP c 4) else measB (cntP c 4) (6 + cntP c 4) (nextP c 4)
def measU (b : List UInt8) : Int × Int := measA ⟨b, 0, 0, 0⟩
def sMeas : List AV → Option (List Prop × List AV)
  | [.imm (.bytes b)] => some ([(b.length : Int) ≤ big'], [.agg [i64 (measU b).1, i64 (measU b).2]])
  | _ => none
def wbU (b : List UInt8) : Bool := decide ((measU b).1 ≤ 4 * b.length + 64) && decide ((measU b).2 ≤ 16 * b.length + 64)
def sWB : List AV → Option (List Prop × List AV)
  | [.imm (.bytes b)] => some ([(b.length : Int) ≤ big'], [bo (wbU b)])
  | _ => none
def F10 := addE F9 54 sIdx
noncomputable def IM : FuncId → Option Func := fun f => bif Nat.beq f 25 then some Tryz.f25 else bif Nat.beq f 26 then some Tryz.f26 else bif Nat.beq f 28 then some Tryz.f28 else bif Nat.beq f 29 then some Tryz.f29 else none
noncomputable def L7 : Cx := ⟨Tryz.prog, F10, inl IM Tryz.prog F10 G16 5013 3, G16, 5013⟩
def cells (l : List AV) : Ob := ⟨true, 0, .cells l⟩
end Y27
set_option maxRecDepth 100000
namespace Y27
open Go Go.AE Go.Proofs E6
attribute [local irreducible] loopK evCode evSpec loopB norm
end Y27
set_option maxRecDepth 100000
namespace Y27
open Go Go.AE Go.Proofs E6
attribute [local irreducible] loopK evCode evSpec loopB norm
end Y27
set_option maxRecDepth 100000
namespace Y27
open Go Go.AE Go.Proofs E6
attribute [local irreducible] loopK evCode evSpec loopB norm
end Y27
set_option maxRecDepth 100000
namespace Y27
open Go Go.AE Go.Proofs E6
attribute [local irreducible] loopK evCode evSpec loopB norm
end Y27
set_option maxRecDepth 100000
namespace Y27
open Go Go.AE Go.Proofs E6
attribute [local irreducible] loopK evCode evSpec loopB norm
theorem adv_stick {c : Cu} (h : c.e ≠ 0) (n : Int) : advU c n = c := by unfold advU; rw [if_neg h]
theorem advOk_stick {c : Cu} (h : c.e ≠ 0) (n : Int) : advOk c n = false := by
  unfold advOk
  exact decide_eq_false (fun x => h x.1)
theorem exp_stick {c : Cu} (h : c.e ≠ 0) (w : List UInt8) (y : Int) : expU c w y = c := by
  unfold expU
  rw [if_neg (by rw [advOk_stick h]; decide), adv_stick h]
theorem hd_err {c : Cu} (h : (hq9 c).e ≠ 0) : hdU c = (zH, hq9 c) := by
  unfold hdU
  rw [if_neg h]
theorem okF10 : EOK Tryz.prog F10 G16 := addE_ok okF9 ok54
end Y27
set_option maxRecDepth 100000
namespace Y27
open Go Go.AE Go.Proofs E6
theorem adv_d (c : Cu) (n : Int) : (advU c n).d = c.d := by
  unfold advU; split
  · split <;> rfl
  · rfl
theorem fail_d (c : Cu) (y a : Int) : (failU c y a).d = c.d := by
  unfold failU; split <;> rfl
theorem exp_d (c : Cu) (w : List UInt8) (y : Int) : (expU c w y).d = c.d := by
  unfold expU; split
  · split
    · exact adv_d ..
    · exact fail_d ..
  · exact adv_d ..
theorem ver_d (c : Cu) : (verU c).2.d = c.d := by
  unfold verU; split
  · exact adv_d ..
  · split
    · exact fail_d ..
    · exact adv_d ..
theorem hq1_d (c : Cu) : (hq1 c).d = c.d := exp_d ..
theorem hq2_d (c : Cu) : (hq2 c).2.d = c.d := (ver_d _).trans (hq1_d c)
theorem hq3_d (c : Cu) : (hq3 c).d = c.d := (exp_d ..).trans (hq2_d c)
theorem hq9_d (c : Cu) : (hq9 c).d = c.d := by
  show (advU (advU (advU (advU (advU (advU (hq3 c) 4) 4) 4) 4) 4) 4).d = _
  simp only [adv_d, hq3_d]
theorem hd_d (c : Cu) : (hdU c).2.d = c.d := by
  unfold hdU; split
  · split
    · exact hq9_d c
    · exact (fail_d ..).trans (hq9_d c)
  · exact hq9_d c
theorem hd_e (c : Cu) (h : (hdU c).2.e = 0) : (hq9 c).e = 0 ∧ consH (hdRd c) = true ∧ hdU c = (hdRd c, hq9 c) := by
  by_cases h9 : (hq9 c).e = 0
  · cases hc : consH (hdRd c) with
    | true =>
      refine ⟨h9, rfl, ?_⟩
      unfold hdU
      rw [if_pos h9, if_pos hc]
    | false =>
      exfalso
      unfold hdU at h
      rw [if_pos h9, hc] at h
      simp only [Bool.false_eq_true, if_false] at h
      rw [fail_e6 h9] at h
      cases h
  · rw [hd_err h9] at h
    exact absurd h h9
theorem adv_e0 {c : Cu} {n : Int} (h : (advU c n).e = 0) : c.e = 0 ∧ 0 ≤ n ∧ n ≤ restU c ∧ advU c n = ⟨c.d, c.p + n, 0, c.a⟩ := by
  by_cases he : c.e = 0
  · by_cases hn : 0 ≤ n ∧ n ≤ restU c
    · refine ⟨he, hn.1, hn.2, ?_⟩
      unfold advU
      rw [if_pos he, if_pos hn]
    · exfalso
      unfold advU at h
      rw [if_pos he, if_neg hn] at h
      cases h
  · rw [adv_stick he] at h
    exact absurd h he
theorem exp_e0 {c : Cu} {w : List UInt8} {y : Int} (hy : y ≠ 0) (h : (expU c w y).e = 0) : c.e = 0 ∧ (w.length : Int) ≤ restU c ∧ misI (c.d.drop c.p.toNat) w = none ∧ expU c w y = ⟨c.d, c.p + w.length, 0, c.a⟩ := by
  by_cases hok : advOk c w.length = true
  · have hok' : c.e = 0 ∧ 0 ≤ (w.length : Int) ∧ (w.length : Int) ≤ restU c := by
      unfold advOk at hok
      exact of_decide_eq_true hok
    unfold expU at h ⊢
    rw [if_pos hok] at h ⊢
    cases hm : misI (c.d.drop c.p.toNat) w with
    | none =>
      rw [hm] at h
      exact ⟨hok'.1, hok'.2.2, rfl, (adv_e0 h).2.2.2⟩
    | some i =>
      exfalso
      rw [hm] at h
      simp only at h
      unfold failU at h
      rw [if_pos ⟨hok'.1, hy⟩] at h
      exact hy h
  · unfold expU at h
    rw [if_neg hok] at h
    obtain ⟨a1, a2, a3, _⟩ := adv_e0 h
    exfalso
    apply hok
    unfold advOk
    exact decide_eq_true ⟨a1, a2, a3⟩
theorem ver_e0 {c : Cu} (h : (verU c).2.e = 0) : c.e = 0 ∧ 1 ≤ restU c ∧ verB (uintP (takeU c 1) 0 1) ≠ 0 ∧ verU c = (verB (uintP (takeU c 1) 0 1), ⟨c.d, c.p + 1, 0, c.a⟩) := by
  by_cases he : Cu.e (advU c 1) ≠ 0
  · unfold verU at h
    rw [if_pos he] at h
    exact absurd h he
  · have he' : Cu.e (advU c 1) = 0 := Classical.byContradiction he
    obtain ⟨a1, a2, a3, a4⟩ := adv_e0 he'
    by_cases hv : verB (uintP (takeU c 1) 0 1) = 0
    · exfalso
      unfold verU at h
      rw [if_neg he, if_pos hv] at h
      unfold failU at h
      rw [if_pos ⟨a1, by decide⟩] at h
      cases h
    · refine ⟨a1, a3, hv, ?_⟩
      unfold verU
      rw [if_neg he, if_neg hv, a4]
theorem num4_rng (c : Cu) : U32 (num4 c) := by
  unfold num4 U32
  have : ∀ n : Int, 0 ≤ IntKind.wrap .u32 n ∧ IntKind.wrap .u32 n ≤ 4294967295 := by
    intro n
    have : IntKind.wrap .u32 n = n % 4294967296 := by
      unfold IntKind.wrap
      simp only [IntKind.signed, IntKind.bits, Bool.false_and, Bool.false_eq_true, if_false]
      omega
    rw [this]; omega
  exact this _
theorem okH_rd (c : Cu) : okH (hdRd c) := ⟨num4_rng _, num4_rng _, num4_rng _, num4_rng _, num4_rng _, num4_rng _⟩
theorem okH_zero : okH zH := by
  have : U32 0 := by unfold U32; omega
  exact ⟨this, this, this, this, this, this⟩
theorem okH_hd (c : Cu) : okH (hdU c).1 := by
  unfold hdU; split
  · split
    · exact okH_rd c
    · exact okH_zero
  · exact okH_zero
theorem okU_9 {c : Cu} (h : okU c) : okU (hq9 c) :=
  okU_adv (okU_adv (okU_adv (okU_adv (okU_adv (okU_adv (okU_exp (okU_ver (okU_exp h))))))))
theorem okU_hd {c : Cu} (h : okU c) : okU (hdU c).2 := by
  unfold hdU; split
  · split
    · exact okU_9 h
    · exact okU_fail (okU_9 h)
  · exact okU_9 h
theorem restU_of {c : Cu} (h : c.e = 0) : restU c = (c.d.length : Int) - c.p := by unfold restU; rw [if_pos h]
theorem restU_rng {c : Cu} (h : okU c) : 0 ≤ restU c ∧ restU c ≤ 1000000000000 := by
  obtain ⟨h1, h2, h3⟩ := h
  unfold restU; split <;> omega
theorem hd_pos {c : Cu} (h : (hdU c).2.e = 0) : c.e = 0 ∧ (hdU c).2 = ⟨c.d, c.p + 44, 0, c.a⟩ ∧ c.p + 44 ≤ c.d.length ∧ (hdU c).1.v ≠ 0 ∧ (hdU c).1 = hdRd c := by
  obtain ⟨h9, hc, he⟩ := hd_e c h
  obtain ⟨a8, _, b8, c8⟩ := adv_e0 (c := hq8 c) h9
  obtain ⟨a7, _, b7, c7⟩ := adv_e0 (c := hq7 c) a8
  obtain ⟨a6, _, b6, c6⟩ := adv_e0 (c := hq6 c) a7
  obtain ⟨a5, _, b5, c5⟩ := adv_e0 (c := hq5 c) a6
  obtain ⟨a4, _, b4, c4⟩ := adv_e0 (c := hq4 c) a5
  obtain ⟨a3, _, b3, c3⟩ := adv_e0 (c := hq3 c) a4
  obtain ⟨a2, b2, m2, c2⟩ := exp_e0 (c := (hq2 c).2) (by decide) a3
  obtain ⟨a1, b1, m1, c1⟩ := ver_e0 (c := hq1 c) a2
  obtain ⟨a0, b0, m0, c0⟩ := exp_e0 (c := c) (by decide) a1
  have e1 : hq1 c = ⟨c.d, c.p + 4, 0, c.a⟩ := c0
  have e2 : (hq2 c).2 = ⟨c.d, c.p + 5, 0, c.a⟩ := by
    have : (hq2 c).2 = ⟨(hq1 c).d, (hq1 c).p + 1, 0, (hq1 c).a⟩ := congrArg Prod.snd c1
    rw [this, e1]
    simp only [Cu.mk.injEq, and_true, true_and]; omega
  have e3 : hq3 c = ⟨c.d, c.p + 20, 0, c.a⟩ := by
    have : hq3 c = ⟨(hq2 c).2.d, (hq2 c).2.p + 15, 0, (hq2 c).2.a⟩ := c2
    rw [this, e2]
    simp only [Cu.mk.injEq, and_true, true_and]; omega
  have st : ∀ (q : Cu) (n : Int) (q' : Cu), q = ⟨c.d, c.p + n, 0, c.a⟩ → q' = ⟨q.d, q.p + 4, 0, q.a⟩ → q' = ⟨c.d, c.p + (n + 4), 0, c.a⟩ := fun q n q' h1 h2 => by
    rw [h2, h1]
    simp only [Cu.mk.injEq, and_true, true_and]; omega
  have e9 : hq9 c = ⟨c.d, c.p + 44, 0, c.a⟩ := st _ _ _ (st _ _ _ (st _ _ _ (st _ _ _ (st _ _ _ (st _ _ _ e3 c3) c4) c5) c6) c7) c8
  refine ⟨a0, ?_, ?_, ?_, ?_⟩
  · rw [he]; exact e9
  · have e8 : hq8 c = ⟨c.d, c.p + 40, 0, c.a⟩ := st _ _ _ (st _ _ _ (st _ _ _ (st _ _ _ (st _ _ _ e3 c3) c4) c5) c6) c7
    rw [restU_of a8, e8] at b8
    simp only at b8
    omega
  · rw [he]
    show (hq2 c).1 ≠ 0
    rw [show (hq2 c).1 = _ from congrArg Prod.fst c1]
    exact m1
  · rw [he]
theorem elems_rng {h : Hd} (hh : okH h) : 0 ≤ elems h ∧ elems h ≤ 30064771065 := by
  obtain ⟨⟨a1, a2⟩, ⟨b1, b2⟩, ⟨c1, c2⟩, ⟨d1, d2⟩, ⟨e1, e2⟩, ⟨f1, f2⟩⟩ := hh
  unfold elems
  omega
theorem elems_sum {h : Hd} {s : Int} (hh : okH h) (hs : sz48 s) : elems h ≤ sumU h s := by
  obtain ⟨⟨a1, a2⟩, ⟨b1, b2⟩, ⟨c1, c2⟩, ⟨d1, d2⟩, ⟨e1, e2⟩, ⟨f1, f2⟩⟩ := hh
  rcases hs with rfl | rfl <;> simp only [elems, sumU, l0, l1, l2, l3, l4, l5, l6] <;> omega
theorem dec_stick {k : Cu} {h : Hd} {s a : Int} (he : k.e ≠ 0) : decU k h s a = (zB, k) := by
  unfold decU
  rw [if_neg he]
theorem dec_e0 {k : Cu} {h : Hd} {s a : Int} (he : (decU k h s a).2.e = 0) : k.e = 0 ∧ sumU h s ≤ restU k ∧ okD (k.d.drop k.p.toNat) h s = true ∧ decU k h s a = (decB (k.d.drop k.p.toNat) h s, ⟨k.d, k.p + sumU h s, 0, k.a⟩) := by
  by_cases h1 : k.e = 0
  · cases h2 : fitsD k h s with
    | true =>
      have h2' : sumU h s ≤ restU k := of_decide_eq_true h2
      cases h3 : okD (k.d.drop k.p.toNat) h s with
      | true =>
        refine ⟨h1, h2', rfl, ?_⟩
        unfold decU
        rw [if_pos h1, if_pos h2, if_pos h3]
      | false =>
        exfalso
        unfold decU at he
        rw [if_pos h1, if_pos h2, if_neg (by rw [h3]; decide)] at he
        cases he
    | false =>
      exfalso
      unfold decU at he
      rw [if_pos h1, if_neg (by rw [h2]; decide)] at he
      cases he
  · rw [dec_stick h1] at he
    exact absurd he h1
theorem okU_dec {k : Cu} {h : Hd} {s a : Int} (hk : okU k) (hh : okH h) (hs : sz48 s) : okU (decU k h s a).2 := by
  by_cases h1 : k.e = 0
  · have hr := restU_of h1
    obtain ⟨q0, q1, q2, q3, q4, q5, q6, q7⟩ := sum_pos hh hs
    have h0 : 0 ≤ sumU h s := by unfold sumU; omega
    obtain ⟨k1, k2, k3⟩ := hk
    unfold decU
    rw [if_pos h1]
    split
    · rename_i h2
      have h2' : sumU h s ≤ restU k := of_decide_eq_true h2
      have : okU ⟨k.d, k.p + sumU h s, 0, k.a⟩ := ⟨by show 0 ≤ k.p + _; omega, by show k.p + _ ≤ (k.d.length : Int); omega, k3⟩
      split
      · exact this
      · exact this
    · exact ⟨k1, k2, k3⟩
  · rw [dec_stick h1]; exact hk
theorem take_all {l : List UInt8} {n : Nat} : List.take (l.length - n) (l.drop n) = l.drop n := List.take_of_length_le (by rw [List.length_drop]; exact Nat.le_refl _)
end Y27
set_option maxRecDepth 100000
namespace Y27
open Go Go.AE Go.Proofs E6
attribute [local irreducible] loopK evCode evSpec loopB norm
theorem g10_in (b : List UInt8) (K : List AV → Prop) : evSpec L7 Tryz.f10 [by' b] K = (let Q1 : Hd × Cu := (hdU (Cu.mk b (0 : Int) (0 : Int) (0 : Int))); let Q2 : Hd × Cu := (hdU (Prod.snd Q1)); let Q3 : Bk × Cu := (decU (Prod.snd Q2) (Prod.fst Q2) (8 : Int) (0 : Int)); let Q4 : Cu := (expU (Prod.snd Q3) (List.map u8 [(10 : Int)]) (14 : Int)); let Q5 : Cu := (expU (Prod.snd Q2) (List.map u8 [(10 : Int)]) (14 : Int)); let Q6 : Bk × Cu := (decU (Prod.snd Q1) (Prod.fst Q1) (4 : Int) (0 : Int)); let Q7 : Hd × Cu := (hdU (Prod.snd Q6)); let Q8 : Bk × Cu := (decU (Prod.snd Q7) (Prod.fst Q7) (8 : Int) (0 : Int)); let Q9 : Cu := (expU (Prod.snd Q8) (List.map u8 [(10 : Int)]) (14 : Int)); let Q10 : Cu := (expU (Prod.snd Q7) (List.map u8 [(10 : Int)]) (14 : Int)); let A2 : Prop := ((K [.agg [i64 0, i64 0]])); let A17 : Prop := ((K [.agg [i64 (IntKind.wrap .i64 ((0 : Int) + IntKind.wrap .i64 (elems (Prod.fst Q2)))), i64 (IntKind.wrap .i64 ((6 : Int) + IntKind.wrap .i64 (elems (Prod.fst Q2))))]])); let A38 : Prop := ((K [.agg [i64 0, i64 6]])); let A63 : Prop := ((okH (Prod.fst Q2) ∧ sz48 (8 : Int) ∧ (0 : Int) ≤ IntKind.wrap IntKind.u64 (restU (Prod.snd Q2)) ∧ IntKind.wrap IntKind.u64 (restU
 (Prod.snd Q2)) ≤ 18446744073709551615 ∧ brn (decide (sumU (Prod.fst Q2) (8 : Int) ≤ IntKind.wrap IntKind.u64 (restU (Prod.snd Q2)))) (okH (Prod.fst Q2) ∧ okU (Prod.snd Q2) ∧ okH (Prod.fst Q2) ∧ sz48 (8 : Int) ∧ okU (Prod.snd Q3) ∧ (↑(List.map u8 [(10 : Int)]).length : Int) ≤ 1000 ∧ brn (Cu.e Q4 != 0) A17 ((0 : Int) ≤ Cu.p Q4 ∧ Cu.p Q4 ≤ (↑(Cu.d Q4).length : Int) ∧ (↑(List.take ((Cu.d Q4).length - (Cu.p Q4).toNat) (List.drop (Cu.p Q4).toNat (Cu.d Q4))).length : Int) ≤ big' ∧ brn (decide (ixB (List.take ((Cu.d Q4).length - (Cu.p Q4).toNat) (List.drop (Cu.p Q4).toNat (Cu.d Q4))) (10 : Int) ≥ 0)) (K [.agg [i64 (IntKind.wrap .i64 (IntKind.wrap .i64 ((0 : Int) + IntKind.wrap .i64 (elems (Prod.fst Q2))) + ixB (List.take ((Cu.d Q4).length - (Cu.p Q4).toNat) (List.drop (Cu.p Q4).toNat (Cu.d Q4))) (10 : Int))), i64 (IntKind.wrap .i64 (IntKind.wrap .i64 ((6 : Int) + IntKind.wrap .i64 (elems (Prod.fst Q2))) + ixB (List.take ((Cu.d Q4).length - (Cu.p Q4).toNat) (List.drop (Cu.p Q4).toNat (Cu.d Q4))) (10 : Int)))]]) A17)) (okU (Prod.snd Q2) ∧ okH (Prod.fst Q2) ∧ sz48 (8 : Int) ∧ okU (Prod.snd Q3) ∧ (↑(List.map u8 [(10 : Int)]).length : Int) ≤ 1000 ∧ brn (Cu.e Q4 != 0) A38 ((0 : Int) ≤ Cu.p Q4 ∧
 Cu.p Q4 ≤ (↑(Cu.d Q4).length : Int) ∧ (↑(List.take ((Cu.d Q4).length - (Cu.p Q4).toNat) (List.drop (Cu.p Q4).toNat (Cu.d Q4))).length : Int) ≤ big' ∧ brn (decide (ixB (List.take ((Cu.d Q4).length - (Cu.p Q4).toNat) (List.drop (Cu.p Q4).toNat (Cu.d Q4))) (10 : Int) ≥ 0)) (K [.agg [i64 (IntKind.wrap .i64 ((0 : Int) + ixB (List.take ((Cu.d Q4).length - (Cu.p Q4).toNat) (List.drop (Cu.p Q4).toNat (Cu.d Q4))) (10 : Int))), i64 (IntKind.wrap .i64 ((6 : Int) + ixB (List.take ((Cu.d Q4).length - (Cu.p Q4).toNat) (List.drop (Cu.p Q4).toNat (Cu.d Q4))) (10 : Int)))]]) A38)))); let A65 : Prop := ((okU (Prod.snd Q2) ∧ A63)); let A80 : Prop := ((brn (Cu.e (Prod.snd Q1) != 0 || decide ((0 : Int) < 2)) (K [.agg [i64 0, i64 0]]) (okU (Prod.snd Q1) ∧ brn (Cu.e (Prod.snd Q2) != 0) (okU (Prod.snd Q2) ∧ (↑(List.map u8 [(10 : Int)]).length : Int) ≤ 1000 ∧ brn (Cu.e Q5 != 0) A2 ((0 : Int) ≤ Cu.p Q5 ∧ Cu.p Q5 ≤ (↑(Cu.d Q5).length : Int) ∧ (↑(List.take ((Cu.d Q5).length - (Cu.p Q5).toNat) (List.drop (Cu.p Q5).toNat (Cu.d Q5))).length : Int) ≤ big' ∧ brn (decide (ixB (List.take ((Cu.d Q5).length - (Cu.p Q5).toNat) (List.drop (Cu.p Q5).toNat (Cu.d Q5))) (10 : Int) ≥ 0)) (K [.agg [i64 (IntKind.wrap .i64 ((0 :
 Int) + ixB (List.take ((Cu.d Q5).length - (Cu.p Q5).toNat) (List.drop (Cu.p Q5).toNat (Cu.d Q5))) (10 : Int))), i64 (IntKind.wrap .i64 ((0 : Int) + ixB (List.take ((Cu.d Q5).length - (Cu.p Q5).toNat) (List.drop (Cu.p Q5).toNat (Cu.d Q5))) (10 : Int)))]]) A2)) (A65 ∧ A65 ∧ okU (Prod.snd Q2) ∧ A63)))); let A84 : Prop := ((A80)); let A93 : Prop := ((K [.agg [i64 (IntKind.wrap .i64 ((0 : Int) + IntKind.wrap .i64 (elems (Prod.fst Q1)))), i64 (IntKind.wrap .i64 ((6 : Int) + IntKind.wrap .i64 (elems (Prod.fst Q1))))]])); let A108 : Prop := ((K [.agg [i64 (IntKind.wrap .i64 (IntKind.wrap .i64 ((0 : Int) + IntKind.wrap .i64 (elems (Prod.fst Q1))) + IntKind.wrap .i64 (elems (Prod.fst Q7)))), i64 (IntKind.wrap .i64 (IntKind.wrap .i64 (IntKind.wrap .i64 ((6 : Int) + IntKind.wrap .i64 (elems (Prod.fst Q1))) + 6) + IntKind.wrap .i64 (elems (Prod.fst Q7))))]])); let A129 : Prop := ((K [.agg [i64 (IntKind.wrap .i64 ((0 : Int) + IntKind.wrap .i64 (elems (Prod.fst Q1)))), i64 (IntKind.wrap .i64 (IntKind.wrap .i64 ((6 : Int) + IntKind.wrap .i64 (elems (Prod.fst Q1))) + 6))]])); let A154 : Prop := ((okH (Prod.fst Q7) ∧ sz48 (8 : Int) ∧ (0 : Int) ≤ IntKind.wrap IntKind.u64 (restU (Prod.snd Q7)) ∧
 IntKind.wrap IntKind.u64 (restU (Prod.snd Q7)) ≤ 18446744073709551615 ∧ brn (decide (sumU (Prod.fst Q7) (8 : Int) ≤ IntKind.wrap IntKind.u64 (restU (Prod.snd Q7)))) (okH (Prod.fst Q7) ∧ okU (Prod.snd Q7) ∧ okH (Prod.fst Q7) ∧ sz48 (8 : Int) ∧ okU (Prod.snd Q8) ∧ (↑(List.map u8 [(10 : Int)]).length : Int) ≤ 1000 ∧ brn (Cu.e Q9 != 0) A108 ((0 : Int) ≤ Cu.p Q9 ∧ Cu.p Q9 ≤ (↑(Cu.d Q9).length : Int) ∧ (↑(List.take ((Cu.d Q9).length - (Cu.p Q9).toNat) (List.drop (Cu.p Q9).toNat (Cu.d Q9))).length : Int) ≤ big' ∧ brn (decide (ixB (List.take ((Cu.d Q9).length - (Cu.p Q9).toNat) (List.drop (Cu.p Q9).toNat (Cu.d Q9))) (10 : Int) ≥ 0)) (K [.agg [i64 (IntKind.wrap .i64 (IntKind.wrap .i64 (IntKind.wrap .i64 ((0 : Int) + IntKind.wrap .i64 (elems (Prod.fst Q1))) + IntKind.wrap .i64 (elems (Prod.fst Q7))) + ixB (List.take ((Cu.d Q9).length - (Cu.p Q9).toNat) (List.drop (Cu.p Q9).toNat (Cu.d Q9))) (10 : Int))), i64 (IntKind.wrap .i64 (IntKind.wrap .i64 (IntKind.wrap .i64 (IntKind.wrap .i64 ((6 : Int) + IntKind.wrap .i64 (elems (Prod.fst Q1))) + 6) + IntKind.wrap .i64 (elems (Prod.fst Q7))) + ixB (List.take ((Cu.d Q9).length - (Cu.p Q9).toNat) (List.drop (Cu.p Q9).toNat (Cu.d Q9))) (10 : Int)))]])
 A108)) (okU (Prod.snd Q7) ∧ okH (Prod.fst Q7) ∧ sz48 (8 : Int) ∧ okU (Prod.snd Q8) ∧ (↑(List.map u8 [(10 : Int)]).length : Int) ≤ 1000 ∧ brn (Cu.e Q9 != 0) A129 ((0 : Int) ≤ Cu.p Q9 ∧ Cu.p Q9 ≤ (↑(Cu.d Q9).length : Int) ∧ (↑(List.take ((Cu.d Q9).length - (Cu.p Q9).toNat) (List.drop (Cu.p Q9).toNat (Cu.d Q9))).length : Int) ≤ big' ∧ brn (decide (ixB (List.take ((Cu.d Q9).length - (Cu.p Q9).toNat) (List.drop (Cu.p Q9).toNat (Cu.d Q9))) (10 : Int) ≥ 0)) (K [.agg [i64 (IntKind.wrap .i64 (IntKind.wrap .i64 ((0 : Int) + IntKind.wrap .i64 (elems (Prod.fst Q1))) + ixB (List.take ((Cu.d Q9).length - (Cu.p Q9).toNat) (List.drop (Cu.p Q9).toNat (Cu.d Q9))) (10 : Int))), i64 (IntKind.wrap .i64 (IntKind.wrap .i64 (IntKind.wrap .i64 ((6 : Int) + IntKind.wrap .i64 (elems (Prod.fst Q1))) + 6) + ixB (List.take ((Cu.d Q9).length - (Cu.p Q9).toNat) (List.drop (Cu.p Q9).toNat (Cu.d Q9))) (10 : Int)))]]) A129)))); let A156 : Prop := ((okU (Prod.snd Q7) ∧ A154)); let A171 : Prop := ((brn (Cu.e (Prod.snd Q6) != 0 || decide (Hd.v (Prod.fst Q1) < 2)) (K [.agg [i64 (IntKind.wrap .i64 ((0 : Int) + IntKind.wrap .i64 (elems (Prod.fst Q1)))), i64 (IntKind.wrap .i64 ((6 : Int) + IntKind.wrap .i64 (elems (Prod.fst
 Q1))))]]) (okU (Prod.snd Q6) ∧ brn (Cu.e (Prod.snd Q7) != 0) (okU (Prod.snd Q7) ∧ (↑(List.map u8 [(10 : Int)]).length : Int) ≤ 1000 ∧ brn (Cu.e Q10 != 0) A93 ((0 : Int) ≤ Cu.p Q10 ∧ Cu.p Q10 ≤ (↑(Cu.d Q10).length : Int) ∧ (↑(List.take ((Cu.d Q10).length - (Cu.p Q10).toNat) (List.drop (Cu.p Q10).toNat (Cu.d Q10))).length : Int) ≤ big' ∧ brn (decide (ixB (List.take ((Cu.d Q10).length - (Cu.p Q10).toNat) (List.drop (Cu.p Q10).toNat (Cu.d Q10))) (10 : Int) ≥ 0)) (K [.agg [i64 (IntKind.wrap .i64 (IntKind.wrap .i64 ((0 : Int) + IntKind.wrap .i64 (elems (Prod.fst Q1))) + ixB (List.take ((Cu.d Q10).length - (Cu.p Q10).toNat) (List.drop (Cu.p Q10).toNat (Cu.d Q10))) (10 : Int))), i64 (IntKind.wrap .i64 (IntKind.wrap .i64 ((6 : Int) + IntKind.wrap .i64 (elems (Prod.fst Q1))) + ixB (List.take ((Cu.d Q10).length - (Cu.p Q10).toNat) (List.drop (Cu.p Q10).toNat (Cu.d Q10))) (10 : Int)))]]) A93)) (A156 ∧ A156 ∧ okU (Prod.snd Q7) ∧ A154)))); let A175 : Prop := ((A171)); let A190 : Prop := ((K [.agg [i64 0, i64 6]])); let A205 : Prop := ((K [.agg [i64 (IntKind.wrap .i64 ((0 : Int) + IntKind.wrap .i64 (elems (Prod.fst Q7)))), i64 (IntKind.wrap .i64 ((12 : Int) + IntKind.wrap .i64 (elems (Prod.fst
 Q7))))]])); let A226 : Prop := ((K [.agg [i64 0, i64 12]])); let A251 : Prop := ((okH (Prod.fst Q7) ∧ sz48 (8 : Int) ∧ (0 : Int) ≤ IntKind.wrap IntKind.u64 (restU (Prod.snd Q7)) ∧ IntKind.wrap IntKind.u64 (restU (Prod.snd Q7)) ≤ 18446744073709551615 ∧ brn (decide (sumU (Prod.fst Q7) (8 : Int) ≤ IntKind.wrap IntKind.u64 (restU (Prod.snd Q7)))) (okH (Prod.fst Q7) ∧ okU (Prod.snd Q7) ∧ okH (Prod.fst Q7) ∧ sz48 (8 : Int) ∧ okU (Prod.snd Q8) ∧ (↑(List.map u8 [(10 : Int)]).length : Int) ≤ 1000 ∧ brn (Cu.e Q9 != 0) A205 ((0 : Int) ≤ Cu.p Q9 ∧ Cu.p Q9 ≤ (↑(Cu.d Q9).length : Int) ∧ (↑(List.take ((Cu.d Q9).length - (Cu.p Q9).toNat) (List.drop (Cu.p Q9).toNat (Cu.d Q9))).length : Int) ≤ big' ∧ brn (decide (ixB (List.take ((Cu.d Q9).length - (Cu.p Q9).toNat) (List.drop (Cu.p Q9).toNat (Cu.d Q9))) (10 : Int) ≥ 0)) (K [.agg [i64 (IntKind.wrap .i64 (IntKind.wrap .i64 ((0 : Int) + IntKind.wrap .i64 (elems (Prod.fst Q7))) + ixB (List.take ((Cu.d Q9).length - (Cu.p Q9).toNat) (List.drop (Cu.p Q9).toNat (Cu.d Q9))) (10 : Int))), i64 (IntKind.wrap .i64 (IntKind.wrap .i64 ((12 : Int) + IntKind.wrap .i64 (elems (Prod.fst Q7))) + ixB (List.take ((Cu.d Q9).length - (Cu.p Q9).toNat) (List.drop (Cu.p
 Q9).toNat (Cu.d Q9))) (10 : Int)))]]) A205)) (okU (Prod.snd Q7) ∧ okH (Prod.fst Q7) ∧ sz48 (8 : Int) ∧ okU (Prod.snd Q8) ∧ (↑(List.map u8 [(10 : Int)]).length : Int) ≤ 1000 ∧ brn (Cu.e Q9 != 0) A226 ((0 : Int) ≤ Cu.p Q9 ∧ Cu.p Q9 ≤ (↑(Cu.d Q9).length : Int) ∧ (↑(List.take ((Cu.d Q9).length - (Cu.p Q9).toNat) (List.drop (Cu.p Q9).toNat (Cu.d Q9))).length : Int) ≤ big' ∧ brn (decide (ixB (List.take ((Cu.d Q9).length - (Cu.p Q9).toNat) (List.drop (Cu.p Q9).toNat (Cu.d Q9))) (10 : Int) ≥ 0)) (K [.agg [i64 (IntKind.wrap .i64 ((0 : Int) + ixB (List.take ((Cu.d Q9).length - (Cu.p Q9).toNat) (List.drop (Cu.p Q9).toNat (Cu.d Q9))) (10 : Int))), i64 (IntKind.wrap .i64 ((12 : Int) + ixB (List.take ((Cu.d Q9).length - (Cu.p Q9).toNat) (List.drop (Cu.p Q9).toNat (Cu.d Q9))) (10 : Int)))]]) A226)))); let A253 : Prop := ((okU (Prod.snd Q7) ∧ A251)); let A268 : Prop := ((brn (Cu.e (Prod.snd Q6) != 0 || decide (Hd.v (Prod.fst Q1) < 2)) (K [.agg [i64 0, i64 6]]) (okU (Prod.snd Q6) ∧ brn (Cu.e (Prod.snd Q7) != 0) (okU (Prod.snd Q7) ∧ (↑(List.map u8 [(10 : Int)]).length : Int) ≤ 1000 ∧ brn (Cu.e Q10 != 0) A190 ((0 : Int) ≤ Cu.p Q10 ∧ Cu.p Q10 ≤ (↑(Cu.d Q10).length : Int) ∧ (↑(List.take ((Cu.d
 Q10).length - (Cu.p Q10).toNat) (List.drop (Cu.p Q10).toNat (Cu.d Q10))).length : Int) ≤ big' ∧ brn (decide (ixB (List.take ((Cu.d Q10).length - (Cu.p Q10).toNat) (List.drop (Cu.p Q10).toNat (Cu.d Q10))) (10 : Int) ≥ 0)) (K [.agg [i64 (IntKind.wrap .i64 ((0 : Int) + ixB (List.take ((Cu.d Q10).length - (Cu.p Q10).toNat) (List.drop (Cu.p Q10).toNat (Cu.d Q10))) (10 : Int))), i64 (IntKind.wrap .i64 ((6 : Int) + ixB (List.take ((Cu.d Q10).length - (Cu.p Q10).toNat) (List.drop (Cu.p Q10).toNat (Cu.d Q10))) (10 : Int)))]]) A190)) (A253 ∧ A253 ∧ okU (Prod.snd Q7) ∧ A251)))); let A272 : Prop := ((A268)); let A290 : Prop := ((okH (Prod.fst Q1) ∧ sz48 (4 : Int) ∧ (0 : Int) ≤ IntKind.wrap IntKind.u64 (restU (Prod.snd Q1)) ∧ IntKind.wrap IntKind.u64 (restU (Prod.snd Q1)) ≤ 18446744073709551615 ∧ brn (decide (sumU (Prod.fst Q1) (4 : Int) ≤ IntKind.wrap IntKind.u64 (restU (Prod.snd Q1)))) (okH (Prod.fst Q1) ∧ okU (Prod.snd Q1) ∧ okH (Prod.fst Q1) ∧ sz48 (4 : Int) ∧ A171 ∧ A175) (okU (Prod.snd Q1) ∧ okH (Prod.fst Q1) ∧ sz48 (4 : Int) ∧ A268 ∧ A272))); let A292 : Prop := ((okU (Prod.snd Q1) ∧ A290)); let A338 : Prop := ((okH (Prod.fst Q1) ∧ sz48 (4 : Int) ∧ (0 : Int) ≤ IntKind.wrap IntKind.u64
 (restU (Prod.snd Q1)) ∧ IntKind.wrap IntKind.u64 (restU (Prod.snd Q1)) ≤ 18446744073709551615 ∧ brn (decide (sumU (Prod.fst Q1) (4 : Int) ≤ IntKind.wrap IntKind.u64 (restU (Prod.snd Q1)))) (okH (Prod.fst Q1) ∧ okU (Prod.snd Q1) ∧ okH (Prod.fst Q1) ∧ sz48 (4 : Int) ∧ A175) (okU (Prod.snd Q1) ∧ okH (Prod.fst Q1) ∧ sz48 (4 : Int) ∧ A272))); let A340 : Prop := ((okU (Prod.snd Q1) ∧ A338)); let A352 : Prop := ((okU (Cu.mk b (0 : Int) (0 : Int) (0 : Int)) ∧ brn (Cu.e (Prod.snd Q1) != 0) A84 (A340 ∧ A340 ∧ okU (Prod.snd Q1) ∧ A338))); let A353 : Prop := (((okU (Cu.mk b (0 : Int) (0 : Int) (0 : Int)) ∧ brn (Cu.e (Prod.snd Q1) != 0) (A80 ∧ A84) (A292 ∧ A292 ∧ okU (Prod.snd Q1) ∧ A290)) ∧ A352)); let A354 : Prop := ((A352)); let A355 : Prop := ((A353 ∧ A354)); let A357 : Prop := ((A352)); let A359 : Prop := ((A354 ∧ A357)); A355 ∧ (A355 ∧ (A353 ∧ A357) ∧ A359) ∧ A354 ∧ A359) := by kernel_rfl
end Y27
set_option maxRecDepth 100000
namespace Y27
open Go Go.AE Go.Proofs E6
attribute [local irreducible] loopK evCode evSpec loopB norm
theorem foot_blk {Q : Cu} (hq : okU Q) {p1 p2 : Prop} (h1 : 0 ≤ ixB (Q.d.drop Q.p.toNat) 10 → p1) (h2 : ¬ (0 ≤ ixB (Q.d.drop Q.p.toNat) 10) → p2) :
    0 ≤ Q.p ∧ Q.p ≤ (Q.d.length : Int) ∧ ((List.take (Q.d.length - Int.toNat Q.p) (List.drop (Int.toNat Q.p) Q.d)).length : Int) ≤ big' ∧ brn (decide (ixB (List.take (Q.d.length - Int.toNat Q.p) (List.drop (Int.toNat Q.p) Q.d)) 10 ≥ 0)) p1 p2 := by
  obtain ⟨q1, q2, q3⟩ := hq
  have hb : big' = 1000000000000 := rfl
  rw [take_all]
  refine ⟨q1, q2, by rw [List.length_drop, hb]; omega, brn_intro (fun h => h1 (of_decide_eq_true h)) (fun h => h2 (of_decide_eq_false h))⟩
theorem sz4 : sz48 4 := .inl rfl
theorem sz8 : sz48 8 := .inr rfl
theorem u64_rest {c : Cu} (h : okU c) : IntKind.wrap .u64 (restU c) = restU c := by
  have := restU_rng h
  exact wrapU (by omega) (by omega)
attribute [local irreducible] hdU decU expU elems ixB sumU restU
set_option maxHeartbeats 4000000 in
theorem g10_ev (b : List UInt8) (hb : (b.length : Int) ≤ big') (K : List AV → Prop) (hK : K [.agg [i64 (measU b).1, i64 (measU b).2]]) : evSpec L7 Tryz.f10 [by' b] K := by
  refine Eq.mpr (g10_in b K) ?_
  have hbig : big' = 1000000000000 := rfl
  have o0 : okU ⟨b, 0, 0, 0⟩ := ⟨Int.le_refl 0, by show (0 : Int) ≤ (b.length : Int); omega, by show (b.length : Int) ≤ _; omega⟩
  have leaf : ∀ x y : Int, x = (measU b).1 → y = (measU b).2 → K [.agg [i64 x, i64 y]] := fun x y hx hy => by rw [hx, hy]; exact hK
  have hM : measU b = if (hdU ⟨b, 0, 0, 0⟩).2.e ≠ 0 then (0, 0) else if (nextP ⟨b, 0, 0, 0⟩ 4).e ≠ 0 ∨ (hdU ⟨b, 0, 0, 0⟩).1.v < 2 then (cntP ⟨b, 0, 0, 0⟩ 4, 6 + cntP ⟨b, 0, 0, 0⟩ 4) else
      if (hdU (nextP ⟨b, 0, 0, 0⟩ 4)).2.e ≠ 0 then (cntP ⟨b, 0, 0, 0⟩ 4, 6 + cntP ⟨b, 0, 0, 0⟩ 4) else (cntP ⟨b, 0, 0, 0⟩ 4 + cntP (nextP ⟨b, 0, 0, 0⟩ 4) 8 + footU (nextP (nextP ⟨b, 0, 0, 0⟩ 4) 8), 6 + cntP ⟨b, 0, 0, 0⟩ 4 + 6 + cntP (nextP ⟨b, 0, 0, 0⟩ 4) 8 + footU (nextP (nextP ⟨b, 0, 0, 0⟩ 4) 8)) := rfl
  intro Q1 Q2 Q3 Q4 Q5 Q6 Q7 Q8 Q9 Q10 A2 A17 A38 A63 A65 A80 A84 A93 A108 A129 A154 A156 A171 A175 A190 A205 A226 A251 A253 A268 A272 A290 A292 A338 A340 A352 A353 A354 A355 A357 A359
  have hM' : measU b = if Q1.2.e ≠ 0 then (0, 0) else if Q6.2.e ≠ 0 ∨ Q1.1.v < 2 then (cntU Q1.1 Q1.2 4, 6 + cntU Q1.1 Q1.2 4) else
      if Q7.2.e ≠ 0 then (cntU Q1.1 Q1.2 4, 6 + cntU Q1.1 Q1.2 4) else (cntU Q1.1 Q1.2 4 + cntU Q7.1 Q7.2 8 + footU Q8.2, 6 + cntU Q1.1 Q1.2 4 + 6 + cntU Q7.1 Q7.2 8 + footU Q8.2) := hM
  clear hM
  have hF : footU Q8.2 = if Q9.e ≠ 0 then 0 else if 0 ≤ ixB (Q9.d.drop Q9.p.toNat) 10 then ixB (Q9.d.drop Q9.p.toNat) 10 else 0 := rfl
  have hC1 : cntU Q1.1 Q1.2 4 = if sumU Q1.1 4 ≤ restU Q1.2 then elems Q1.1 else 0 := rfl
  have hC7 : cntU Q7.1 Q7.2 8 = if sumU Q7.1 8 ≤ restU Q7.2 then elems Q7.1 else 0 := rfl
  have o1 : okU Q1.2 := okU_hd o0
  have h1 : okH Q1.1 := okH_hd _
  have o6 : okU Q6.2 := okU_dec o1 h1 sz4
  have o7 : okU Q7.2 := okU_hd o6
  have h7 : okH Q7.1 := okH_hd _
  have o8 : okU Q8.2 := okU_dec o7 h7 sz8
  have o9 : okU Q9 := okU_exp o8
  have k10 : Q7.2.e ≠ 0 → Q10.e ≠ 0 := fun h => by
    have : Q10 = Q7.2 := exp_stick h _ _
    rw [this]; exact h
  have e1 := elems_rng h1
  have e7 := elems_rng h7
  have x1 : elems ⟨Q1.1.v, Q1.1.iu, Q1.1.is, Q1.1.l, Q1.1.t, Q1.1.ty, Q1.1.c⟩ = elems Q1.1 := rfl
  have x7 : elems ⟨Q7.1.v, Q7.1.iu, Q7.1.is, Q7.1.l, Q7.1.t, Q7.1.ty, Q7.1.c⟩ = elems Q7.1 := rfl
  have r1 := restU_rng o1
  have r7 := restU_rng o7
  have ix : -1 ≤ ixB (Q9.d.drop Q9.p.toNat) 10 ∧ ixB (Q9.d.drop Q9.p.toNat) 10 ≤ 1000000000000 := by
    have := ixB_rng (Q9.d.drop Q9.p.toNat) 10
    have hl : ((Q9.d.drop Q9.p.toNat).length : Int) ≤ 1000000000000 := by
      have := o9.2.2
      rw [List.length_drop]; omega
    omega
  have w1 := u64_rest o1
  have w7 := u64_rest o7
  have z1 : 0 ≤ IntKind.wrap .u64 (restU Q1.2) := by omega
  have u1 : IntKind.wrap .u64 (restU Q1.2) ≤ 18446744073709551615 := by omega
  have z7 : 0 ≤ IntKind.wrap .u64 (restU Q7.2) := by omega
  have u7 : IntKind.wrap .u64 (restU Q7.2) ≤ 18446744073709551615 := by omega
  have nl3 : ((List.length (List.map u8 [(10 : Int)]) : Nat) : Int) ≤ 1000 := by decide
  clear_value Q1 Q2 Q3 Q4 Q5 Q6 Q7 Q8 Q9 Q10
  by_cases c1 : Q1.2.e ≠ 0
  · -- no header
    rw [if_pos c1] at hM'
    have a80 : A80 := brn_intro (fun _ => leaf _ _ (by rw [hM']) (by rw [hM'])) (fun h => by simp [c1] at h)
    have a352 : A352 := ⟨o0, brn_intro (fun _ => a80) (fun h => by simp [c1] at h)⟩
    have a353 : A353 := ⟨⟨o0, brn_intro (fun _ => ⟨a80, a80⟩) (fun h => by simp [c1] at h)⟩, a352⟩
    exact ⟨⟨a353, a352⟩, ⟨⟨a353, a352⟩, ⟨a353, a352⟩, a352, a352⟩, a352, a352, a352⟩
  · rw [if_neg c1] at hM'
    have fin : A290 → A338 → A355 ∧ (A355 ∧ (A353 ∧ A357) ∧ A359) ∧ A354 ∧ A359 := by
      intro a290 a338
      have c1' : Q1.2.e = 0 := by simpa using c1
      have a340 : A340 := ⟨o1, a338⟩
      have a292 : A292 := ⟨o1, a290⟩
      have a352 : A352 := ⟨o0, brn_intro (fun h => by simp [c1'] at h) (fun _ => ⟨a340, a340, o1, a338⟩)⟩
      have a353 : A353 := ⟨⟨o0, brn_intro (fun h => by simp [c1'] at h) (fun _ => ⟨a292, a292, o1, a290⟩)⟩, a352⟩
      exact ⟨⟨a353, a352⟩, ⟨⟨a353, a352⟩, ⟨a353, a352⟩, a352, a352⟩, a352, a352, a352⟩
    by_cases f1 : sumU Q1.1 4 ≤ restU Q1.2
    · -- the first part's counts fit
      rw [if_pos f1] at hC1
      have a171 : A171 := by
        refine brn_intro (fun h => ?_) (fun h => ?_)
        · have hc : Q6.2.e ≠ 0 ∨ Q1.1.v < 2 := by simpa using h
          rw [if_pos hc, hC1] at hM'
          refine leaf _ _ ?_ ?_ <;> rw [hM'] <;> simp (disch := omega) only [wrap64, x1, x7] <;> omega
        · have hc : ¬ (Q6.2.e ≠ 0 ∨ Q1.1.v < 2) := by simpa using h
          rw [if_neg hc, hC1] at hM'
          refine ⟨o6, brn_intro (fun h2 => ?_) (fun h2 => ?_)⟩
          · have c7 : Q7.2.e ≠ 0 := by simpa using h2
            rw [if_pos c7] at hM'
            refine ⟨o7, nl3, brn_intro (fun _ => ?_) (fun h3 => absurd (k10 c7) (by simpa using h3))⟩
            refine leaf _ _ ?_ ?_ <;> rw [hM'] <;> simp (disch := omega) only [wrap64, x1, x7] <;> omega
          · have c7 : ¬ (Q7.2.e ≠ 0) := by simpa using h2
            rw [if_neg c7] at hM'
            have a154 : A154 := by
              refine ⟨h7, sz8, z7, u7, brn_intro (fun h3 => ?_) (fun h3 => ?_)⟩
              · rw [w7] at h3
                have f7 : sumU Q7.1 8 ≤ restU Q7.2 := of_decide_eq_true h3
                rw [if_pos f7] at hC7
                rw [hC7] at hM'
                have a108 : footU Q8.2 = 0 → A108 := fun hf => by
                  rw [hf] at hM'
                  refine leaf _ _ ?_ ?_ <;> rw [hM'] <;> simp (disch := omega) only [wrap64, x1, x7] <;> omega
                refine ⟨h7, o7, h7, sz8, o8, nl3, brn_intro (fun h4 => a108 ?_) (fun h4 => foot_blk o9 (fun h5 => ?_) (fun h5 => a108 ?_))⟩
                · rw [hF, if_pos (by simpa using h4)]
                · rw [if_neg (by simpa using h4), if_pos h5] at hF
                  rw [hF] at hM'
                  rw [take_all]
                  refine leaf _ _ ?_ ?_ <;> rw [hM'] <;> simp (disch := omega) only [wrap64, x1, x7] <;> omega
                · rw [hF, if_neg (by simpa using h4), if_neg h5]
              · rw [w7] at h3
                have f7 : ¬ (sumU Q7.1 8 ≤ restU Q7.2) := of_decide_eq_false h3
                rw [if_neg f7] at hC7
                rw [hC7] at hM'
                have a129 : footU Q8.2 = 0 → A129 := fun hf => by
                  rw [hf] at hM'
                  refine leaf _ _ ?_ ?_ <;> rw [hM'] <;> simp (disch := omega) only [wrap64, x1, x7] <;> omega
                refine ⟨o7, h7, sz8, o8, nl3, brn_intro (fun h4 => a129 ?_) (fun h4 => foot_blk o9 (fun h5 => ?_) (fun h5 => a129 ?_))⟩
                · rw [hF, if_pos (by simpa using h4)]
                · rw [if_neg (by simpa using h4), if_pos h5] at hF
                  rw [hF] at hM'
                  rw [take_all]
                  refine leaf _ _ ?_ ?_ <;> rw [hM'] <;> simp (disch := omega) only [wrap64, x1, x7] <;> omega
                · rw [hF, if_neg (by simpa using h4), if_neg h5]
            exact ⟨⟨o7, a154⟩, ⟨o7, a154⟩, o7, a154⟩
      have d1 : decide (sumU Q1.1 4 ≤ IntKind.wrap .u64 (restU Q1.2)) = true := by rw [w1]; exact decide_eq_true f1
      refine fin ⟨h1, sz4, z1, u1, brn_intro (fun _ => ⟨h1, o1, h1, sz4, a171, a171⟩) (fun h => by rw [d1] at h; cases h)⟩ ⟨h1, sz4, z1, u1, brn_intro (fun _ => ⟨h1, o1, h1, sz4, a171⟩) (fun h => by rw [d1] at h; cases h)⟩
    · rw [if_neg f1] at hC1
      have a268 : A268 := by
        refine brn_intro (fun h => ?_) (fun h => ?_)
        · have hc : Q6.2.e ≠ 0 ∨ Q1.1.v < 2 := by simpa using h
          rw [if_pos hc, hC1] at hM'
          refine leaf _ _ ?_ ?_ <;> rw [hM'] <;> omega
        · have hc : ¬ (Q6.2.e ≠ 0 ∨ Q1.1.v < 2) := by simpa using h
          rw [if_neg hc, hC1] at hM'
          refine ⟨o6, brn_intro (fun h2 => ?_) (fun h2 => ?_)⟩
          · have c7 : Q7.2.e ≠ 0 := by simpa using h2
            rw [if_pos c7] at hM'
            refine ⟨o7, nl3, brn_intro (fun _ => ?_) (fun h3 => absurd (k10 c7) (by simpa using h3))⟩
            refine leaf _ _ ?_ ?_ <;> rw [hM'] <;> omega
          · have c7 : ¬ (Q7.2.e ≠ 0) := by simpa using h2
            rw [if_neg c7] at hM'
            have a251 : A251 := by
              refine ⟨h7, sz8, z7, u7, brn_intro (fun h3 => ?_) (fun h3 => ?_)⟩
              · rw [w7] at h3
                have f7 : sumU Q7.1 8 ≤ restU Q7.2 := of_decide_eq_true h3
                rw [if_pos f7] at hC7
                rw [hC7] at hM'
                have a205 : footU Q8.2 = 0 → A205 := fun hf => by
                  rw [hf] at hM'
                  refine leaf _ _ ?_ ?_ <;> rw [hM'] <;> simp (disch := omega) only [wrap64, x1, x7] <;> omega
                refine ⟨h7, o7, h7, sz8, o8, nl3, brn_intro (fun h4 => a205 ?_) (fun h4 => foot_blk o9 (fun h5 => ?_) (fun h5 => a205 ?_))⟩
                · rw [hF, if_pos (by simpa using h4)]
                · rw [if_neg (by simpa using h4), if_pos h5] at hF
                  rw [hF] at hM'
                  rw [take_all]
                  refine leaf _ _ ?_ ?_ <;> rw [hM'] <;> simp (disch := omega) only [wrap64, x1, x7] <;> omega
                · rw [hF, if_neg (by simpa using h4), if_neg h5]
              · rw [w7] at h3
                have f7 : ¬ (sumU Q7.1 8 ≤ restU Q7.2) := of_decide_eq_false h3
                rw [if_neg f7] at hC7
                rw [hC7] at hM'
                have a226 : footU Q8.2 = 0 → A226 := fun hf => by
                  rw [hf] at hM'
                  refine leaf _ _ ?_ ?_ <;> rw [hM'] <;> omega
                refine ⟨o7, h7, sz8, o8, nl3, brn_intro (fun h4 => a226 ?_) (fun h4 => foot_blk o9 (fun h5 => ?_) (fun h5 => a226 ?_))⟩
                · rw [hF, if_pos (by simpa using h4)]
                · rw [if_neg (by simpa using h4), if_pos h5] at hF
                  rw [hF] at hM'
                  rw [take_all]
                  refine leaf _ _ ?_ ?_ <;> rw [hM'] <;> simp (disch := omega) only [wrap64, x1, x7] <;> omega
                · rw [hF, if_neg (by simpa using h4), if_neg h5]
            exact ⟨⟨o7, a251⟩, ⟨o7, a251⟩, o7, a251⟩
      have d1 : decide (sumU Q1.1 4 ≤ IntKind.wrap .u64 (restU Q1.2)) = false := by rw [w1]; exact decide_eq_false f1
      refine fin ⟨h1, sz4, z1, u1, brn_intro (fun h => by rw [d1] at h; cases h) (fun _ => ⟨o1, h1, sz4, a268, a268⟩)⟩ ⟨h1, sz4, z1, u1, brn_intro (fun h => by rw [d1] at h; cases h) (fun _ => ⟨o1, h1, sz4, a268⟩)⟩
theorem IM_ok : ∀ f fn, IM f = some fn → Tryz.prog.funcs[f]? = some fn ∧ (fn.name == "runtime.NumGoroutine") = false := by
  intro f fn h
  unfold IM at h
  cases h1 : Nat.beq f 25 with
  | true => rw [h1, cond_true] at h; cases h; obtain rfl := nbeq h1; exact ⟨Tryz.func25, by kernel_rfl⟩
  | false =>
    rw [h1, cond_false] at h
    cases h2 : Nat.beq f 26 with
    | true => rw [h2, cond_true] at h; cases h; obtain rfl := nbeq h2; exact ⟨Tryz.func26, by kernel_rfl⟩
    | false =>
      rw [h2, cond_false] at h
      cases h3 : Nat.beq f 28 with
      | true => rw [h3, cond_true] at h; cases h; obtain rfl := nbeq h3; exact ⟨Tryz.func28, by kernel_rfl⟩
      | false =>
        rw [h3, cond_false] at h
        cases h4 : Nat.beq f 29 with
        | true => rw [h4, cond_true] at h; cases h; obtain rfl := nbeq h4; exact ⟨Tryz.func29, by kernel_rfl⟩
        | false => rw [h4, cond_false] at h; cases h
theorem ok10e : ∀ args pres res, sMeas args = some (pres, res) → SpecOK Tryz.prog G16 10 args pres res := by
  intro args pres res h
  unfold sMeas at h
  split at h
  case h_2 => cases h
  cases h
  exact spec_ok (C := L7) okF10 (inl_ok okF10 IM_ok 3) Tryz.func10 (by kernel_rfl) (by kernel_rfl) (fun hp => g10_ev _ (hp _ (by simp)) _ rfl)
end Y27
set_option maxRecDepth 100000
namespace Y27
open Go Go.AE Go.Proofs E6
attribute [local irreducible] loopK evCode evSpec loopB norm
end Y27
set_option maxRecDepth 100000
namespace Y27
open Go Go.AE Go.Proofs E6
attribute [local irreducible] loopK evCode evSpec loopB norm
theorem ixB_some : ∀ (l : List UInt8) (k : Nat), k < l.length → l.getD k 0 = 10 → (∀ j, j < k → l.getD j 0 ≠ 10) → ixB l 10 = (k : Int)
  | [], k, h, _, _ => by simp at h
  | b :: l, 0, _, h, _ => by
    have : b = 10 := h
    subst this
    rfl
  | b :: l, k + 1, hk, h, hj => by
    have hb : b ≠ 10 := hj 0 (by omega)
    have ih := ixB_some l k (by simpa using hk) h (fun j h => hj (j + 1) (by omega))
    unfold ixB at ih ⊢
    unfold Lib.indexByte
    have hc : Int.toNat 10 = 10 := rfl
    have hb' : (b == (Int.toNat 10).toUInt8) = false := by
      rw [beq_eq_false_iff_ne]; exact hb
    rw [hb', ih]
    simp only [Bool.false_eq_true, if_false]
    rw [if_neg (by simp only [beq_iff_eq]; omega)]
    rfl
theorem foot_stick {c : Cu} (he : c.e ≠ 0) : footU c = 0 := by
  unfold footU
  rw [exp_stick he, if_pos he]
attribute [local irreducible] hdU decU expU elems ixB sumU restU footU
end Y27
namespace Y27
open Go Go.AE Go.Proofs E6
def alwU (c : Int) : Bool := c == (43 : Int) || c == (45 : Int) || decide (c ≥ (48 : Int)) && decide (c ≤ (57 : Int)) || decide (c ≥ (65 : Int)) && decide (c ≤ (90 : Int)) || decide (c ≥ (97 : Int)) && decide (c ≤ (122 : Int))
def alphaU (c : Int) : Bool := decide (c ≥ (65 : Int)) && decide (c ≤ (90 : Int)) || decide (c ≥ (97 : Int)) && decide (c ≤ (122 : Int))
def digU (s : List UInt8) (i : Int) : Bool := decide (i < (s.length : Int)) && decide (((s.getD (Int.toNat i) 0).toNat : Int) ≥ (48 : Int)) && decide (((s.getD (Int.toNat i) 0).toNat : Int) ≤ (57 : Int))
def in9 (n : Int) : Bool := decide (n ≥ (-89999 : Int)) && decide (n ≤ (89999 : Int))
def lateU (f : Int) : Bool := decide (f < (0 : Int)) || decide (f > (86400 : Int))
def extU (h : Bool) (f g : Int) : Bool := h && (lateU f || lateU g)
def sAlw : List AV → Option (List Prop × List AV)
  | [.imm (.int .u8 c)] => some ([], [bo (alwU c)])
  | _ => none
def sAlpha : List AV → Option (List Prop × List AV)
  | [.imm (.int .u8 c)] => some ([], [bo (alphaU c)])
  | _ => none
def sDig : List AV → Option (List Prop × List AV)
  | [.imm (.str s), .imm (.int .i64 i)] => some ([0 ≤ i], [bo (digU s i)])
  | _ => none
def sIn9 : List AV → Option (List Prop × List AV)
  | [.imm (.int .i64 n)] => some ([], [bo (in9 n)])
  | _ => none
def sLate : List AV → Option (List Prop × List AV)
  | [.agg [.imm (.int .i64 a), .imm (.int .i64 b), .imm (.int .i64 c), .imm (.int .i64 d), .imm (.int .i64 e), .imm (.int .i64 f)]] => some ([], [bo (lateU f)])
  | _ => none
def rdC (a b c d e f : Int) : List AV := [i64 a, i64 b, i64 c, i64 d, i64 e, i64 f]
def ruC (s : List UInt8) (o : Int) (h : Bool) (t : List UInt8) (p : Int) (x y : List AV) : List AV := [.imm (.str s), i64 o, bo h, .imm (.str t), i64 p] ++ (x ++ y)
def sExt : List AV → Option (List Prop × List AV)
  | [.agg [.imm (.str s), .imm (.int .i64 o), .imm (.bool h), .imm (.str t), .imm (.int .i64 p), .imm (.int .i64 a), .imm (.int .i64 b), .imm (.int .i64 c), .imm (.int .i64 d), .imm (.int .i64 e), .imm (.int .i64 f), .imm (.int .i64 a'), .imm (.int .i64 b'), .imm (.int .i64 c'), .imm (.int .i64 d'), .imm (.int .i64 e'), .imm (.int .i64 f')]] => some ([], [bo (extU h f f')])
  | _ => none
def F11 := addE F10 10 sMeas
noncomputable def L9 : Cx := ⟨Tryz.prog, F11, noCall, G16, 4005⟩
noncomputable def LX : Cx := ⟨Tryz.prog, F11, noCall, G16, 4009⟩
def F12 := addE (addE (addE (addE (addE (addE F11 14 sWB) 112 sAlw) 131 sAlpha) 115 sDig) 96 sIn9) 99 sLate
noncomputable def LY : Cx := ⟨Tryz.prog, F12, noCall, G16, 4009⟩
def F13 := addE F12 68 sExt
noncomputable def IS : FuncId → Option Func := fun f => bif Nat.beq f 19 then some Tryz.f19 else bif Nat.beq f 37 then some Tryz.f37 else bif Nat.beq f 39 then some Tryz.f39 else bif Nat.beq f 57 then some Tryz.f57 else bif Nat.beq f 58 then some Tryz.f58 else bif Nat.beq f 59 then some Tryz.f59 else bif Nat.beq f 60 then some Tryz.f60 else bif Nat.beq f 61 then some Tryz.f61 else bif Nat.beq f 67 then some Tryz.f67 else bif Nat.beq f 92 then some Tryz.f92 else bif Nat.beq f 93 then some Tryz.f93 else bif Nat.beq f 94 then some Tryz.f94 else bif Nat.beq f 95 then some Tryz.f95 else bif Nat.beq f 113 then some Tryz.f113 else bif Nat.beq f 114 then some Tryz.f114 else bif Nat.beq f 116 then some Tryz.f116 else none
noncomputable def LS : Cx := ⟨Tryz.prog, F13, inl IS Tryz.prog F13 G16 95172 8, G16, 95172⟩
def slimC : List AV := [.imm (.ints .i64 []), by' [], .imm (.sl 3 [[.int .i32 0, .bool false, .int .u8 0]]), by' [0], .imm (.sl 2 []), .imm (.bools []), .imm (.bools [])]
def zeroC : List AV := [.imm (.ints .i64 []), by' [], .imm (.sl 3 []), by' [], .imm (.sl 2 []), .imm (.bools []), .imm (.bools [])]
def fileOne : AV := .agg (i64 1 :: (slimC ++ zeroC ++ [.imm (.str [])]))
def fileTwo : AV := .agg (i64 2 :: (slimC ++ slimC ++ [.imm (.str [85, 84, 67, 48])]))
end Y27
set_option maxRecDepth 100000
namespace Y27
open Go Go.AE Go.Proofs E6
attribute [local irreducible] loopK evCode evSpec loopB norm
theorem g14_in (b : List UInt8) (K : List AV → Prop) : evSpec L9 Tryz.f14 [by' b] K =
  (let Q1 : Int × Int := (measU b); (↑(List.length b) : Int) ≤ big' ∧ (0 : Int) ≤ (↑(List.length b) : Int) ∧ (↑(List.length b) : Int) ≤ (1099511627776 : Int) ∧ K [AV.imm (IV.bool (decide (Prod.fst Q1 ≤ (4 : Int) * (↑(List.length b) : Int) + (64 : Int)) && decide (Prod.snd Q1 ≤ (16 : Int) * (↑(List.length b) : Int) + (64 : Int))))]) := by kernel_rfl
theorem g112_in (c : Int) (K : List AV → Prop) : evSpec LX Tryz.f112 [.imm (.int .u8 c)] K = (K [bo (c == 43 || c == 45 || decide (c ≥ 48) && decide (c ≤ 57) || decide (c ≥ 65) && decide (c ≤ 90) || decide (c ≥ 97) && decide (c ≤ 122))]) := by kernel_rfl
theorem g131_in (c : Int) (K : List AV → Prop) : evSpec LX Tryz.f131 [.imm (.int .u8 c)] K = (K [bo (decide (c ≥ 65) && decide (c ≤ 90) || decide (c ≥ 97) && decide (c ≤ 122))]) := by kernel_rfl
theorem g115_in (s : List UInt8) (i : Int) (K : List AV → Prop) : evSpec LX Tryz.f115 [.imm (.str s), i64 i] K = ((decide (i < (s.length : Int)) = true → (0 : Int) ≤ i) ∧ (decide (i < (s.length : Int)) = true → i < (s.length : Int)) ∧ ((decide (i < (s.length : Int)) && decide ((↑(UInt8.toNat (List.getD s i.toNat (0 : UInt8))) : Int) ≥ 48)) = true → (0 : Int) ≤ i) ∧ ((decide (i < (s.length : Int)) && decide ((↑(UInt8.toNat (List.getD s i.toNat (0 : UInt8))) : Int) ≥ 48)) = true → i < (s.length : Int)) ∧ K [bo (decide (i < (s.length : Int)) && decide ((↑(UInt8.toNat (List.getD s i.toNat (0 : UInt8))) : Int) ≥ 48) && decide ((↑(UInt8.toNat (List.getD s i.toNat (0 : UInt8))) : Int) ≤ 57))]) := by kernel_rfl
theorem g96_in (n : Int) (K : List AV → Prop) : evSpec LX Tryz.f96 [i64 n] K =
  (K [AV.imm (IV.bool (decide (n ≥ (-89999 : Int)) && decide (n ≤ (89999 : Int))))]) := by kernel_rfl
theorem g99_in (a : Int) (b : Int) (c : Int) (d : Int) (e : Int) (f : Int) (K : List AV → Prop) : evSpec LX Tryz.f99 [.agg [i64 a, i64 b, i64 c, i64 d, i64 e, i64 f]] K = (K [bo (decide (f < 0) || decide (f > 86400))]) := by kernel_rfl
theorem g68_in (s : List UInt8) (o : Int) (h : Bool) (t : List UInt8) (p : Int) (a : Int) (b : Int) (c : Int) (d : Int) (e : Int) (f : Int) (a' : Int) (b' : Int) (c' : Int) (d' : Int) (e' : Int) (f' : Int) (K : List AV → Prop) : evSpec LY Tryz.f68 [.agg (ruC s o h t p (rdC a b c d e f) (rdC a' b' c' d' e' f'))] K = (K [bo (h && (lateU f || lateU f'))]) := by kernel_rfl
end Y27
set_option maxRecDepth 100000
namespace Y27
open Go Go.AE Go.Proofs E6
attribute [local irreducible] loopK evCode evSpec loopB norm
theorem g20_one (K : List AV → Prop) : evSpec LS Tryz.f20 [fileOne] K = (let Q1 : Hd := (hdOf [] [[IV.int IntKind.i32 (0 : Int), IV.bool false, IV.int .u8 0]] [(0 : UInt8)] [] [] [] (1 : Int)); let Q2 : List UInt8 := (hdB (Hd.mk (Hd.v Q1) (Hd.iu Q1) (Hd.is Q1) (Hd.l Q1) (Hd.t Q1) (Hd.ty Q1) (Hd.c Q1))); let Q3 : List UInt8 := (encB [] [] (tys [[IV.int IntKind.i32 (0 : Int), IV.bool false, IV.int .u8 0]]) [(0 : UInt8)] (lps []) [] [] (4 : Int).toNat); sz48 (4 : Int) ∧ (↑([] : List UInt8).length : Int) ≤ big ∧ (0 : Int) ≤ 0 ∧ (0 : Int) < (↑(List.length [[IV.int IntKind.i32 (0 : Int), IV.bool false, IV.int .u8 0]]) : Int) ∧ kcells (List.getD [[IV.int IntKind.i32 (0 : Int), IV.bool false, IV.int .u8 0]] (0 : Int).toNat []) 0 (lapp [CK.int IntKind.i32] (lapp [CK.bool] (lapp [CK.int IntKind.u8] []))) = List.getD [[IV.int IntKind.i32 (0 : Int), IV.bool false, IV.int .u8 0]] (0 : Int).toNat [] ∧ (0 : Int) ≤ 0 ∧ (0 : Int) < (↑(List.length [[IV.int IntKind.i32 (0 : Int), IV.bool false, IV.int .u8 0]]) : Int) ∧ kcells (List.getD [[IV.int IntKind.i32 (0 : Int), IV.bool false, IV.int .u8 0]] (0 : Int).toNat []) 0 (lapp [CK.int IntKind.i32] (lapp [CK.bool] (lapp [CK.int IntKind.u8] []))) =
 List.getD [[IV.int IntKind.i32 (0 : Int), IV.bool false, IV.int .u8 0]] (0 : Int).toNat [] ∧ (0 : Int) ≤ 0 ∧ (0 : Int) < (↑(List.length [(0 : UInt8)]) : Int) ∧ (((↑(UInt8.toNat (List.getD [(0 : UInt8)] (0 : Int).toNat (0 : UInt8))) : Int) != 0) = true → (0 : Int) ≤ 0) ∧ (((↑(UInt8.toNat (List.getD [(0 : UInt8)] (0 : Int).toNat (0 : UInt8))) : Int) != 0) = true → (0 : Int) < (↑(List.length [(0 : UInt8)]) : Int)) ∧ (decide ((↑(List.length [(0 : UInt8)]) : Int) > 0) = true → (0 : Int) ≤ IntKind.wrap .i64 ((↑(List.length [(0 : UInt8)]) : Int) - 1)) ∧ (decide ((↑(List.length [(0 : UInt8)]) : Int) > 0) = true → IntKind.wrap .i64 ((↑(List.length [(0 : UInt8)]) : Int) - 1) < (↑(List.length [(0 : UInt8)]) : Int)) ∧ ((!decide (([] : List UInt8) = [])) = false → okB [] [] [] [] [] [] []) ∧ ((!decide (([] : List UInt8) = [])) = false → okB [] [] [] [] [] [] []) ∧ (1 : Int) ≤ Hd.v Q1 ∧ Hd.v Q1 ≤ 4 ∧ okH (Hd.mk (Hd.v Q1) (Hd.iu Q1) (Hd.is Q1) (Hd.l Q1) (Hd.t Q1) (Hd.ty Q1) (Hd.c Q1)) ∧ Y27.okE [] [] [[IV.int IntKind.i32 (0 : Int), IV.bool false, IV.int .u8 0]] [(0 : UInt8)] [] [] [] ∧ sz48 (4 : Int) ∧ (List.length Q2 + List.length Q3) * 1 ≤ 140737488355328 ∧ List.length Q2 + List.length Q3 ≤
 140737488355328 ∧ K [AV.new (IV.bytes (Q2 ++ Q3)), i64 0]) := by kernel_rfl
theorem g20_two (K : List AV → Prop) : evSpec LS Tryz.f20 [fileTwo] K = (let Q1 : Hd := (hdOf [] [[IV.int IntKind.i32 (0 : Int), IV.bool false, IV.int .u8 0]] [(0 : UInt8)] [] [] [] (2 : Int)); let Q2 : List UInt8 := (hdB (Hd.mk (Hd.v Q1) (Hd.iu Q1) (Hd.is Q1) (Hd.l Q1) (Hd.t Q1) (Hd.ty Q1) (Hd.c Q1))); let Q3 : List UInt8 := (encB [] [] (tys [[IV.int IntKind.i32 (0 : Int), IV.bool false, IV.int .u8 0]]) [(0 : UInt8)] (lps []) [] [] (4 : Int).toNat); let Q4 : List UInt8 := (encB [] [] (tys [[IV.int IntKind.i32 (0 : Int), IV.bool false, IV.int .u8 0]]) [(0 : UInt8)] (lps []) [] [] (8 : Int).toNat); sz48 (4 : Int) ∧ (↑([] : List UInt8).length : Int) ≤ big ∧ (0 : Int) ≤ 0 ∧ (0 : Int) < (↑(List.length [[IV.int IntKind.i32 (0 : Int), IV.bool false, IV.int .u8 0]]) : Int) ∧ kcells (List.getD [[IV.int IntKind.i32 (0 : Int), IV.bool false, IV.int .u8 0]] (0 : Int).toNat []) 0 (lapp [CK.int IntKind.i32] (lapp [CK.bool] (lapp [CK.int IntKind.u8] []))) = List.getD [[IV.int IntKind.i32 (0 : Int), IV.bool false, IV.int .u8 0]] (0 : Int).toNat [] ∧ (0 : Int) ≤ 0 ∧ (0 : Int) < (↑(List.length [[IV.int IntKind.i32 (0 : Int), IV.bool false, IV.int .u8 0]]) : Int) ∧ kcells (List.getD [[IV.int
 IntKind.i32 (0 : Int), IV.bool false, IV.int .u8 0]] (0 : Int).toNat []) 0 (lapp [CK.int IntKind.i32] (lapp [CK.bool] (lapp [CK.int IntKind.u8] []))) = List.getD [[IV.int IntKind.i32 (0 : Int), IV.bool false, IV.int .u8 0]] (0 : Int).toNat [] ∧ (0 : Int) ≤ 0 ∧ (0 : Int) < (↑(List.length [(0 : UInt8)]) : Int) ∧ (((↑(UInt8.toNat (List.getD [(0 : UInt8)] (0 : Int).toNat (0 : UInt8))) : Int) != 0) = true → (0 : Int) ≤ 0) ∧ (((↑(UInt8.toNat (List.getD [(0 : UInt8)] (0 : Int).toNat (0 : UInt8))) : Int) != 0) = true → (0 : Int) < (↑(List.length [(0 : UInt8)]) : Int)) ∧ (decide ((↑(List.length [(0 : UInt8)]) : Int) > 0) = true → (0 : Int) ≤ IntKind.wrap .i64 ((↑(List.length [(0 : UInt8)]) : Int) - 1)) ∧ (decide ((↑(List.length [(0 : UInt8)]) : Int) > 0) = true → IntKind.wrap .i64 ((↑(List.length [(0 : UInt8)]) : Int) - 1) < (↑(List.length [(0 : UInt8)]) : Int)) ∧ sz48 (8 : Int) ∧ (↑([] : List UInt8).length : Int) ≤ big ∧ (0 : Int) ≤ 0 ∧ (0 : Int) < (↑(List.length [[IV.int IntKind.i32 (0 : Int), IV.bool false, IV.int .u8 0]]) : Int) ∧ kcells (List.getD [[IV.int IntKind.i32 (0 : Int), IV.bool false, IV.int .u8 0]] (0 : Int).toNat []) 0 (lapp [CK.int IntKind.i32] (lapp [CK.bool] (lapp [CK.int
 IntKind.u8] []))) = List.getD [[IV.int IntKind.i32 (0 : Int), IV.bool false, IV.int .u8 0]] (0 : Int).toNat [] ∧ (0 : Int) ≤ 0 ∧ (0 : Int) < (↑(List.length [[IV.int IntKind.i32 (0 : Int), IV.bool false, IV.int .u8 0]]) : Int) ∧ kcells (List.getD [[IV.int IntKind.i32 (0 : Int), IV.bool false, IV.int .u8 0]] (0 : Int).toNat []) 0 (lapp [CK.int IntKind.i32] (lapp [CK.bool] (lapp [CK.int IntKind.u8] []))) = List.getD [[IV.int IntKind.i32 (0 : Int), IV.bool false, IV.int .u8 0]] (0 : Int).toNat [] ∧ (0 : Int) ≤ 0 ∧ (0 : Int) < (↑(List.length [(0 : UInt8)]) : Int) ∧ (((↑(UInt8.toNat (List.getD [(0 : UInt8)] (0 : Int).toNat (0 : UInt8))) : Int) != 0) = true → (0 : Int) ≤ 0) ∧ (((↑(UInt8.toNat (List.getD [(0 : UInt8)] (0 : Int).toNat (0 : UInt8))) : Int) != 0) = true → (0 : Int) < (↑(List.length [(0 : UInt8)]) : Int)) ∧ (decide ((↑(List.length [(0 : UInt8)]) : Int) > 0) = true → (0 : Int) ≤ IntKind.wrap .i64 ((↑(List.length [(0 : UInt8)]) : Int) - 1)) ∧ (decide ((↑(List.length [(0 : UInt8)]) : Int) > 0) = true → IntKind.wrap .i64 ((↑(List.length [(0 : UInt8)]) : Int) - 1) < (↑(List.length [(0 : UInt8)]) : Int)) ∧ (decide ((↑(List.length [(85 : UInt8), (84 : UInt8), (67 : UInt8), (48 :
 UInt8)]) : Int) > 0) = true → (0 : Int) ≤ 0) ∧ (decide ((↑(List.length [(85 : UInt8), (84 : UInt8), (67 : UInt8), (48 : UInt8)]) : Int) > 0) = true → (0 : Int) < (↑(List.length [(85 : UInt8), (84 : UInt8), (67 : UInt8), (48 : UInt8)]) : Int)) ∧ (decide ((0 : Int) < (↑(List.length [(85 : UInt8), (84 : UInt8), (67 : UInt8), (48 : UInt8)]) : Int)) = true → (0 : Int) ≤ 0) ∧ (decide ((0 : Int) < (↑(List.length [(85 : UInt8), (84 : UInt8), (67 : UInt8), (48 : UInt8)]) : Int)) = true → (0 : Int) < (↑(List.length [(85 : UInt8), (84 : UInt8), (67 : UInt8), (48 : UInt8)]) : Int)) ∧ (decide ((1 : Int) < (↑(List.length [(85 : UInt8), (84 : UInt8), (67 : UInt8), (48 : UInt8)]) : Int)) = true → (0 : Int) ≤ 1) ∧ (decide ((1 : Int) < (↑(List.length [(85 : UInt8), (84 : UInt8), (67 : UInt8), (48 : UInt8)]) : Int)) = true → (1 : Int) < (↑(List.length [(85 : UInt8), (84 : UInt8), (67 : UInt8), (48 : UInt8)]) : Int)) ∧ (decide ((2 : Int) < (↑(List.length [(85 : UInt8), (84 : UInt8), (67 : UInt8), (48 : UInt8)]) : Int)) = true → (0 : Int) ≤ 2) ∧ (decide ((2 : Int) < (↑(List.length [(85 : UInt8), (84 : UInt8), (67 : UInt8), (48 : UInt8)]) : Int)) = true → (2 : Int) < (↑(List.length [(85 : UInt8), (84 :
 UInt8), (67 : UInt8), (48 : UInt8)]) : Int)) ∧ (decide ((3 : Int) < (↑(List.length [(85 : UInt8), (84 : UInt8), (67 : UInt8), (48 : UInt8)]) : Int)) = true → (0 : Int) ≤ 3) ∧ (decide ((3 : Int) < (↑(List.length [(85 : UInt8), (84 : UInt8), (67 : UInt8), (48 : UInt8)]) : Int)) = true → (3 : Int) < (↑(List.length [(85 : UInt8), (84 : UInt8), (67 : UInt8), (48 : UInt8)]) : Int)) ∧ (0 : Int) ≤ 3 ∧ (3 : Int) ≤ (↑(List.length [(85 : UInt8), (84 : UInt8), (67 : UInt8), (48 : UInt8)]) : Int) ∧ (0 : Int) ≤ 0 ∧ (0 : Int) < (↑(List.take ((3 : Int).toNat - 0) (List.drop 0 [(85 : UInt8), (84 : UInt8), (67 : UInt8), (48 : UInt8)])).length : Int) ∧ (0 : Int) ≤ 1 ∧ (1 : Int) < (↑(List.take ((3 : Int).toNat - 0) (List.drop 0 [(85 : UInt8), (84 : UInt8), (67 : UInt8), (48 : UInt8)])).length : Int) ∧ (0 : Int) ≤ 2 ∧ (2 : Int) < (↑(List.take ((3 : Int).toNat - 0) (List.drop 0 [(85 : UInt8), (84 : UInt8), (67 : UInt8), (48 : UInt8)])).length : Int) ∧ (0 : Int) ≤ 3 ∧ (3 : Int) ≤ (↑(List.length [(85 : UInt8), (84 : UInt8), (67 : UInt8), (48 : UInt8)]) : Int) ∧ (0 : Int) ≤ 3 ∧ (3 : Int) ≤ (↑(List.length [(85 : UInt8), (84 : UInt8), (67 : UInt8), (48 : UInt8)]) : Int) ∧ (decide ((↑(List.take (List.length
 [(85 : UInt8), (84 : UInt8), (67 : UInt8), (48 : UInt8)] - (3 : Int).toNat) (List.drop (3 : Int).toNat [(85 : UInt8), (84 : UInt8), (67 : UInt8), (48 : UInt8)])).length : Int) > 0) = true → (0 : Int) ≤ 0) ∧ (decide ((↑(List.take (List.length [(85 : UInt8), (84 : UInt8), (67 : UInt8), (48 : UInt8)] - (3 : Int).toNat) (List.drop (3 : Int).toNat [(85 : UInt8), (84 : UInt8), (67 : UInt8), (48 : UInt8)])).length : Int) > 0) = true → (0 : Int) < (↑(List.take (List.length [(85 : UInt8), (84 : UInt8), (67 : UInt8), (48 : UInt8)] - (3 : Int).toNat) (List.drop (3 : Int).toNat [(85 : UInt8), (84 : UInt8), (67 : UInt8), (48 : UInt8)])).length : Int)) ∧ (decide ((↑(List.take (List.length [(85 : UInt8), (84 : UInt8), (67 : UInt8), (48 : UInt8)] - (3 : Int).toNat) (List.drop (3 : Int).toNat [(85 : UInt8), (84 : UInt8), (67 : UInt8), (48 : UInt8)])).length : Int) > 0) = true → ((↑(UInt8.toNat (List.getD (List.take (List.length [(85 : UInt8), (84 : UInt8), (67 : UInt8), (48 : UInt8)] - (3 : Int).toNat) (List.drop (3 : Int).toNat [(85 : UInt8), (84 : UInt8), (67 : UInt8), (48 : UInt8)])) (0 : Int).toNat (0 : UInt8))) : Int) == 43) = false → (0 : Int) ≤ 0) ∧ (decide ((↑(List.take (List.length [(85 :
 UInt8), (84 : UInt8), (67 : UInt8), (48 : UInt8)] - (3 : Int).toNat) (List.drop (3 : Int).toNat [(85 : UInt8), (84 : UInt8), (67 : UInt8), (48 : UInt8)])).length : Int) > 0) = true → ((↑(UInt8.toNat (List.getD (List.take (List.length [(85 : UInt8), (84 : UInt8), (67 : UInt8), (48 : UInt8)] - (3 : Int).toNat) (List.drop (3 : Int).toNat [(85 : UInt8), (84 : UInt8), (67 : UInt8), (48 : UInt8)])) (0 : Int).toNat (0 : UInt8))) : Int) == 43) = false → (0 : Int) < (↑(List.take (List.length [(85 : UInt8), (84 : UInt8), (67 : UInt8), (48 : UInt8)] - (3 : Int).toNat) (List.drop (3 : Int).toNat [(85 : UInt8), (84 : UInt8), (67 : UInt8), (48 : UInt8)])).length : Int)) ∧ (0 : Int) ≤ IntKind.wrap .i64 ((0 : Int) + 0) ∧ (0 : Int) ≤ IntKind.wrap .i64 ((0 : Int) + 0) ∧ IntKind.wrap .i64 ((0 : Int) + 0) < (↑(List.take (List.length [(85 : UInt8), (84 : UInt8), (67 : UInt8), (48 : UInt8)] - (3 : Int).toNat) (List.drop (3 : Int).toNat [(85 : UInt8), (84 : UInt8), (67 : UInt8), (48 : UInt8)])).length : Int) ∧ (0 : Int) ≤ IntKind.wrap .i64 ((0 : Int) + 1) ∧ (decide ((1 : Int) ≥ (↑(List.take (List.length [(85 : UInt8), (84 : UInt8), (67 : UInt8), (48 : UInt8)] - (3 : Int).toNat) (List.drop (3 : Int).toNat
 [(85 : UInt8), (84 : UInt8), (67 : UInt8), (48 : UInt8)])).length : Int)) = false → (0 : Int) ≤ 1) ∧ (decide ((1 : Int) ≥ (↑(List.take (List.length [(85 : UInt8), (84 : UInt8), (67 : UInt8), (48 : UInt8)] - (3 : Int).toNat) (List.drop (3 : Int).toNat [(85 : UInt8), (84 : UInt8), (67 : UInt8), (48 : UInt8)])).length : Int)) = false → (1 : Int) < (↑(List.take (List.length [(85 : UInt8), (84 : UInt8), (67 : UInt8), (48 : UInt8)] - (3 : Int).toNat) (List.drop (3 : Int).toNat [(85 : UInt8), (84 : UInt8), (67 : UInt8), (48 : UInt8)])).length : Int)) ∧ ((decide ((1 : Int) ≥ (↑(List.take (List.length [(85 : UInt8), (84 : UInt8), (67 : UInt8), (48 : UInt8)] - (3 : Int).toNat) (List.drop (3 : Int).toNat [(85 : UInt8), (84 : UInt8), (67 : UInt8), (48 : UInt8)])).length : Int)) || (↑(UInt8.toNat (List.getD (List.take (List.length [(85 : UInt8), (84 : UInt8), (67 : UInt8), (48 : UInt8)] - (3 : Int).toNat) (List.drop (3 : Int).toNat [(85 : UInt8), (84 : UInt8), (67 : UInt8), (48 : UInt8)])) (1 : Int).toNat (0 : UInt8))) : Int) != 58) = false → (0 : Int) ≤ IntKind.wrap .i64 ((1 : Int) + 1)) ∧ ((decide ((1 : Int) ≥ (↑(List.take (List.length [(85 : UInt8), (84 : UInt8), (67 : UInt8), (48 : UInt8)] -
 (3 : Int).toNat) (List.drop (3 : Int).toNat [(85 : UInt8), (84 : UInt8), (67 : UInt8), (48 : UInt8)])).length : Int)) || (↑(UInt8.toNat (List.getD (List.take (List.length [(85 : UInt8), (84 : UInt8), (67 : UInt8), (48 : UInt8)] - (3 : Int).toNat) (List.drop (3 : Int).toNat [(85 : UInt8), (84 : UInt8), (67 : UInt8), (48 : UInt8)])) (1 : Int).toNat (0 : UInt8))) : Int) != 58 || !digU (List.take (List.length [(85 : UInt8), (84 : UInt8), (67 : UInt8), (48 : UInt8)] - (3 : Int).toNat) (List.drop (3 : Int).toNat [(85 : UInt8), (84 : UInt8), (67 : UInt8), (48 : UInt8)])) (IntKind.wrap .i64 ((1 : Int) + 1))) = false → (0 : Int) ≤ IntKind.wrap .i64 ((1 : Int) + 2)) ∧ (0 : Int) ≤ 0 ∧ (0 : Int) < (↑(List.take (List.length [(85 : UInt8), (84 : UInt8), (67 : UInt8), (48 : UInt8)] - (3 : Int).toNat) (List.drop (3 : Int).toNat [(85 : UInt8), (84 : UInt8), (67 : UInt8), (48 : UInt8)])).length : Int) ∧ (1 : Int) ≤ Hd.v Q1 ∧ Hd.v Q1 ≤ 4 ∧ okH (Hd.mk (Hd.v Q1) (Hd.iu Q1) (Hd.is Q1) (Hd.l Q1) (Hd.t Q1) (Hd.ty Q1) (Hd.c Q1)) ∧ Y27.okE [] [] [[IV.int IntKind.i32 (0 : Int), IV.bool false, IV.int .u8 0]] [(0 : UInt8)] [] [] [] ∧ sz48 (4 : Int) ∧ (List.length Q2 + List.length Q3) * 1 ≤ 140737488355328 ∧
 List.length Q2 + List.length Q3 ≤ 140737488355328 ∧ (1 : Int) ≤ Hd.v Q1 ∧ Hd.v Q1 ≤ 4 ∧ okH (Hd.mk (Hd.v Q1) (Hd.iu Q1) (Hd.is Q1) (Hd.l Q1) (Hd.t Q1) (Hd.ty Q1) (Hd.c Q1)) ∧ ((Q2 ++ Q3).length + List.length Q2) * 1 ≤ 140737488355328 ∧ (Q2 ++ Q3).length + List.length Q2 ≤ 140737488355328 ∧ Y27.okE [] [] [[IV.int IntKind.i32 (0 : Int), IV.bool false, IV.int .u8 0]] [(0 : UInt8)] [] [] [] ∧ sz48 (8 : Int) ∧ ((Q2 ++ Q3 ++ Q2).length + List.length Q4) * 1 ≤ 140737488355328 ∧ (Q2 ++ Q3 ++ Q2).length + List.length Q4 ≤ 140737488355328 ∧ ((Q2 ++ Q3 ++ Q2 ++ Q4).length + (List.map u8 [(10 : Int)]).length) * 1 ≤ 140737488355328 ∧ (Q2 ++ Q3 ++ Q2 ++ Q4).length + (List.map u8 [(10 : Int)]).length ≤ 140737488355328 ∧ List.length [(85 : UInt8), (84 : UInt8), (67 : UInt8), (48 : UInt8)] ≤ 140737488355328 ∧ ((Q2 ++ Q3 ++ Q2 ++ Q4 ++ List.map u8 [(10 : Int)]).length + List.length [(85 : UInt8), (84 : UInt8), (67 : UInt8), (48 : UInt8)]) * 1 ≤ 140737488355328 ∧ (Q2 ++ Q3 ++ Q2 ++ Q4 ++ List.map u8 [(10 : Int)]).length + List.length [(85 : UInt8), (84 : UInt8), (67 : UInt8), (48 : UInt8)] ≤ 140737488355328 ∧ ((Q2 ++ Q3 ++ Q2 ++ Q4 ++ List.map u8 [(10 : Int)] ++ [(85 : UInt8), (84 : UInt8), (67 :
 UInt8), (48 : UInt8)]).length + (List.map u8 [(10 : Int)]).length) * 1 ≤ 140737488355328 ∧ (Q2 ++ Q3 ++ Q2 ++ Q4 ++ List.map u8 [(10 : Int)] ++ [(85 : UInt8), (84 : UInt8), (67 : UInt8), (48 : UInt8)]).length + (List.map u8 [(10 : Int)]).length ≤ 140737488355328 ∧ K [AV.new (IV.bytes (Q2 ++ Q3 ++ Q2 ++ Q4 ++ List.map u8 [(10 : Int)] ++ [(85 : UInt8), (84 : UInt8), (67 : UInt8), (48 : UInt8)] ++ List.map u8 [(10 : Int)])), i64 0]) := by kernel_rfl
end Y27
set_option maxRecDepth 100000
namespace Y27
open Go Go.AE Go.Proofs E6
attribute [local irreducible] loopK evCode evSpec loopB norm
theorem ok14e : ∀ args pres res, sWB args = some (pres, res) → SpecOK Tryz.prog G16 14 args pres res := by
  intro args pres res h
  unfold sWB at h
  split at h
  case h_2 => cases h
  cases h
  rename_i b
  have okF11 : EOK Tryz.prog F11 G16 := addE_ok okF10 ok10e
  exact spec_ok (C := L9) okF11 noCall_ok Tryz.func14 (by kernel_rfl) (by kernel_rfl) (fun hp => by
    have hb : (b.length : Int) ≤ big' := hp _ (by simp)
    have hb' : big' = 1000000000000 := rfl
    exact Eq.mpr (g14_in b _) ⟨hb, by omega, by omega, rfl⟩)
theorem okF11 : EOK Tryz.prog F11 G16 := addE_ok okF10 ok10e
theorem ok112e : ∀ args pres res, sAlw args = some (pres, res) → SpecOK Tryz.prog G16 112 args pres res := by
  intro args pres res h
  unfold sAlw at h
  split at h
  case h_2 => cases h
  cases h
  exact spec_ok (C := LX) okF11 noCall_ok Tryz.func112 (by kernel_rfl) (by kernel_rfl) (fun hp => Eq.mpr (g112_in _ _) rfl)
theorem ok131e : ∀ args pres res, sAlpha args = some (pres, res) → SpecOK Tryz.prog G16 131 args pres res := by
  intro args pres res h
  unfold sAlpha at h
  split at h
  case h_2 => cases h
  cases h
  exact spec_ok (C := LX) okF11 noCall_ok Tryz.func131 (by kernel_rfl) (by kernel_rfl) (fun hp => Eq.mpr (g131_in _ _) rfl)
theorem ok115e : ∀ args pres res, sDig args = some (pres, res) → SpecOK Tryz.prog G16 115 args pres res := by
  intro args pres res h
  unfold sDig at h
  split at h
  case h_2 => cases h
  cases h
  rename_i s i
  exact spec_ok (C := LX) okF11 noCall_ok Tryz.func115 (by kernel_rfl) (by kernel_rfl) (fun hp => by
    have hi : 0 ≤ i := hp _ (by simp)
    exact Eq.mpr (g115_in s i _) ⟨fun _ => hi, fun h => of_decide_eq_true h, fun _ => hi, fun h => of_decide_eq_true ((Bool.and_eq_true _ _).mp h).1, rfl⟩)
theorem ok96e : ∀ args pres res, sIn9 args = some (pres, res) → SpecOK Tryz.prog G16 96 args pres res := by
  intro args pres res h
  unfold sIn9 at h
  split at h
  case h_2 => cases h
  cases h
  exact spec_ok (C := LX) okF11 noCall_ok Tryz.func96 (by kernel_rfl) (by kernel_rfl) (fun hp => Eq.mpr (g96_in _ _) rfl)
theorem ok99e : ∀ args pres res, sLate args = some (pres, res) → SpecOK Tryz.prog G16 99 args pres res := by
  intro args pres res h
  unfold sLate at h
  split at h
  case h_2 => cases h
  cases h
  exact spec_ok (C := LX) okF11 noCall_ok Tryz.func99 (by kernel_rfl) (by kernel_rfl) (fun hp => Eq.mpr (g99_in _ _ _ _ _ _ _) rfl)
theorem okF12 : EOK Tryz.prog F12 G16 := addE_ok (addE_ok (addE_ok (addE_ok (addE_ok (addE_ok okF11 ok14e) ok112e) ok131e) ok115e) ok96e) ok99e
theorem ok68e : ∀ args pres res, sExt args = some (pres, res) → SpecOK Tryz.prog G16 68 args pres res := by
  intro args pres res h
  unfold sExt at h
  split at h
  case h_2 => cases h
  cases h
  exact spec_ok (C := LY) okF12 noCall_ok Tryz.func68 (by kernel_rfl) (by kernel_rfl) (fun hp => Eq.mpr (g68_in _ _ _ _ _ _ _ _ _ _ _ _ _ _ _ _ _ _) rfl)
theorem okF13 : EOK Tryz.prog F13 G16 := addE_ok okF12 ok68e
def slimB (n : Nat) : List UInt8 := encB [] [] [⟨0, false, 0⟩] [0] [] [] [] n
def slimH (v : Int) : List UInt8 := hdB ⟨v, 0, 0, 0, 0, 1, 1⟩
def serOne : List UInt8 := slimH 1 ++ slimB 4
def serTwo : List UInt8 := slimH 2 ++ slimB 4 ++ slimH 2 ++ slimB 8 ++ [10] ++ [85, 84, 67, 48] ++ [10]
theorem okE_slim : okE [] [] [[.int .i32 0, .bool false, .int .u8 0]] [0] [] [] [] := by
  refine ⟨⟨rfl, fun t ht => ?_⟩, ⟨rfl, fun t ht => by cases ht⟩, by decide, by decide, by decide, by decide, by decide, by decide, by decide⟩
  have : t = ⟨0, false, 0⟩ := by simpa [tys, tyOf, ivInt, ivBool, ivNth] using ht
  subst this
  unfold okTy
  decide
theorem okB_zero : okB [] [] [] [] [] [] [] := by
  refine ⟨⟨rfl, fun t ht => by cases ht⟩, ⟨rfl, fun t ht => by cases ht⟩, ?_⟩
  decide
theorem okH_slim (v : Int) : okH ⟨v, (hdOf [] [[.int .i32 0, .bool false, .int .u8 0]] [0] [] [] [] v).iu, (hdOf [] [[.int .i32 0, .bool false, .int .u8 0]] [0] [] [] [] v).is, (hdOf [] [[.int .i32 0, .bool false, .int .u8 0]] [0] [] [] [] v).l, (hdOf [] [[.int .i32 0, .bool false, .int .u8 0]] [0] [] [] [] v).t, (hdOf [] [[.int .i32 0, .bool false, .int .u8 0]] [0] [] [] [] v).ty, (hdOf [] [[.int .i32 0, .bool false, .int .u8 0]] [0] [] [] [] v).c⟩ := by
  have k : ∀ n : Nat, n ≤ 1 → U32 (u32w n) := fun n hn => by
    have : n = 0 ∨ n = 1 := by omega
    rcases this with rfl | rfl
    · exact ⟨by decide, by decide⟩
    · exact ⟨by decide, by decide⟩
  exact ⟨k _ (by decide), k _ (by decide), k _ (by decide), k _ (by decide), k _ (by decide), k _ (by decide)⟩
theorem g20_1 (K : List AV → Prop) (hK : K [.new (.bytes serOne), i64 0]) : evSpec LS Tryz.f20 [fileOne] K := by
  refine Eq.mpr (g20_one K) ?_
  have e1 : okH _ := okH_slim 1
  intro Q1 Q2 Q3
  repeat' (first | exact hK | exact e1 | exact okE_slim | apply And.intro | (intro _; exact okB_zero) | exact sz4 | exact sz8 | exact of_decide_eq_true (by kernel_rfl) | rfl | (intro _; exact of_decide_eq_true (by kernel_rfl)))
theorem g20_2 (K : List AV → Prop) (hK : K [.new (.bytes serTwo), i64 0]) : evSpec LS Tryz.f20 [fileTwo] K := by
  refine Eq.mpr (g20_two K) ?_
  have e1 : okH _ := okH_slim 2
  intro Q1 Q2 Q3 Q4
  repeat' (first | exact hK | exact e1 | exact okE_slim | apply And.intro | (intro _; exact okB_zero) | exact sz4 | exact sz8 | exact of_decide_eq_true (by kernel_rfl) | rfl | (intro _; exact of_decide_eq_true (by kernel_rfl)))
end Y27
set_option maxRecDepth 100000
namespace Y27
open Go Go.AE Go.Proofs E6
def isSlim (T : List Int) (I : List UInt8) (X : List (List IV)) (C : List UInt8) (L : List (List IV)) (S U : List Bool) : Bool := decide (T = []) && (decide (I = []) && (decide (tys X = [⟨0, false, 0⟩]) && (decide (C = [0]) && (decide (L.length = 0) && (decide (S = []) && decide (U = []))))))
def isZero (T : List Int) (I : List UInt8) (X : List (List IV)) (C : List UInt8) (L : List (List IV)) (S U : List Bool) : Bool := decide (T = []) && (decide (I = []) && (decide (X.length = 0) && (decide (C = []) && (decide (L.length = 0) && (decide (S = []) && decide (U = []))))))
def sSer : List AV → Option (List Prop × List AV)
  | [.agg [.imm (.int .i64 v), .imm (.ints .i64 T), .imm (.bytes I), .imm (.sl 3 X), .imm (.bytes C), .imm (.sl 2 L), .imm (.bools S), .imm (.bools U), .imm (.ints .i64 T'), .imm (.bytes I'), .imm (.sl 3 X'), .imm (.bytes C'), .imm (.sl 2 L'), .imm (.bools S'), .imm (.bools U'), .imm (.str f)]] =>
    bif decide (v = 1) && (isSlim T I X C L S U && (isZero T' I' X' C' L' S' U' && decide (f = []))) then some ([okT X], [.new (.bytes serOne), i64 0])
    else bif decide (v = 2) && (isSlim T I X C L S U && (isSlim T' I' X' C' L' S' U' && decide (f = [85, 84, 67, 48]))) then some ([okT X, okT X'], [.new (.bytes serTwo), i64 0]) else none
  | _ => none
def sAwake : List AV → Option (List Prop × List AV)
  | [] => some ([], [bo true])
  | _ => none
theorem slim_elim {T : List Int} {I : List UInt8} {X : List (List IV)} {C : List UInt8} {L : List (List IV)} {S U : List Bool} (h : isSlim T I X C L S U = true) (hX : okT X) : T = [] ∧ I = [] ∧ X = [[.int .i32 0, .bool false, .int .u8 0]] ∧ C = [0] ∧ L = [] ∧ S = [] ∧ U = [] := by
  unfold isSlim at h
  simp only [Bool.and_eq_true, decide_eq_true_eq] at h
  obtain ⟨h1, h2, h3, h4, h5, h6, h7⟩ := h
  refine ⟨h1, h2, ?_, h4, List.length_eq_zero_iff.1 h5, h6, h7⟩
  have := hX.1
  rw [h3] at this
  exact this
theorem zero_elim {T : List Int} {I : List UInt8} {X : List (List IV)} {C : List UInt8} {L : List (List IV)} {S U : List Bool} (h : isZero T I X C L S U = true) : T = [] ∧ I = [] ∧ X = [] ∧ C = [] ∧ L = [] ∧ S = [] ∧ U = [] := by
  unfold isZero at h
  simp only [Bool.and_eq_true, decide_eq_true_eq] at h
  obtain ⟨h1, h2, h3, h4, h5, h6, h7⟩ := h
  exact ⟨h1, h2, List.length_eq_zero_iff.1 h3, h4, List.length_eq_zero_iff.1 h5, h6, h7⟩
theorem IS_ok : ∀ f fn, IS f = some fn → Tryz.prog.funcs[f]? = some fn ∧ (fn.name == "runtime.NumGoroutine") = false := by
  intro f fn h
  unfold IS at h
  by_cases h19 : Nat.beq f 19 = true
  · rw [h19, cond_true] at h; cases h; obtain rfl := nbeq h19; exact ⟨Tryz.func19, by kernel_rfl⟩
  rw [Bool.eq_false_iff.2 h19, cond_false] at h
  by_cases h37 : Nat.beq f 37 = true
  · rw [h37, cond_true] at h; cases h; obtain rfl := nbeq h37; exact ⟨Tryz.func37, by kernel_rfl⟩
  rw [Bool.eq_false_iff.2 h37, cond_false] at h
  by_cases h39 : Nat.beq f 39 = true
  · rw [h39, cond_true] at h; cases h; obtain rfl := nbeq h39; exact ⟨Tryz.func39, by kernel_rfl⟩
  rw [Bool.eq_false_iff.2 h39, cond_false] at h
  by_cases h57 : Nat.beq f 57 = true
  · rw [h57, cond_true] at h; cases h; obtain rfl := nbeq h57; exact ⟨Tryz.func57, by kernel_rfl⟩
  rw [Bool.eq_false_iff.2 h57, cond_false] at h
  by_cases h58 : Nat.beq f 58 = true
  · rw [h58, cond_true] at h; cases h; obtain rfl := nbeq h58; exact ⟨Tryz.func58, by kernel_rfl⟩
  rw [Bool.eq_false_iff.2 h58, cond_false] at h
  by_cases h59 : Nat.beq f 59 = true
  · rw [h59, cond_true] at h; cases h; obtain rfl := nbeq h59; exact ⟨Tryz.func59, by kernel_rfl⟩
  rw [Bool.eq_false_iff.2 h59, cond_false] at h
  by_cases h60 : Nat.beq f 60 = true
  · rw [h60, cond_true] at h; cases h; obtain rfl := nbeq h60; exact ⟨Tryz.func60, by kernel_rfl⟩
  rw [Bool.eq_false_iff.2 h60, cond_false] at h
  by_cases h61 : Nat.beq f 61 = true
  · rw [h61, cond_true] at h; cases h; obtain rfl := nbeq h61; exact ⟨Tryz.func61, by kernel_rfl⟩
  rw [Bool.eq_false_iff.2 h61, cond_false] at h
  by_cases h67 : Nat.beq f 67 = true
  · rw [h67, cond_true] at h; cases h; obtain rfl := nbeq h67; exact ⟨Tryz.func67, by kernel_rfl⟩
  rw [Bool.eq_false_iff.2 h67, cond_false] at h
  by_cases h92 : Nat.beq f 92 = true
  · rw [h92, cond_true] at h; cases h; obtain rfl := nbeq h92; exact ⟨Tryz.func92, by kernel_rfl⟩
  rw [Bool.eq_false_iff.2 h92, cond_false] at h
  by_cases h93 : Nat.beq f 93 = true
  · rw [h93, cond_true] at h; cases h; obtain rfl := nbeq h93; exact ⟨Tryz.func93, by kernel_rfl⟩
  rw [Bool.eq_false_iff.2 h93, cond_false] at h
  by_cases h94 : Nat.beq f 94 = true
  · rw [h94, cond_true] at h; cases h; obtain rfl := nbeq h94; exact ⟨Tryz.func94, by kernel_rfl⟩
  rw [Bool.eq_false_iff.2 h94, cond_false] at h
  by_cases h95 : Nat.beq f 95 = true
  · rw [h95, cond_true] at h; cases h; obtain rfl := nbeq h95; exact ⟨Tryz.func95, by kernel_rfl⟩
  rw [Bool.eq_false_iff.2 h95, cond_false] at h
  by_cases h113 : Nat.beq f 113 = true
  · rw [h113, cond_true] at h; cases h; obtain rfl := nbeq h113; exact ⟨Tryz.func113, by kernel_rfl⟩
  rw [Bool.eq_false_iff.2 h113, cond_false] at h
  by_cases h114 : Nat.beq f 114 = true
  · rw [h114, cond_true] at h; cases h; obtain rfl := nbeq h114; exact ⟨Tryz.func114, by kernel_rfl⟩
  rw [Bool.eq_false_iff.2 h114, cond_false] at h
  by_cases h116 : Nat.beq f 116 = true
  · rw [h116, cond_true] at h; cases h; obtain rfl := nbeq h116; exact ⟨Tryz.func116, by kernel_rfl⟩
  rw [Bool.eq_false_iff.2 h116, cond_false] at h
  cases h
attribute [local irreducible] loopK evCode evSpec loopB norm
theorem ok20s : ∀ args pres res, sSer args = some (pres, res) → SpecOK Tryz.prog G16 20 args pres res := by
  intro args pres res h
  unfold sSer at h
  split at h
  case h_2 => cases h
  rename_i v T I X C L S U T' I' X' C' L' S' U' f
  by_cases h1 : (decide (v = 1) && (isSlim T I X C L S U && (isZero T' I' X' C' L' S' U' && decide (f = [])))) = true
  · rw [h1, cond_true] at h
    cases h
    simp only [Bool.and_eq_true, decide_eq_true_eq] at h1
    obtain ⟨hv, hs, hz, hf⟩ := h1
    refine spec_ok (C := LS) okF13 (inl_ok okF13 IS_ok 8) Tryz.func20 (by kernel_rfl) (by kernel_rfl) (fun hp => ?_)
    obtain ⟨rfl, rfl, rfl, rfl, rfl, rfl, rfl⟩ := slim_elim hs (hp _ (by simp))
    obtain ⟨rfl, rfl, rfl, rfl, rfl, rfl, rfl⟩ := zero_elim hz
    subst hv hf
    exact g20_1 _ rfl
  · rw [Bool.eq_false_iff.2 h1, cond_false] at h
    by_cases h2 : (decide (v = 2) && (isSlim T I X C L S U && (isSlim T' I' X' C' L' S' U' && decide (f = [85, 84, 67, 48])))) = true
    · rw [h2, cond_true] at h
      cases h
      simp only [Bool.and_eq_true, decide_eq_true_eq] at h2
      obtain ⟨hv, hs, hz, hf⟩ := h2
      refine spec_ok (C := LS) okF13 (inl_ok okF13 IS_ok 8) Tryz.func20 (by kernel_rfl) (by kernel_rfl) (fun hp => ?_)
      obtain ⟨rfl, rfl, rfl, rfl, rfl, rfl, rfl⟩ := slim_elim hs (hp _ (by simp))
      obtain ⟨rfl, rfl, rfl, rfl, rfl, rfl, rfl⟩ := slim_elim hz (hp _ (by simp))
      subst hv hf
      exact g20_2 _ rfl
    · rw [Bool.eq_false_iff.2 h2, cond_false] at h
      cases h
def F14 := addE F13 20 sSer
theorem okF14 : EOK Tryz.prog F14 G16 := addE_ok okF13 ok20s
noncomputable def LA : Cx := ⟨Tryz.prog, F14, noCall, G16, 4007⟩
end Y27
set_option maxRecDepth 100000
namespace Y27
open Go Go.AE Go.Proofs E6
attribute [local irreducible] loopK evCode evSpec loopB norm
theorem g8_in (K : List AV → Prop) : evSpec LA Tryz.f8 [] K = (let Q1 : Int × Int := (measU serOne); let Q2 : Int × Int := (measU serTwo); let Q3 : List UInt8 := (hdB (Hd.mk (2 : Int) (0 : Int) (0 : Int) (0 : Int) (4294967295 : Int) (1 : Int) (1 : Int))); let Q4 : Int × Int := (measU Q3); let Q5 : Int × Int := (measU []); (0 : Int) ≤ 1 ∧ (1 : Int) ≤ 1 ∧ (↑8 : Int) * 1 ≤ 140737488355328 ∧ (1 : Int) ≤ 140737488355328 ∧ okT [[IV.int IntKind.i32 (0 : Int), IV.bool false, IV.int .u8 0]] ∧ okT [[IV.int IntKind.i32 (0 : Int), IV.bool false, IV.int .u8 0]] ∧ okT [[IV.int IntKind.i32 (0 : Int), IV.bool false, IV.int .u8 0]] ∧ (1 : Int) ≤ 2 ∧ (2 : Int) ≤ 4 ∧ okH (Hd.mk (2 : Int) (0 : Int) (0 : Int) (0 : Int) (4294967295 : Int) (1 : Int) (1 : Int)) ∧ (↑(List.length serOne) : Int) ≤ big' ∧ ((Prod.fst Q1 == 2 && (Prod.snd Q1 == 8 && true)) = true → (↑(List.length serTwo) : Int) ≤ big') ∧ ((Prod.fst Q1 == 2 && (Prod.snd Q1 == 8 && true) && (Prod.fst Q2 == 8 && (Prod.snd Q2 == 20 && true))) = true → (↑(List.length Q3) : Int) ≤ big') ∧ ((Prod.fst Q1 == 2 && (Prod.snd Q1 == 8 && true) && (Prod.fst Q2 == 8 && (Prod.snd Q2 == 20 && true)) && (Prod.fst Q4 == 0 && (Prod.snd Q4 == 6 && true))) = true →
 (↑([] : List UInt8).length : Int) ≤ big') ∧ ((Prod.fst Q1 == 2 && (Prod.snd Q1 == 8 && true) && (Prod.fst Q2 == 8 && (Prod.snd Q2 == 20 && true)) && (Prod.fst Q4 == 0 && (Prod.snd Q4 == 6 && true)) && (Prod.fst Q5 == 0 && (Prod.snd Q5 == 0 && true))) = true → (0 : Int) ≤ 10) ∧ ((Prod.fst Q1 == 2 && (Prod.snd Q1 == 8 && true) && (Prod.fst Q2 == 8 && (Prod.snd Q2 == 20 && true)) && (Prod.fst Q4 == 0 && (Prod.snd Q4 == 6 && true)) && (Prod.fst Q5 == 0 && (Prod.snd Q5 == 0 && true))) = true → (10 : Int) ≤ 1099511627776) ∧ ((Prod.fst Q1 == 2 && (Prod.snd Q1 == 8 && true) && (Prod.fst Q2 == 8 && (Prod.snd Q2 == 20 && true)) && (Prod.fst Q4 == 0 && (Prod.snd Q4 == 6 && true)) && (Prod.fst Q5 == 0 && (Prod.snd Q5 == 0 && true)) && ((4 : Int) * 10 + 64 == 104 && ((16 : Int) * 10 + 64 == 224 && true))) = true → (↑(List.length serTwo) : Int) ≤ big') ∧ ((Prod.fst Q1 == 2 && (Prod.snd Q1 == 8 && true) && (Prod.fst Q2 == 8 && (Prod.snd Q2 == 20 && true)) && (Prod.fst Q4 == 0 && (Prod.snd Q4 == 6 && true)) && (Prod.fst Q5 == 0 && (Prod.snd Q5 == 0 && true)) && ((4 : Int) * 10 + 64 == 104 && ((16 : Int) * 10 + 64 == 224 && true)) && wbU serTwo) = true → okH (Hd.mk (0 : Int) (0 : Int) (0 : Int) (0 :
 Int) (4294967295 : Int) (3 : Int) (0 : Int))) ∧ K [bo (Prod.fst Q1 == 2 && (Prod.snd Q1 == 8 && true) && (Prod.fst Q2 == 8 && (Prod.snd Q2 == 20 && true)) && (Prod.fst Q4 == 0 && (Prod.snd Q4 == 6 && true)) && (Prod.fst Q5 == 0 && (Prod.snd Q5 == 0 && true)) && ((4 : Int) * 10 + 64 == 104 && ((16 : Int) * 10 + 64 == 224 && true)) && wbU serTwo && elems (Hd.mk (0 : Int) (0 : Int) (0 : Int) (0 : Int) (4294967295 : Int) (3 : Int) (0 : Int)) == 8589934593)]) := by kernel_rfl
end Y27
set_option maxRecDepth 100000
namespace Y27
open Go Go.AE Go.Proofs E6
attribute [local irreducible] loopK evCode evSpec loopB norm
theorem g8_ev (K : List AV → Prop) (hK : K [bo true]) : evSpec LA Tryz.f8 [] K := by
  refine Eq.mpr (g8_in K) ?_
  have kX : okT [[.int .i32 0, .bool false, .int .u8 0]] := okE_slim.1
  have kH : okH ⟨2, 0, 0, 0, 4294967295, 1, 1⟩ := by
    refine ⟨⟨?_, ?_⟩, ⟨?_, ?_⟩, ⟨?_, ?_⟩, ⟨?_, ?_⟩, ⟨?_, ?_⟩, ⟨?_, ?_⟩⟩ <;> decide
  have kG : okH ⟨0, 0, 0, 0, 4294967295, 3, 0⟩ := by
    refine ⟨⟨?_, ?_⟩, ⟨?_, ?_⟩, ⟨?_, ?_⟩, ⟨?_, ?_⟩, ⟨?_, ?_⟩, ⟨?_, ?_⟩⟩ <;> decide
  have d1 : (serOne.length : Int) ≤ big' := of_decide_eq_true (by kernel_rfl)
  have d2 : (serTwo.length : Int) ≤ big' := of_decide_eq_true (by kernel_rfl)
  have d3 : ((hdB ⟨2, 0, 0, 0, 4294967295, 1, 1⟩).length : Int) ≤ big' := of_decide_eq_true (by kernel_rfl)
  have d4 : (([] : List UInt8).length : Int) ≤ big' := of_decide_eq_true (by kernel_rfl)
  have hb : ((measU serOne).1 == (2 : Int) && ((measU serOne).2 == (8 : Int) && true) && ((measU serTwo).1 == (8 : Int) && ((measU serTwo).2 == (20 : Int) && true)) && ((measU (hdB ⟨2, 0, 0, 0, 4294967295, 1, 1⟩)).1 == (0 : Int) && ((measU (hdB ⟨2, 0, 0, 0, 4294967295, 1, 1⟩)).2 == (6 : Int) && true)) && ((measU []).1 == (0 : Int) && ((measU []).2 == (0 : Int) && true)) &&
      ((4 : Int) * (10 : Int) + (64 : Int) == (104 : Int) && ((16 : Int) * (10 : Int) + (64 : Int) == (224 : Int) && true)) && wbU serTwo && elems ⟨0, 0, 0, 0, 4294967295, 3, 0⟩ == (8589934593 : Int)) = true := by kernel_rfl
  intro Q1 Q2 Q3 Q4 Q5
  refine ⟨by decide, by decide, by decide, by decide, kX, kX, kX, by decide, by decide, kH, d1, fun _ => d2, fun _ => d3, fun _ => d4, fun _ => by decide, fun _ => by decide, fun _ => d2, fun _ => kG, ?_⟩
  exact Eq.mpr (congrArg (fun b => K [.imm (.bool b)]) hb) hK
theorem ok8a : ∀ args pres res, sAwake args = some (pres, res) → SpecOK Tryz.prog G16 8 args pres res := by
  intro args pres res h
  unfold sAwake at h
  split at h
  case h_2 => cases h
  cases h
  exact spec_ok (C := LA) okF14 noCall_ok Tryz.func8 (by kernel_rfl) (by kernel_rfl) (fun hp => g8_ev _ rfl)
end Y27
namespace Go.AE
open Go.ChangeShapes Go.WideShapes Go.ChangeAt Go.RowKit
section
variable {H : Type} {enc : TypeId × Value → H} {P : Program}
theorem args_stay (hl : laidOutB P = true) {W W' : World} {sp' : Nat → Bool} : ∀ {ts : List TypeId} {vs : List Value} {ds : List (DataW H)} {ps : List MemPlace},
    lall (fun t => bif P.readableRec t then decide (t < P.types.size) else false) ts = true → DataW.TrodAll enc P W 0 (fun _ => true) true ts vs ds ps → (∀ p ∈ ps, W.sameAt W' p) → (∀ p ∈ ps, sp' p.block = true) →
    DataW.TrodAll enc P W' 0 sp' true ts vs ds ps
  | [], [], [], _, _, h, _, _ => h
  | [], _ :: _, _, _, _, h, _, _ => h.elim
  | [], [], _ :: _, _, _, h, _, _ => h.elim
  | _ :: _, [], _, _, _, h, _, _ => h.elim
  | _ :: _, _ :: _, [], _, _, h, _, _ => h.elim
  | t :: ts, v :: vs, d :: ds, ps, hc, h, hs, hp => by
    obtain ⟨p, q, h1, h2, rfl⟩ := h
    rw [lall] at hc
    cases hb : (bif P.readableRec t then decide (t < P.types.size) else false) with
    | false => rw [hb] at hc; cases hc
    | true =>
      rw [hb] at hc
      cases hr : P.readableRec t with
      | false => rw [hr] at hb; cases hb
      | true =>
        rw [hr] at hb
        exact ⟨p, q, WideElems.Trod_stays hl hr (of_decide_eq_true hb) h1 (fun x hx => hs x (by simp [hx])) (fun x hx => hp x (by simp [hx])),
          args_stay hl hc h2 (fun x hx => hs x (by simp [hx])) (fun x hx => hp x (by simp [hx])), rfl⟩
end
inductive KRep : List CK → List IV → List Value → Prop
  | nil : KRep [] [] []
  | int {k : IntKind} {n : Int} {ks : List CK} {is : List IV} {vs : List Value} : InR k n → KRep ks is vs → KRep (.int k :: ks) (.int k n :: is) (.int k n :: vs)
  | bool {b : Bool} {ks : List CK} {is : List IV} {vs : List Value} : KRep ks is vs → KRep (.bool :: ks) (.bool b :: is) (.bool b :: vs)
  | str {s : ByteArray} {ks : List CK} {is : List IV} {vs : List Value} : (bytesOf s).length ≤ 9223372036854775807 → KRep ks is vs → KRep (.str :: ks) (.str (bytesOf s) :: is) (.string s :: vs)
theorem KRep.app {ks ks' : List CK} {is is' : List IV} {vs vs' : List Value} (h : KRep ks is vs) (h' : KRep ks' is' vs') : KRep (ks ++ ks') (is ++ is') (vs ++ vs') := by
  induction h with
  | nil => exact h'
  | int h1 _ ih => exact .int h1 ih
  | bool _ ih => exact .bool ih
  | str h1 _ ih => exact .str h1 ih
theorem KRep.len {ks : List CK} {is : List IV} {vs : List Value} (h : KRep ks is vs) : is.length = ks.length ∧ vs.length = ks.length := by
  induction h with
  | nil => exact ⟨rfl, rfl⟩
  | int _ _ ih => simp [ih]
  | bool _ ih => simp [ih]
  | str _ _ ih => simp [ih]
theorem KRep.cons_int {k : IntKind} {ks : List CK} {is : List IV} {vs : List Value} (h : KRep (.int k :: ks) is vs) : ∃ n is' vs', is = .int k n :: is' ∧ vs = .int k n :: vs' ∧ InR k n ∧ KRep ks is' vs' := by
  cases h with
  | int h1 h2 => exact ⟨_, _, _, rfl, rfl, h1, h2⟩
theorem KRep.cons_bool {ks : List CK} {is : List IV} {vs : List Value} (h : KRep (.bool :: ks) is vs) : ∃ b is' vs', is = .bool b :: is' ∧ vs = .bool b :: vs' ∧ KRep ks is' vs' := by
  cases h with
  | bool h2 => exact ⟨_, _, _, rfl, rfl, h2⟩
theorem KRep.end {is : List IV} {vs : List Value} (h : KRep [] is vs) : is = [] ∧ vs = [] := by
  cases h; exact ⟨rfl, rfl⟩
theorem KRep.rep {w : World} {own : Nat → Prop} {ks : List CK} {is : List IV} {vs : List Value} (h : KRep ks is vs) : ∀ (j : Nat) c, is[j]? = some c → Rep w own c (vs.getD j undef) ∧ (vs.getD j undef).oneCell' = true := by
  have one : ∀ {c : IV} {V : Value} {is : List IV} {vs : List Value}, Rep w own c V → (∀ (j : Nat) c, is[j]? = some c → Rep w own c (vs.getD j undef) ∧ (vs.getD j undef).oneCell' = true) →
      ∀ (j : Nat) c', (c :: is)[j]? = some c' → Rep w own c' ((V :: vs).getD j undef) ∧ ((V :: vs).getD j undef).oneCell' = true := by
    intro c V is vs h1 h2 j c' hc
    cases j with
    | zero => simp only [List.getElem?_cons_zero, Option.some.injEq] at hc; subst hc; exact ⟨h1, h1.oneCell⟩
    | succ j => exact h2 j c' (by simpa using hc)
  induction h with
  | nil => intro j c hc; simp at hc
  | int h1 _ ih => exact one (.int h1) ih
  | bool _ ih => exact one .bool ih
  | str h1 _ ih => exact one (.str rfl h1) ih
section
variable {H : Type} {enc : TypeId × Value → H} {P : Program} {w : World} {base : Nat} {sp : Nat → Bool} {held : Bool}
theorem inR_wf {k : IntKind} {n : Int} (h : (Lit.int k n).wf = true) : InR k n := by
  simp only [Lit.wf, Bool.and_eq_true, decide_eq_true_eq] at h
  exact ⟨by have := h.1; omega, by have := h.2; omega⟩
mutual
theorem flat_open : ∀ (d : Nat) {t : TypeId} {ks : List CK} {n : Nat} {cs : List Value} {x : DataW H × List MemPlace}, flatK P false d t = some ks → DataW.trod enc P w base sp held n t cs = some x → (∃ is, KRep ks is cs) ∧ x.2 = []
  | 0, t, ks, n, cs, x, h, _ => by simp [flatK] at h
  | d + 1, t, ks, n, cs, x, h, hx => by
    unfold flatK at h
    split at h
    · rename_i k hu
      cases h
      obtain ⟨m, rfl, rfl, hw⟩ := DataW.trod_int hu hx
      exact ⟨⟨[.int k m], .int (inR_wf hw) .nil⟩, rfl⟩
    · rename_i hu
      cases h
      obtain ⟨b, rfl, rfl⟩ := DataW.trod_bool hu hx
      exact ⟨⟨[.bool b], .bool .nil⟩, rfl⟩
    · rename_i hu
      cases h
      obtain ⟨s, rfl, rfl, hs⟩ := DataW.trod_string hu hx
      exact ⟨⟨[.str (bytesOf s)], .str (by rw [← size_bytes]; exact hs) .nil⟩, rfl⟩
    · rename_i fs hu
      obtain ⟨xs, m, rfl, rfl, hlen, hsz, hf⟩ := DataW.trod_struct hu hx
      cases hF : flatF P false d 0 fs.toList with
      | none => rw [hF] at h; cases h
      | some ks' =>
        rw [hF] at h
        cases hb : Nat.beq (llen ks') (P.cellsOf t) with
        | false => simp only [hb, cond_false] at h; cases h
        | true =>
          simp only [hb, cond_true] at h
          cases h
          have hb' := nbeq hb
          obtain ⟨⟨is, his⟩, hp⟩ := flatF_open d (o := 0) (xs := xs) (cs := cs) (n := m) hF (by simp [hsz]) (fun i f hi => hf i f (by simpa using hi))
          refine ⟨⟨is, ?_⟩, ?_⟩
          · rw [List.drop_zero, List.take_of_length_le (by rw [hlen, ← hb', llen_eq]; exact Nat.le_refl _)] at his
            exact his
          · simp only [List.flatMap_eq_nil_iff]
            exact hp
    · cases h
    · cases h
    · cases h
theorem flatF_open : ∀ (d : Nat) {o : Nat} {fs : List Field} {ks : List CK} {n : Nat} {cs : List Value} {xs : List (DataW H × List MemPlace)}, flatF P false d o fs = some ks → xs.length = fs.length →
    (∀ (i : Nat) (f : Field), fs[i]? = some f → DataW.trod enc P w base sp held n f.type ((cs.drop f.offset).take (P.cellsOf f.type)) = xs[i]?) → (∃ is, KRep ks is ((cs.drop o).take ks.length)) ∧ ∀ x ∈ xs, x.2 = []
  | 0, o, fs, ks, n, cs, xs, h, _, _ => by simp [flatF] at h
  | d + 1, o, [], ks, n, cs, xs, h, hl, _ => by
    simp only [flatF] at h
    cases h
    have : xs = [] := by simpa using hl
    subst this
    exact ⟨⟨[], by simpa using KRep.nil⟩, fun x hx => by cases hx⟩
  | d + 1, o, f :: r, ks, n, cs, xs, h, hl, hf => by
    unfold flatF at h
    cases hK : flatK P false d f.type with
    | none => rw [hK] at h; cases h
    | some k1 =>
      rw [hK] at h
      cases hb : Nat.beq f.offset o with
      | false => simp only [hb, cond_false] at h; cases h
      | true =>
        simp only [hb, cond_true] at h
        cases hb2 : Nat.beq (llen k1) (P.cellsOf f.type) with
        | false => simp only [hb2, cond_false] at h; cases h
        | true =>
          simp only [hb2, cond_true] at h
          cases hF : flatF P false d (o + llen k1) r with
          | none => rw [hF] at h; cases h
          | some k2 =>
            rw [hF] at h
            simp only [omap, Option.some.injEq] at h
            subst h
            match xs, hl with
            | x :: xs, hl =>
              have h0 := hf 0 f rfl
              have e1 := nbeq hb
              have e2 := nbeq hb2
              obtain ⟨⟨i1, hi1⟩, hp1⟩ := flat_open d hK (by simpa using h0)
              obtain ⟨⟨i2, hi2⟩, hp2⟩ := flatF_open d (n := n) (cs := cs) (xs := xs) hF (by simpa using hl) (fun i f hi => by simpa using hf (i + 1) f (by simpa using hi))
              refine ⟨⟨i1 ++ i2, ?_⟩, ?_⟩
              · rw [lapp_eq, List.length_append]
                have : (cs.drop o).take (k1.length + k2.length) = ((cs.drop o).take k1.length) ++ ((cs.drop (o + k1.length)).take k2.length) := by
                  rw [List.take_add, List.drop_drop]
                rw [this]
                have h3 : KRep k1 i1 ((cs.drop o).take k1.length) := by
                  rw [← llen_eq, e2, ← e1]; exact hi1
                refine h3.app ?_
                rw [llen_eq] at hi2
                exact hi2
              · intro y hy
                rcases List.mem_cons.1 hy with rfl | hy
                · exact hp1
                · exact hp2 y hy
end
end
theorem bool_calls {P : Program} {G : Nat → Option (List AV)} {f : FuncId} {args : List AV} {pres : List Prop} {b : Bool} (h : SpecOK P G f args pres [.imm (.bool b)]) (hp : ∀ p, p ∈ pres → p) (w : World) (vals : Array Value) (hs : vals.size = args.length)
    (ha : ∀ (j : Nat) c, args[j]? = some c → ARep (zeroGh w (fun _ => False)) c (vals.getD j undef)) (hG : GOK G w (fun _ => False)) : Calls P f vals w fun e w' => e = .returned (.bool b) ∧ RowKit.Below w.heap.size w w' := by
  refine (h.calls hp w (fun _ => False) vals (fun _ h => h.elim) hs ha hG).mono ?_
  rintro e w' ⟨Vs, bs, rfl, hb, hr, _⟩
  refine ⟨?_, hb⟩
  cases hr with
  | one _ h1 _ h2 =>
    cases h2
    cases h1 with
    | imm h3 _ =>
      have := rep_bool h3
      subst this
      rfl
theorem post_of_below {H : Type} {enc : TypeId × Value → H} {P : Program} {f : Func} {s : ChangeSpec} {apart fresh handsOn again : Bool} {W W' : World} {args : Array Value} {v : Value} {ds gs : List (DataW H)} {before pa pv : List MemPlace}
    (hW : DataW.Whole enc P f.params.toList s.vars apart W args.toList ds gs before)
    (hres : ∀ (b : Nat) (sp : Nat → Bool) (hd : Bool), DataW.TrodAll enc P W' b sp hd f.resultTypes.toList (v.resultList f.resultTypes.size) (s.fn H (ds ++ gs)).results [])
    (hargs : ∀ sp : Nat → Bool, (∀ p ∈ before, sp p.block = true) → DataW.TrodAll enc P W' 0 sp true f.params.toList args.toList (s.fn H (ds ++ gs)).args pa)
    (hvars : ∀ sp : Nat → Bool, (∀ p ∈ before, sp p.block = true) → DataW.TrodVars enc P W' sp s.vars (s.fn H (ds ++ gs)).vars pv)
    (hps : before = pa ++ pv) (hb : Below W.heap.size W W')
    (hok : ∀ (j : Nat) (t : TypeId) (r : Value), f.resultTypes[j]? = some t → (v.resultList f.resultTypes.size)[j]? = some r → Value.okWide P W' .any 0 t r) :
    s.post enc P f apart fresh handsOn again W args v W' := by
  have hold : ∀ p ∈ before, (fun b => decide (b < W.heap.size)) p.block = true := fun p hp => by simpa using hW.lt p hp
  have hlt : ∀ p ∈ before, p.block < W.heap.size := fun p hp => hW.lt p hp
  refine ⟨ds, gs, before, [], pa, pv, hW, hres _ _ _, hargs _ hold, hvars _ hold, World.keptBut_mono (fun p hp => ⟨hp, ?_⟩) (hb.frame (· ∈ before)), fun _ => ?_⟩
  · rw [hps, List.mem_append] at hp
    exact Or.inr hp
  · obtain ⟨_, _, _, _, _, hz, hn⟩ := hW
    refine ⟨hok, _, _, ([] ++ pa) ++ pv, ⟨[] ++ pa, pv, trodAll_append (hargs _ (fun _ _ => rfl)) (hres _ _ _), hvars _ (fun _ _ => rfl), rfl, ?_, ?_⟩, ?_⟩
    · intro b off hp
      have hp' : MemPlace.cell b off ∈ before := by rw [hps]; simpa using hp
      rw [World.frozen?_of_block (hb.block _ (hlt _ hp'))]
      exact hz b off hp'
    · intro ha
      have := hn ha
      rw [hps] at this
      simpa using this
    · intro p hp _
      rw [hps]
      simpa using hp
section
variable {H : Type} {enc : TypeId × Value → H} {P : Program} {w : World}
theorem all_cons {base : Nat} {sp : Nat → Bool} {held : Bool} {t : TypeId} {ts : List TypeId} {vs : List Value} {ds : List (DataW H)} {ps : List MemPlace} (h : DataW.TrodAll enc P w base sp held (t :: ts) vs ds ps) :
    ∃ v vs' d ds' p q, vs = v :: vs' ∧ ds = d :: ds' ∧ DataW.Trod enc P w base sp held t v d p ∧ DataW.TrodAll enc P w base sp held ts vs' ds' q ∧ ps = p ++ q := by
  match vs, ds, h with
  | v :: vs', d :: ds', h =>
    obtain ⟨p, q, h1, h2, h3⟩ := h
    exact ⟨v, vs', d, ds', p, q, rfl, rfl, h1, h2, h3⟩
theorem all_nil {base : Nat} {sp : Nat → Bool} {held : Bool} {vs : List Value} {ds : List (DataW H)} {ps : List MemPlace} (h : DataW.TrodAll enc P w base sp held [] vs ds ps) : vs = [] ∧ ds = [] ∧ ps = [] := by
  match vs, ds, h with
  | [], [], h => exact ⟨rfl, rfl, h⟩
theorem KRep.arep {g : Gh} {ks : List CK} {is : List IV} {vs : List Value} (h : KRep ks is vs) : ARep g (.agg (lmap .imm is)) (.agg ⟨vs⟩) := by
  have hl := h.len
  have e : ∀ j, (⟨vs⟩ : Array Value).getD j undef = vs.getD j undef := fun j => by simp [Array.getD_eq_getD_getElem?, List.getD_eq_getElem?_getD]
  refine .agg (by rw [lmap_eq]; simp [hl]) (fun j c hc => ?_) (fun j hj => ?_)
  · rw [lmap_eq, List.getElem?_map] at hc
    cases hi : is[j]? with
    | none => rw [hi] at hc; cases hc
    | some i =>
      rw [hi] at hc
      cases hc
      rw [e]
      exact .imm (h.rep (w := g.w) (own := g.own) j i hi).1
  · have hj' : j < is.length := by simp at hj; omega
    rw [e]
    exact (h.rep (w := g.w) (own := g.own) j is[j] (List.getElem?_eq_getElem hj')).2
theorem row_post {f : Func} {s : ChangeSpec} {apart fresh handsOn again : Bool} {W W' : World} {args : Array Value} {ds : List (DataW H)} {before : List MemPlace} {tb : TypeId}
    (hW : DataW.Whole enc P f.params.toList s.vars apart W args.toList ds [] before) (hv : s.vars = []) (hl : laidOutB P = true) (hc : lall (fun t => bif P.readableRec t then decide (t < P.types.size) else false) f.params.toList = true)
    (hfn : s.fn H (ds ++ []) = { results := [.lit (.bool true)], args := ds }) (hr : f.resultTypes = #[tb]) (hu : P.underlying tb = some .bool) (hb : Below W.heap.size W W') : s.post enc P f apart fresh handsOn again W args (.bool true) W' := by
  have hW0 := hW
  obtain ⟨p, q, hA, hV, rfl, _, _⟩ := hW
  rw [hv] at hV
  obtain ⟨_, rfl⟩ := trodVars_none hV
  refine post_of_below (ds := ds) (gs := []) (pa := p) (pv := []) hW0 (fun b sp hd => ?_) (fun sp hsp => ?_) (fun sp hsp => ?_) rfl hb ?_
  · rw [hfn, hr]
    exact trodAll_mk1 (shut_bool hu true)
  · rw [hfn]
    exact args_stay hl hc hA (fun x hx => hb.same (hW0.lt x (by simp [hx]))) (fun x hx => hsp x (by simp [hx]))
  · rw [hfn, hv]
    rfl
  · intro j t r ht hr'
    rw [hr] at ht hr'
    cases j with
    | zero =>
      cases ht
      cases hr'
      exact okWide_bool_mk hu true
    | succ j => simp at ht
end
end Go.AE
namespace Go.AE
open Go.ChangeShapes Go.WideShapes Go.ChangeAt Go.RowKit
section
variable {H : Type} {enc : TypeId × Value → H} {P : Program} {w : World}
theorem open_slice {t e : TypeId} {ks : List CK} {b0 : Nat} {v : Value} {d : DataW H} {ps : List MemPlace} {r : Reach} {sp : Nat → Bool} {held : Bool} {base : Nat} (ht : P.underlying t = some (.slice e)) (hk : flatK P false 40 e = some ks) (hc : P.cellsOf e = ks.length) (hb : 1 ≤ P.bytesOf e)
    (hval : Value.okWide P w r b0 t v) (hd : DataW.Trod enc P w base sp held t v d ps) (hsz : ∀ el rs, d = .slice el rs → (el.length + rs.length) * P.bytesOf e ≤ reachBytes) :
    ∃ xs : List (List IV), (∀ x ∈ xs, ∃ vs, KRep ks x vs) ∧ xs.length ≤ 281474976710656 ∧ ∀ iv : IV, iv.isSl = true → iv.len = some xs.length → iv.esize = ks.length → (∀ i j c, iv.cellAt i j = some c → (xs[i]?).bind (·[j]?) = some c) → Rep w (fun _ => False) iv v := by
  obtain ⟨fuel, hf⟩ := hd
  rcases DataW.trod_slice ht hf with ⟨h0, _⟩ | ⟨a, len, cap, elems, rest, n, _, hcs, hx, _, hl, hm, hlen, hel, _⟩
  · refine ⟨[], ⟨(fun x hx => absurd hx (by simp)), by simp, fun iv h1 h2 _ _ => ?_⟩⟩
    obtain ⟨a', l', c', rfl⟩ := okWide_slice ht hval
    simp only [Value.cells, List.cons.injEq, and_true] at h0
    rw [h0]
    exact .nilSlice h1 h2
  · obtain ⟨a', l', c', rfl⟩ := okWide_slice ht hval
    simp only [Value.cells, List.cons.injEq, and_true] at hcs
    simp only [Value.slice.injEq] at hcs
    obtain ⟨rfl, rfl, rfl⟩ := hcs
    have hv : l' ≤ c' ∧ (c' : Int) ≤ IntKind.i64.max ∧ w.has P r b0 a e c' := by
      simpa [Value.okWide, Cell.okWide, Cell.ok, ht] using hval
    obtain ⟨_, hcap, _, _, row, cells, hsh, _⟩ := hv
    have hblk : a.block < w.heap.size := by
      unfold World.shape? at hsh
      cases hq : w.heap[a.block]? with
      | none => rw [hq] at hsh; cases hsh
      | some o => exact (Array.getElem?_eq_some_iff.1 hq).1
    have each : ∀ i (hi : i < elems.length), ∃ cs is, w.cells? base (a.add (i * P.cellsOf e)) (P.cellsOf e) = some cs ∧ KRep ks is cs := by
      intro i hi
      have h1 := hel i (by omega)
      rw [List.getElem?_eq_getElem hi, Option.bind_eq_some_iff] at h1
      obtain ⟨cs, hcs, hy⟩ := h1
      obtain ⟨⟨is, his⟩, _⟩ := flat_open 40 hk hy
      exact ⟨cs, is, hcs, his⟩
    have hcap' : c' ≤ 9223372036854775807 := by
      have h9 : IntKind.i64.max = 9223372036854775807 := rfl
      rw [h9] at hcap; omega
    have hch : ∃ F : Nat → List Value × List IV, ∀ i, i < elems.length → w.cells? base (a.add (i * P.cellsOf e)) (P.cellsOf e) = some (F i).1 ∧ KRep ks (F i).2 (F i).1 := by
      refine ⟨fun i => if hi : i < elems.length then ((each i hi).choose, (each i hi).choose_spec.choose) else ([], []), fun i hi => ?_⟩
      simp only [dif_pos hi]
      exact (each i hi).choose_spec.choose_spec
    obtain ⟨F, hF⟩ := hch
    have hlen2 : l' ≤ 281474976710656 := by
      have hxs := hsz (elems.map (·.1)) (rest.map (·.1)) (congrArg Prod.fst hx)
      simp only [List.length_map] at hxs
      have : elems.length + rest.length ≤ (elems.length + rest.length) * P.bytesOf e := Nat.le_mul_of_pos_right _ hb
      unfold reachBytes at hxs
      omega
    refine ⟨(List.range l').map fun i => (F i).2, fun x hx => ?_, by simpa using hlen2, fun iv h1 h2 h3 h4 => ?_⟩
    · obtain ⟨i, hi, rfl⟩ := List.mem_map.1 hx
      have := List.mem_range.1 hi
      exact ⟨_, (hF i (by omega)).2⟩
    · have key : ∀ i j c, iv.cellAt i j = some c → i < l' ∧ (F i).2[j]? = some c := by
        intro i j c hcc
        have h5 := h4 i j c hcc
        rw [List.getElem?_map] at h5
        cases hi : (List.range l')[i]? with
        | none => rw [hi] at h5; cases h5
        | some i' =>
          rw [hi] at h5
          obtain ⟨h6, h7⟩ := List.getElem?_eq_some_iff.1 hi
          simp only [List.length_range] at h6
          simp only [List.getElem_range] at h7
          subst h7
          exact ⟨h6, by simpa using h5⟩
      refine .slice (fun i j => (F i).1.getD j undef) h1 (by simpa using h2) hl hcap' hlen2 (fun h => h) hblk (fun i j c hcc => ?_) (fun i j c hcc => ?_)
      · obtain ⟨hi, hj⟩ := key i j c hcc
        obtain ⟨hc1, hk1⟩ := hF i (by omega)
        obtain ⟨_, hn1, hcell⟩ := World.cells?_some hc1
        have hj' : j < ks.length := by rw [← hk1.len.1]; exact (List.getElem?_eq_some_iff.1 hj).1
        have := hcell j (by rw [hc]; exact hj')
        rw [h3, ← hc]
        have e1 : (a.add (i * P.cellsOf e)).add j = a.add (i * P.cellsOf e + j) := by
          unfold Addr.add; split <;> split <;> simp_all <;> omega
        rw [e1] at this
        rw [this, List.getElem?_eq_getElem (by rw [hn1, hc]; exact hj')]
        simp [List.getD_eq_getElem?_getD, List.getElem?_eq_getElem (show j < (F i).1.length by rw [hn1, hc]; exact hj')]
      · obtain ⟨hi, hj⟩ := key i j c hcc
        obtain ⟨hc1, hk1⟩ := hF i (by omega)
        exact (hk1.rep j c hj).1
end
end Go.AE
namespace Go.AE
open Go.ChangeShapes Go.WideShapes Go.ChangeAt Go.RowKit
inductive MK where
  | ck (c : CK)
  | sl (ks : List CK)
mutual
def mixK (P : Program) : Nat → TypeId → Option (List (TypeId × MK))
  | 0, _ => none
  | d + 1, t => match P.underlying t with
    | some (.int k) => some [(t, .ck (.int k))]
    | some .bool => some [(t, .ck .bool)]
    | some .string => some [(t, .ck .str)]
    | some (.slice e) => match flatK P false 40 e with
      | some ks => bif Nat.beq (P.cellsOf e) (llen ks) then (bif Nat.ble 1 (P.bytesOf e) then some [(t, .sl ks)] else none) else none
      | none => none
    | some (.struct fs) => match mixF P d 0 fs.toList with
      | some ks => bif Nat.beq (llen ks) (P.cellsOf t) then some ks else none
      | none => none
    | _ => none
def mixF (P : Program) : Nat → Nat → List Field → Option (List (TypeId × MK))
  | 0, _, _ => none
  | _ + 1, _, [] => some []
  | d + 1, o, f :: r => match mixK P d f.type with
    | some ks => bif Nat.beq f.offset o then (bif Nat.beq (llen ks) (P.cellsOf f.type) then omap (lapp ks) (mixF P d (o + llen ks) r) else none) else none
    | none => none
end
def MOk (w : World) : MK → Value → Prop
  | .ck (.int k), v => ∃ n, v = .int k n ∧ InR k n
  | .ck .bool, v => ∃ b, v = .bool b
  | .ck .str, v => ∃ s, v = .string s ∧ (bytesOf s).length ≤ 9223372036854775807
  | .ck .any, _ => False
  | .sl ks, v => ∃ xs : List (List IV), (∀ x ∈ xs, ∃ vs, KRep ks x vs) ∧ xs.length ≤ 281474976710656 ∧ ∀ iv : IV, iv.isSl = true → iv.len = some xs.length → iv.esize = ks.length → (∀ i j c, iv.cellAt i j = some c → (xs[i]?).bind (·[j]?) = some c) → Rep w (fun _ => False) iv v
def mall (w : World) : List (TypeId × MK) → List Value → Prop
  | [], [] => True
  | k :: ks, v :: vs => MOk w k.2 v ∧ mall w ks vs
  | _, _ => False
theorem mall_cons {w : World} {k : TypeId × MK} {ks : List (TypeId × MK)} {vs : List Value} (h : mall w (k :: ks) vs) : ∃ v vs', vs = v :: vs' ∧ MOk w k.2 v ∧ mall w ks vs' := by
  match vs, h with
  | v :: vs', h => exact ⟨v, vs', rfl, h.1, h.2⟩
theorem mall_nil {w : World} {vs : List Value} (h : mall w [] vs) : vs = [] := by
  match vs, h with
  | [], _ => rfl
theorem mall_app {w : World} : ∀ {ks ks' : List (TypeId × MK)} {vs vs' : List Value}, mall w ks vs → mall w ks' vs' → mall w (ks ++ ks') (vs ++ vs')
  | [], _, [], _, _, h' => h'
  | _ :: _, _, _ :: _, _, h, h' => ⟨h.1, mall_app h.2 h'⟩
  | [], _, _ :: _, _, h, _ => h.elim
  | _ :: _, _, [], _, h, _ => h.elim
section
variable {H : Type} {enc : TypeId × Value → H} {P : Program} {w : World} {base b0 : Nat} {sp : Nat → Bool} {held : Bool} {r : Reach}
theorem all_weights_field {fs : List Field} {xs : List (DataW H × List MemPlace)} (h : (DataW.weightsEach P (fs.map (·.type)) (xs.map (·.1))).all (· ≤ reachBytes) = true) {i : Nat} {f : Field} {x : DataW H × List MemPlace} (hf : fs[i]? = some f) (hx : xs[i]? = some x) :
    (x.1.weights P f.type).all (· ≤ reachBytes) = true := by
  rw [List.all_eq_true] at h ⊢
  exact fun n hn => h n (DataW.weights_mem_each (j := i) (t := f.type) (d := x.1) (by simp [List.getElem?_map, hf]) (by simp [List.getElem?_map, hx]) n hn)
mutual
theorem mix_open : ∀ (d : Nat) {t : TypeId} {ks : List (TypeId × MK)} {n : Nat} {cs : List Value} {x : DataW H × List MemPlace}, mixK P d t = some ks → DataW.trod enc P w base sp held n t cs = some x → (x.1.weights P t).all (· ≤ reachBytes) = true →
    (∀ (j : Nat) v, cs[j]? = some v → ∃ u, (ks.map (·.1))[j]? = some u ∧ Cell.okWide P w r b0 u v) → mall w ks cs
  | 0, t, ks, n, cs, x, h, _, _, _ => by simp [mixK] at h
  | d + 1, t, ks, n, cs, x, h, hx, hz, hw => by
    unfold mixK at h
    split at h
    · rename_i k hu
      cases h
      obtain ⟨m, rfl, rfl, hm⟩ := DataW.trod_int hu hx
      exact ⟨⟨m, rfl, inR_wf hm⟩, trivial⟩
    · rename_i hu
      cases h
      obtain ⟨b, rfl, rfl⟩ := DataW.trod_bool hu hx
      exact ⟨⟨b, rfl⟩, trivial⟩
    · rename_i hu
      cases h
      obtain ⟨s, rfl, rfl, hs⟩ := DataW.trod_string hu hx
      exact ⟨⟨s, rfl, by rw [← size_bytes]; exact hs⟩, trivial⟩
    · rename_i e hu
      cases hk : flatK P false 40 e with
      | none => rw [hk] at h; cases h
      | some k1 =>
        rw [hk] at h
        cases hb : Nat.beq (P.cellsOf e) (llen k1) with
        | false => simp only [hb, cond_false] at h; cases h
        | true =>
          simp only [hb, cond_true] at h
          cases hb2 : Nat.ble 1 (P.bytesOf e) with
          | false => simp only [hb2, cond_false] at h; cases h
          | true =>
            simp only [hb2, cond_true] at h
            cases h
            have e1 : P.cellsOf e = k1.length := by rw [nbeq hb, llen_eq]
            have e2 : 1 ≤ P.bytesOf e := Nat.le_of_ble_eq_true hb2
            have hone : ∃ v, cs = [v] ∧ v.cells.toList = [v] := by
              rcases DataW.trod_slice hu hx with ⟨h0, _⟩ | ⟨a, len, cap, _, _, _, _, h0, _⟩
              · exact ⟨_, h0, rfl⟩
              · exact ⟨_, h0, rfl⟩
            obtain ⟨v, rfl, hv⟩ := hone
            obtain ⟨u, hu1, hu2⟩ := hw 0 v rfl
            simp only [List.map_cons, List.map_nil, List.getElem?_cons_zero, Option.some.injEq] at hu1
            subst hu1
            have hval : Value.okWide P w r b0 t v := by
              unfold Value.okWide
              rw [hu]
              exact hu2
            refine ⟨open_slice (ks := k1) hu hk e1 e2 hval (d := x.1) (ps := x.2) ⟨n, by rw [hv]; exact hx⟩ (fun el rs hd => ?_), trivial⟩
            rw [hd, List.all_eq_true] at hz
            have := hz ((el.length + rs.length) * P.bytesOf e) (by simp [DataW.weights, hu])
            simpa using this
    · rename_i fs hu
      obtain ⟨xs, m, rfl, rfl, hlen, hsz, hf⟩ := DataW.trod_struct hu hx
      cases hF : mixF P d 0 fs.toList with
      | none => rw [hF] at h; cases h
      | some ks' =>
        rw [hF] at h
        cases hb : Nat.beq (llen ks') (P.cellsOf t) with
        | false => simp only [hb, cond_false] at h; cases h
        | true =>
          simp only [hb, cond_true] at h
          cases h
          have hb' := nbeq hb
          have hz' : (DataW.weightsEach P (fs.toList.map (·.type)) (xs.map (·.1))).all (· ≤ reachBytes) = true := by
            have := hz
            simpa [DataW.weights, hu] using this
          have := mixF_open d (o := 0) (xs := xs) (cs := cs) (n := m) hF (by simp [hsz]) (fun i f hi => hf i f (by simpa using hi)) hz' (by simpa using hw)
          rw [List.drop_zero, List.take_of_length_le (by rw [hlen, ← hb', llen_eq]; exact Nat.le_refl _)] at this
          exact this
    · cases h
theorem mixF_open : ∀ (d : Nat) {o : Nat} {fs : List Field} {ks : List (TypeId × MK)} {n : Nat} {cs : List Value} {xs : List (DataW H × List MemPlace)}, mixF P d o fs = some ks → xs.length = fs.length →
    (∀ (i : Nat) (f : Field), fs[i]? = some f → DataW.trod enc P w base sp held n f.type ((cs.drop f.offset).take (P.cellsOf f.type)) = xs[i]?) → (DataW.weightsEach P (fs.map (·.type)) (xs.map (·.1))).all (· ≤ reachBytes) = true →
    (∀ (j : Nat) v, (cs.drop o)[j]? = some v → ∃ u, (ks.map (·.1))[j]? = some u ∧ Cell.okWide P w r b0 u v) → mall w ks ((cs.drop o).take ks.length)
  | 0, o, fs, ks, n, cs, xs, h, _, _, _, _ => by simp [mixF] at h
  | d + 1, o, [], ks, n, cs, xs, h, hl, _, _, _ => by
    simp only [mixF] at h
    cases h
    simp [mall]
  | d + 1, o, f :: q, ks, n, cs, xs, h, hl, hf, hz, hw => by
    unfold mixF at h
    cases hK : mixK P d f.type with
    | none => rw [hK] at h; cases h
    | some k1 =>
      rw [hK] at h
      cases hb : Nat.beq f.offset o with
      | false => simp only [hb, cond_false] at h; cases h
      | true =>
        simp only [hb, cond_true] at h
        cases hb2 : Nat.beq (llen k1) (P.cellsOf f.type) with
        | false => simp only [hb2, cond_false] at h; cases h
        | true =>
          simp only [hb2, cond_true] at h
          cases hF : mixF P d (o + llen k1) q with
          | none => rw [hF] at h; cases h
          | some k2 =>
            rw [hF] at h
            simp only [omap, Option.some.injEq] at h
            subst h
            match xs, hl with
            | x :: xs, hl =>
              have h0 := hf 0 f rfl
              have e1 := nbeq hb
              have e2 := nbeq hb2
              have e3 : llen k1 = k1.length := llen_eq k1
              rw [lapp_eq] at hw ⊢
              have w1 : ∀ (j : Nat) v, ((cs.drop f.offset).take (P.cellsOf f.type))[j]? = some v → ∃ u, (k1.map (·.1))[j]? = some u ∧ Cell.okWide P w r b0 u v := by
                intro j v hv
                rw [List.getElem?_take] at hv
                split at hv
                · rename_i hj
                  obtain ⟨u, hu1, hu2⟩ := hw j v (by rw [← e1]; exact hv)
                  refine ⟨u, ?_, hu2⟩
                  rw [List.map_append, List.getElem?_append_left (by simp; omega)] at hu1
                  exact hu1
                · cases hv
              have w2 : ∀ (j : Nat) v, (cs.drop (o + llen k1))[j]? = some v → ∃ u, (k2.map (·.1))[j]? = some u ∧ Cell.okWide P w r b0 u v := by
                intro j v hv
                obtain ⟨u, hu1, hu2⟩ := hw (k1.length + j) v (by rw [List.getElem?_drop] at hv ⊢; rw [← hv, e3]; congr 1; omega)
                refine ⟨u, ?_, hu2⟩
                rw [List.map_append, List.getElem?_append_right (by simp)] at hu1
                simpa using hu1
              have i1 := mix_open d hK (x := x) (by simpa using h0) (all_weights_field hz (i := 0) rfl rfl) w1
              have i2 := mixF_open d (n := n) (cs := cs) (xs := xs) hF (by simpa using hl) (fun i f hi => by simpa using hf (i + 1) f (by simpa using hi))
                (by
                  rw [List.all_eq_true] at hz ⊢
                  intro m hm
                  exact hz m (by simp only [List.map_cons, DataW.weightsEach, List.mem_append]; exact Or.inr hm)) w2
              rw [List.length_append]
              have : (cs.drop o).take (k1.length + k2.length) = ((cs.drop o).take k1.length) ++ ((cs.drop (o + k1.length)).take k2.length) := by
                rw [List.take_add, List.drop_drop]
              rw [this]
              have h3 : mall w k1 ((cs.drop o).take k1.length) := by
                rw [← llen_eq, e2, ← e1]; exact i1
              refine mall_app h3 ?_
              rw [llen_eq] at i2
              exact i2
end
theorem open_mix {t : TypeId} {fs : Array Field} {ks : List (TypeId × MK)} {v : Value} {d : DataW H} {ps : List MemPlace} (hu : P.underlying t = some (.struct fs)) (hk : mixK P 40 t = some ks) (hc : P.cellTypes P.depth t = some (ks.map (·.1))) (hn : P.cellsOf t = ks.length)
    (hval : Value.okWide P w r b0 t v) (hd : DataW.Trod enc P w base sp held t v d ps) (hz : (d.weights P t).all (· ≤ reachBytes) = true) : ∃ l, v = .agg ⟨l⟩ ∧ mall w ks l := by
  have hv := hval
  unfold Value.okWide at hv
  rw [hu] at hv
  obtain ⟨⟨l⟩, rfl, hs, ts, h1, h2, h3⟩ := hv
  obtain ⟨fuel, hf⟩ := hd
  rw [hc] at h1
  cases h1
  refine ⟨l, rfl, mix_open (r := r) (b0 := b0) 40 hk hf hz (fun j v hj => ?_)⟩
  have hj' : j < l.length := (List.getElem?_eq_some_iff.1 hj).1
  have hl : l.length = ks.length := by simpa [hn] using hs
  obtain ⟨u, hu1, hu2⟩ := h3 j v (by simpa using hj)
  refine ⟨u, ?_, hu2⟩
  rw [Nat.mod_eq_of_lt (by simp; omega)] at hu1
  exact hu1
theorem weights_arg {ts : List TypeId} {ds : List (DataW H)} (h : (DataW.weightsEach P ts ds).all (· ≤ reachBytes) = true) {j : Nat} {t : TypeId} {d : DataW H} (ht : ts[j]? = some t) (hd : ds[j]? = some d) : (d.weights P t).all (· ≤ reachBytes) = true := by
  rw [List.all_eq_true] at h ⊢
  exact fun n hn => h n (DataW.weights_mem_each ht hd n hn)
end
def MIs (w : World) : List IV → List Value → Prop
  | [], [] => True
  | i :: is, v :: vs => Rep w (fun _ => False) i v ∧ MIs w is vs
  | _, _ => False
theorem MIs.get {w : World} : ∀ {is : List IV} {vs : List Value}, MIs w is vs → is.length = vs.length ∧ ∀ (j : Nat) i, is[j]? = some i → Rep w (fun _ => False) i (vs.getD j undef)
  | [], [], _ => ⟨rfl, fun j i h => by simp at h⟩
  | i :: is, v :: vs, h => ⟨by simp [(MIs.get h.2).1], fun j c hj => by
      cases j with
      | zero => simp only [List.getElem?_cons_zero, Option.some.injEq] at hj; subst hj; exact h.1
      | succ j => exact (MIs.get h.2).2 j c (by simpa using hj)⟩
  | [], _ :: _, h => h.elim
  | _ :: _, [], h => h.elim
theorem MIs.arep {w : World} {is : List IV} {vs : List Value} (h : MIs w is vs) : ARep (zeroGh w (fun _ => False)) (.agg (lmap .imm is)) (.agg ⟨vs⟩) := by
  obtain ⟨hl, hr⟩ := h.get
  have e : ∀ j, (⟨vs⟩ : Array Value).getD j undef = vs.getD j undef := fun j => by simp [Array.getD_eq_getD_getElem?, List.getD_eq_getElem?_getD]
  refine .agg (by rw [lmap_eq]; simp [hl]) (fun j c hc => ?_) (fun j hj => ?_)
  · rw [lmap_eq, List.getElem?_map] at hc
    cases hi : is[j]? with
    | none => rw [hi] at hc; cases hc
    | some i =>
      rw [hi] at hc
      cases hc
      rw [e]
      exact .imm (Rep.mono (w := w) (w' := w) (Nat.le_refl _) (fun b _ h => zero_own.1 h) (fun _ _ _ => rfl) (hr j i hi))
  · have hj' : j < is.length := by simp at hj; omega
    rw [e]
    exact (hr j is[j] (List.getElem?_eq_getElem hj')).oneCell
theorem MIs.cell {w : World} {is : List IV} {vs : List Value} (h : MIs w is vs) {v : Value} (hv : v = .agg ⟨vs⟩) {arr : Array Value} {j : Nat} (ha : arr.getD j undef = v) : ARep (zeroGh w (fun _ => False)) (.agg (lmap .imm is)) (arr.getD j undef) := by
  rw [ha, hv]; exact h.arep
theorem MOk.bytes {w : World} {v : Value} (h : MOk w (.sl [.int .u8]) v) : ∃ l : List UInt8, l.length ≤ 281474976710656 ∧ Rep w (fun _ => False) (.bytes l) v := by
  obtain ⟨xs, h1, h2, h3⟩ := h
  have key : ∀ xs : List (List IV), (∀ x ∈ xs, ∃ vs, KRep [.int .u8] x vs) → ∃ l : List UInt8, xs = l.map fun b => [.int .u8 (b.toNat : Int)] := by
    intro xs
    induction xs with
    | nil => exact fun _ => ⟨[], rfl⟩
    | cons x xs ih =>
      intro h
      obtain ⟨l, hl⟩ := ih fun y hy => h y (by simp [hy])
      obtain ⟨vs, hx⟩ := h x (by simp)
      obtain ⟨n, is, vs', rfl, rfl, hr, hx⟩ := hx.cons_int
      obtain ⟨rfl, rfl⟩ := hx.end
      have hr' : (0 : Int) ≤ n ∧ n ≤ 255 := hr
      refine ⟨UInt8.ofNat n.toNat :: l, ?_⟩
      rw [hl, List.map_cons]
      have : ((UInt8.ofNat n.toNat).toNat : Int) = n := by
        have : (UInt8.ofNat n.toNat).toNat = n.toNat % 256 := by simp
        omega
      rw [this]
  obtain ⟨l, rfl⟩ := key xs h1
  refine ⟨l, by simpa using h2, h3 _ rfl (by simp [IV.len]) rfl (fun i j c hcc => ?_)⟩
  cases j with
  | zero =>
    simp only [IV.cellAt] at hcc
    rw [List.getElem?_map]
    cases hi : l[i]? with
    | none => rw [hi] at hcc; cases hcc
    | some b => rw [hi] at hcc; simpa using hcc
  | succ j => simp [IV.cellAt] at hcc
theorem MOk.ints {w : World} {v : Value} {k : IntKind} (h : MOk w (.sl [.int k]) v) : ∃ l : List Int, (∀ n ∈ l, InR k n) ∧ l.length ≤ 281474976710656 ∧ Rep w (fun _ => False) (.ints k l) v := by
  obtain ⟨xs, h1, h2, h3⟩ := h
  have key : ∀ xs : List (List IV), (∀ x ∈ xs, ∃ vs, KRep [.int k] x vs) → ∃ l : List Int, (∀ n ∈ l, InR k n) ∧ xs = l.map fun b => [.int k b] := by
    intro xs
    induction xs with
    | nil => exact fun _ => ⟨[], fun n h => by simp at h, rfl⟩
    | cons x xs ih =>
      intro h
      obtain ⟨l, hl1, hl⟩ := ih fun y hy => h y (by simp [hy])
      obtain ⟨vs, hx⟩ := h x (by simp)
      obtain ⟨n, is, vs', rfl, rfl, hr, hx⟩ := hx.cons_int
      obtain ⟨rfl, rfl⟩ := hx.end
      refine ⟨n :: l, fun m hm => ?_, by rw [hl, List.map_cons]⟩
      rcases List.mem_cons.1 hm with rfl | hm
      · exact hr
      · exact hl1 m hm
  obtain ⟨l, hl, rfl⟩ := key xs h1
  refine ⟨l, hl, by simpa using h2, h3 _ rfl (by simp [IV.len]) rfl (fun i j c hcc => ?_)⟩
  cases j with
  | zero =>
    simp only [IV.cellAt] at hcc
    rw [List.getElem?_map]
    cases hi : l[i]? with
    | none => rw [hi] at hcc; cases hcc
    | some b => rw [hi] at hcc; simpa using hcc
  | succ j => simp [IV.cellAt] at hcc
theorem MOk.bools {w : World} {v : Value} (h : MOk w (.sl [.bool]) v) : ∃ l : List Bool, l.length ≤ 281474976710656 ∧ Rep w (fun _ => False) (.bools l) v := by
  obtain ⟨xs, h1, h2, h3⟩ := h
  have key : ∀ xs : List (List IV), (∀ x ∈ xs, ∃ vs, KRep [.bool] x vs) → ∃ l : List Bool, xs = l.map fun b => [.bool b] := by
    intro xs
    induction xs with
    | nil => exact fun _ => ⟨[], rfl⟩
    | cons x xs ih =>
      intro h
      obtain ⟨l, hl⟩ := ih fun y hy => h y (by simp [hy])
      obtain ⟨vs, hx⟩ := h x (by simp)
      obtain ⟨n, is, vs', rfl, rfl, hx2⟩ := hx.cons_bool
      obtain ⟨rfl, rfl⟩ := hx2.end
      exact ⟨n :: l, by rw [hl, List.map_cons]⟩
  obtain ⟨l, rfl⟩ := key xs h1
  refine ⟨l, by simpa using h2, h3 _ rfl (by simp [IV.len]) rfl (fun i j c hcc => ?_)⟩
  cases j with
  | zero =>
    simp only [IV.cellAt] at hcc
    rw [List.getElem?_map]
    cases hi : l[i]? with
    | none => rw [hi] at hcc; cases hcc
    | some b => rw [hi] at hcc; simpa using hcc
  | succ j => simp [IV.cellAt] at hcc
theorem MOk.structs {w : World} {v : Value} {ks : List CK} (hn : Nat.ble 1 ks.length = true) (h : MOk w (.sl ks) v) : ∃ xs : List (List IV), (∀ x ∈ xs, ∃ vs, KRep ks x vs) ∧ xs.length ≤ 281474976710656 ∧ Rep w (fun _ => False) (.sl ks.length xs) v := by
  obtain ⟨xs, h1, h2, h3⟩ := h
  refine ⟨xs, h1, h2, h3 _ ?_ rfl rfl (fun i j c hcc => hcc)⟩
  show (bif Nat.ble 1 ks.length then xs.all (fun x => Nat.beq x.length ks.length) else false) = true
  rw [hn, cond_true, List.all_eq_true]
  intro x hx
  obtain ⟨vs, hv⟩ := h1 x hx
  rw [hv.len.1]
  exact Nat.beq_refl _
theorem MOk.int {w : World} {v : Value} {k : IntKind} (h : MOk w (.ck (.int k)) v) : ∃ n, InR k n ∧ Rep w (fun _ => False) (.int k n) v := by
  obtain ⟨n, rfl, hr⟩ := h
  exact ⟨n, hr, .int hr⟩
theorem MOk.bool {w : World} {v : Value} (h : MOk w (.ck .bool) v) : ∃ b, Rep w (fun _ => False) (.bool b) v := by
  obtain ⟨b, rfl⟩ := h
  exact ⟨b, .bool⟩
theorem MOk.str {w : World} {v : Value} (h : MOk w (.ck .str) v) : ∃ l : List UInt8, l.length ≤ 9223372036854775807 ∧ Rep w (fun _ => False) (.str l) v := by
  obtain ⟨s, rfl, hr⟩ := h
  exact ⟨_, hr, .str rfl hr⟩
end Go.AE
namespace Y27
open Go Go.AE Go.Proofs E6
theorem vs : Tryz.prog.globalNamed "zoneinfo/header.versions" = some 0 := by kernel_rfl
theorem fl : Tryz.prog.globalNamed "zoneinfo/indicators.flags" = some 1 := by kernel_rfl
theorem et : Tryz.prog.globalNamed "errors.errorType" = some 3 := by kernel_rfl
theorem rt : (Tryz.prog.cutTypes.find? (·.1 == "internal/reflectlite.rtype")).map (·.2) = some 215 := by kernel_rfl
theorem tsize : Tryz.prog.types.size = 257 := by kernel_rfl
theorem oneRow : ((List.range 257).filter fun t => Tryz.prog.rowNamed t [101, 114, 114, 111, 114]) = [170] := by kernel_rfl
def rowLaid {H : Type} : List (String × DataW H) := [("zoneinfo/header.versions", YthdioiodfodlpaaGreatDoor.Rows.laid_zoneinfo_header_versions), ("zoneinfo/indicators.flags", YthdioiodfodlpaaGreatDoor.Rows.laid_zoneinfo_indicators_flags)]
theorem parts {W : World} (h : laidMetH Tryz.prog YthdioiodfodlpaaGreatDoor.Rows.costMatchesReferenceRow.laid W) : laidMet Tryz.prog rowLaid W ∧ handlesMet Tryz.prog [("errors.errorType", YthdioiodfodlpaaGreatDoor.Rows.laid_errors_errorType)] W := h
theorem var_of_laid {W : World} (h : laidMetH Tryz.prog YthdioiodfodlpaaGreatDoor.Rows.costMatchesReferenceRow.laid W) : W.var? Tryz.prog "errors.errorType" = some #[errT] := by
  obtain ⟨name, u, ty, e1, e2, e3, e4, e5⟩ := (parts h).2 _ (List.mem_singleton.2 rfl)
  have en : name = [101, 114, 114, 111, 114] := (Option.some.inj e1).symm
  subst en
  obtain rfl := Option.some.inj (rt.symm.trans e2)
  have hm : ty ∈ (List.range 257).filter fun t => Tryz.prog.rowNamed t [101, 114, 114, 111, 114] := List.mem_filter.2 ⟨List.mem_range.2 (by rw [← tsize]; exact e3), e4⟩
  rw [oneRow] at hm
  obtain rfl := List.mem_singleton.1 hm
  have hh : typeHandle Tryz.prog 170 = .pointer (some ⟨4, 170, none⟩) := by kernel_rfl
  rw [hh] at e5
  exact e5
theorem list_two {α : Type} {l : List α} (h : l.length = 2) : ∃ a b, l = [a, b] := by
  match l, h with
  | [a, b], _ => exact ⟨a, b, rfl⟩
theorem list_five {α : Type} {l : List α} (h : l.length = 5) : ∃ a b c d e, l = [a, b, c, d, e] := by
  match l, h with
  | [a, b, c, d, e], _ => exact ⟨a, b, c, d, e, rfl⟩
theorem versions_of_laid {W : World} (h : laidMetH Tryz.prog YthdioiodfodlpaaGreatDoor.Rows.costMatchesReferenceRow.laid W) : W.var? Tryz.prog "zoneinfo/header.versions" = some #[.int .u8 0, .int .u8 0, .int .u8 50, .int .u8 51, .int .u8 52] := by
  obtain ⟨ps, ⟨g, t, cs, fuel, p, q, hg, ht, hv, hd, _, _⟩, _⟩ := (parts h).1
  obtain rfl := Option.some.inj (vs.symm.trans hg)
  have ht' : (Tryz.prog.globals[0]?).map (·.type) = some 166 := by kernel_rfl
  obtain rfl := Option.some.inj (ht'.symm.trans ht)
  obtain ⟨xs, m, rfl, hx, hl, hn, hi⟩ := DataW.trod_array (n := 5) (e := 5) (by kernel_rfl) hd
  have hc5 : Tryz.prog.cellsOf 5 = 1 := by kernel_rfl
  have hc166 : Tryz.prog.cellsOf 166 = 5 := by kernel_rfl
  have hu5 : Tryz.prog.underlying 5 = some (.int .u8) := by kernel_rfl
  rw [hc166] at hl
  rw [hv]
  obtain ⟨cs⟩ := cs
  obtain ⟨a, b, c, d, e, rfl⟩ := list_five hl
  obtain ⟨x, y, z, u, w, rfl⟩ := list_five hn
  have h0 := hi 0 (by omega)
  have h1 := hi 1 (by omega)
  have h2 := hi 2 (by omega)
  have h3 := hi 3 (by omega)
  have h4 := hi 4 (by omega)
  rw [hc5] at h0 h1 h2 h3 h4
  have h0' : DataW.trod (fun _ => ()) Tryz.prog W 0 (fun _ => true) false m 5 [a] = some x := h0
  have h1' : DataW.trod (fun _ => ()) Tryz.prog W 0 (fun _ => true) false m 5 [b] = some y := h1
  have h2' : DataW.trod (fun _ => ()) Tryz.prog W 0 (fun _ => true) false m 5 [c] = some z := h2
  have h3' : DataW.trod (fun _ => ()) Tryz.prog W 0 (fun _ => true) false m 5 [d] = some u := h3
  have h4' : DataW.trod (fun _ => ()) Tryz.prog W 0 (fun _ => true) false m 5 [e] = some w := h4
  obtain ⟨b0, e0, f0, _⟩ := DataW.trod_int hu5 h0'
  obtain ⟨b1, e1, f1, _⟩ := DataW.trod_int hu5 h1'
  obtain ⟨b2, e2, f2, _⟩ := DataW.trod_int hu5 h2'
  obtain ⟨b3, e3, f3, _⟩ := DataW.trod_int hu5 h3'
  obtain ⟨b4, e4, f4, _⟩ := DataW.trod_int hu5 h4'
  have hx1 := congrArg Prod.fst hx
  have hx2 : (DataW.agg [.lit (.int .u8 0), .lit (.int .u8 0), .lit (.int .u8 50), .lit (.int .u8 51), .lit (.int .u8 52)] : DataW Unit) = .agg [x.1, y.1, z.1, u.1, w.1] := hx1
  rw [f0, f1, f2, f3, f4] at hx2
  simp only [DataW.agg.injEq, List.cons.injEq, DataW.lit.injEq, Lit.int.injEq, true_and, and_true] at hx2
  simp only [List.cons.injEq, and_true] at e0 e1 e2 e3 e4
  obtain ⟨q0, q1, q2, q3, q4⟩ := hx2
  rw [e0, e1, e2, e3, e4, ← q0, ← q1, ← q2, ← q3, ← q4]
theorem flags_of_laid {W : World} (h : laidMetH Tryz.prog YthdioiodfodlpaaGreatDoor.Rows.costMatchesReferenceRow.laid W) : W.var? Tryz.prog "zoneinfo/indicators.flags" = some #[.bool false, .bool true] := by
  obtain ⟨ps, ⟨g0, t0, cs0, fuel0, p0, q0, _, _, _, _, ⟨g, t, cs, fuel, p, q, hg, ht, hv, hd, _, _⟩, _⟩, _⟩ := (parts h).1
  obtain rfl := Option.some.inj (fl.symm.trans hg)
  have ht' : (Tryz.prog.globals[1]?).map (·.type) = some 176 := by kernel_rfl
  obtain rfl := Option.some.inj (ht'.symm.trans ht)
  obtain ⟨xs, m, rfl, hx, hl, hn, hi⟩ := DataW.trod_array (n := 2) (e := 4) (by kernel_rfl) hd
  have hc4 : Tryz.prog.cellsOf 4 = 1 := by kernel_rfl
  have hc176 : Tryz.prog.cellsOf 176 = 2 := by kernel_rfl
  have hu4 : Tryz.prog.underlying 4 = some .bool := by kernel_rfl
  rw [hc176] at hl
  rw [hv]
  obtain ⟨cs⟩ := cs
  obtain ⟨a, b, rfl⟩ := list_two hl
  obtain ⟨x, y, rfl⟩ := list_two hn
  have h0 := hi 0 (by omega)
  have h1 := hi 1 (by omega)
  rw [hc4] at h0 h1
  have h0' : DataW.trod (fun _ => ()) Tryz.prog W 0 (fun _ => true) false m 4 [a] = some x := h0
  have h1' : DataW.trod (fun _ => ()) Tryz.prog W 0 (fun _ => true) false m 4 [b] = some y := h1
  obtain ⟨b0, e0, f0⟩ := DataW.trod_bool hu4 h0'
  obtain ⟨b1, e1, f1⟩ := DataW.trod_bool hu4 h1'
  have hx1 := congrArg Prod.fst hx
  have hx2 : (DataW.agg [.lit (.bool false), .lit (.bool true)] : DataW Unit) = .agg [x.1, y.1] := hx1
  rw [f0, f1] at hx2
  simp only [DataW.agg.injEq, List.cons.injEq, DataW.lit.injEq, Lit.bool.injEq, and_true] at hx2
  simp only [List.cons.injEq, and_true] at e0 e1
  rw [e0, e1, ← hx2.1, ← hx2.2]
theorem gok_of_laid {W : World} (h : laidMetH Tryz.prog YthdioiodfodlpaaGreatDoor.Rows.costMatchesReferenceRow.laid W) : GOK G16 W (fun _ => False) := by
  have ht := var_of_laid h
  have hf := flags_of_laid h
  have hq := versions_of_laid h
  unfold World.var? at ht hf hq
  rw [et] at ht
  rw [fl] at hf
  rw [vs] at hq
  simp only [Option.bind_some] at ht hf hq
  have ir : ∀ n : Int, 0 ≤ n → n ≤ 255 → InR .u8 n := fun n h1 h2 => ⟨h1, h2⟩
  intro n l hl
  unfold G16 at hl
  cases hn : Nat.beq n 0 with
  | true =>
    rw [hn, cond_true] at hl
    cases hl
    have := nbeq hn
    subst this
    refine ⟨fun h => h, ?_⟩
    split at hq
    case h_2 => cases hq
    rename_i cs T fr hc
    simp only [Option.some.injEq] at hq
    refine ⟨cs, T, fr, hc, by rw [hq]; rfl, fun j v hv => ?_, fun j hj => ?_⟩
    · rw [hq]
      match j with
      | 0 => simp only [List.getElem?_cons_zero, Option.some.injEq] at hv; subst hv; exact .int (ir _ (by decide) (by decide))
      | 1 => simp only [List.getElem?_cons_succ, List.getElem?_cons_zero, Option.some.injEq] at hv; subst hv; exact .int (ir _ (by decide) (by decide))
      | 2 => simp only [List.getElem?_cons_succ, List.getElem?_cons_zero, Option.some.injEq] at hv; subst hv; exact .int (ir _ (by decide) (by decide))
      | 3 => simp only [List.getElem?_cons_succ, List.getElem?_cons_zero, Option.some.injEq] at hv; subst hv; exact .int (ir _ (by decide) (by decide))
      | 4 => simp only [List.getElem?_cons_succ, List.getElem?_cons_zero, Option.some.injEq] at hv; subst hv; exact .int (ir _ (by decide) (by decide))
      | j + 5 => simp at hv
    · rw [hq] at hj ⊢
      match j, hj with
      | 0, _ => rfl
      | 1, _ => rfl
      | 2, _ => rfl
      | 3, _ => rfl
      | 4, _ => rfl
      | j + 5, hj => exact absurd hj (by simp)
  | false =>
    rw [hn, cond_false] at hl
    cases hn1 : Nat.beq n 1 with
    | true =>
      rw [hn1, cond_true] at hl
      cases hl
      have := nbeq hn1
      subst this
      refine ⟨fun h => h, ?_⟩
      split at hf
      case h_2 => cases hf
      rename_i cs T fr hc
      simp only [Option.some.injEq] at hf
      refine ⟨cs, T, fr, hc, by rw [hf]; rfl, fun j v hv => ?_, fun j hj => ?_⟩
      · match j with
        | 0 =>
          simp only [List.getElem?_cons_zero, Option.some.injEq] at hv
          subst hv
          rw [hf]
          exact .bool
        | 1 =>
          simp only [List.getElem?_cons_succ, List.getElem?_cons_zero, Option.some.injEq] at hv
          subst hv
          rw [hf]
          exact .bool
        | j + 2 => simp at hv
      · rw [hf] at hj ⊢
        match j, hj with
        | 0, _ => rfl
        | 1, _ => rfl
        | j + 2, hj => exact absurd hj (by simp)
    | false =>
      rw [hn1, cond_false] at hl
      cases hn3 : Nat.beq n 3 with
      | false => rw [hn3] at hl; cases hl
      | true =>
        rw [hn3, cond_true] at hl
        cases hl
        have := nbeq hn3
        subst this
        refine ⟨fun h => h, ?_⟩
        split at ht
        case h_2 => cases ht
        rename_i cs T fr hc
        simp only [Option.some.injEq] at ht
        refine ⟨cs, T, fr, hc, by rw [ht]; rfl, fun j v hv => ?_, fun j hj => ?_⟩
        · cases j with
          | zero =>
            simp only [List.getElem?_cons_zero, Option.some.injEq] at hv
            subst hv
            rw [ht]
            exact .val rfl
          | succ j => simp at hv
        · rw [ht] at hj ⊢
          have : j = 0 := by simpa using hj
          subst this
          rfl
noncomputable def laidWorld (os : Os) : World :=
  let w0 := World.holding Tryz.prog os ⟨#[], #[], []⟩
  { w0 with heap := ((w0.heap.modify 0 fun
      | .cells _ t frozen => .cells #[.int .u8 0, .int .u8 0, .int .u8 50, .int .u8 51, .int .u8 52] t frozen
      | o => o).modify 1 fun
      | .cells _ t frozen => .cells #[.bool false, .bool true] t frozen
      | o => o).modify 3 fun
      | .cells _ t frozen => .cells #[errT] t frozen
      | o => o }
theorem door_met (os : Os) (args : Array Value) : laidMetH Tryz.prog YthdioiodfodlpaaGreatDoor.Rows.costMatchesReferenceRow.laid ((laidWorld os).forCall (fun _ _ => 0) ⟨#[], args, []⟩).memory :=
  laidMetH_of_parts (laidMet_of_run' 8 (by kernel_rfl) (by kernel_rfl)) (by kernel_rfl)
theorem types_of {xs : List (List IV)} (h : ∀ x ∈ xs, ∃ vs, KRep [.int .i32, .bool, .int .u8] x vs) : okT xs := by
  have : ∃ L : List Ty, xs = L.map cellsT ∧ ∀ t ∈ L, okTy t := by
    induction xs with
    | nil => exact ⟨[], rfl, fun t h => by cases h⟩
    | cons x xs ih =>
      obtain ⟨L, rfl, hL⟩ := ih fun y hy => h y (by simp [hy])
      obtain ⟨vs, hx⟩ := h x (by simp)
      obtain ⟨o, is1, vs1, e1, e2, ho, hx1⟩ := hx.cons_int
      obtain ⟨d, is2, vs2, e3, e4, hx2⟩ := hx1.cons_bool
      obtain ⟨g, is3, vs3, e5, e6, hg, hx3⟩ := hx2.cons_int
      obtain ⟨e7, e8⟩ := hx3.end
      subst e7 e8 e5 e6 e3 e4 e1 e2
      have ho' : (-2147483648 : Int) ≤ o ∧ o ≤ 2147483647 := ho
      have hg' : (0 : Int) ≤ g ∧ g ≤ 255 := hg
      exact ⟨⟨o, d, g⟩ :: L, rfl, fun t ht => by
        rcases List.mem_cons.1 ht with rfl | ht
        · exact ⟨ho'.1, ho'.2, hg'.1, hg'.2⟩
        · exact hL t ht⟩
  obtain ⟨L, rfl, hL⟩ := this
  have e : tys (L.map cellsT) = L := by
    simp only [tys, List.map_map]
    conv => rhs; rw [← List.map_id L]
    exact List.map_congr_left fun t _ => rfl
  exact ⟨by rw [e], by rw [e]; exact hL⟩
theorem leaps_of {xs : List (List IV)} (h : ∀ x ∈ xs, ∃ vs, KRep [.int .i64, .int .i32] x vs) : okL xs := by
  have : ∃ L : List Lp, xs = L.map cellsL ∧ ∀ t ∈ L, okLp t := by
    induction xs with
    | nil => exact ⟨[], rfl, fun t h => by cases h⟩
    | cons x xs ih =>
      obtain ⟨L, rfl, hL⟩ := ih fun y hy => h y (by simp [hy])
      obtain ⟨vs, hx⟩ := h x (by simp)
      obtain ⟨o, is1, vs1, e1, e2, ho, hx1⟩ := hx.cons_int
      obtain ⟨g, is3, vs3, e5, e6, hg, hx3⟩ := hx1.cons_int
      obtain ⟨e7, e8⟩ := hx3.end
      subst e7 e8 e5 e6 e1 e2
      have ho' : (-9223372036854775808 : Int) ≤ o ∧ o ≤ 9223372036854775807 := ho
      have hg' : (-2147483648 : Int) ≤ g ∧ g ≤ 2147483647 := hg
      exact ⟨⟨o, g⟩ :: L, rfl, fun t ht => by
        rcases List.mem_cons.1 ht with rfl | ht
        · exact ⟨ho'.1, ho'.2, hg'.1, hg'.2⟩
        · exact hL t ht⟩
  obtain ⟨L, rfl, hL⟩ := this
  have e : lps (L.map cellsL) = L := by
    simp only [lps, List.map_map]
    conv => rhs; rw [← List.map_id L]
    exact List.map_congr_left fun t _ => rfl
  exact ⟨by rw [e], by rw [e]; exact hL⟩
end Y27
set_option maxRecDepth 100000
namespace Y27
open Go Go.AE Go.Proofs E6
def biU (b : Bool) : Int := bif b then 1 else 0
def wkU (n : Int) : Int := if Int.tmod (IntKind.wrap .i64 (n - 3)) 7 < 0 then IntKind.wrap .i64 (Int.tmod (IntKind.wrap .i64 (n - 3)) 7 + 7) else Int.tmod (IntKind.wrap .i64 (n - 3)) 7
def leapU (n : Int) : Bool := Int.tmod n 400 == 0 || (Int.tmod n 4 == 0 && Int.tmod n 100 != 0)
def eraK (n : Int) : Int := if Int.tmod (IntKind.wrap .i64 (n - 2000)) 400 < 0 then IntKind.wrap .i64 (IntKind.wrap .i64 (Int.tdiv (IntKind.wrap .i64 (n - 2000)) 400) - 1) else IntKind.wrap .i64 (Int.tdiv (IntKind.wrap .i64 (n - 2000)) 400)
def eraR (n : Int) : Int := if Int.tmod (IntKind.wrap .i64 (n - 2000)) 400 < 0 then IntKind.wrap .i64 (Int.tmod (IntKind.wrap .i64 (n - 2000)) 400 + 400) else Int.tmod (IntKind.wrap .i64 (n - 2000)) 400
def cmpU (a b c d : Int) : Int := if (decide (a < c) || a == c && decide (b < d)) = true then -1 else if (a == c && (b == d && true)) = true then 0 else 1
def minU (t c : Int) : Int := if (decide (c > 0) && decide (t < IntKind.wrap .i64 (-9223372036854775808 + c))) = true then -9223372036854775808 else if (decide (c < 0) && decide (t > IntKind.wrap .i64 (9223372036854775807 + c))) = true then 9223372036854775807 else IntKind.wrap .i64 (t - c)
def vDay (a b c d e f : Int) : Bool := if (decide (f < -604799) || decide (f > 604799)) = true then false else if (a == 1) = true then (decide (b ≥ 1) && decide (b ≤ 365) && c == 0 && d == 0 && e == 0) else if (a == 2) = true then (decide (b ≥ 0) && decide (b ≤ 365) && c == 0 && d == 0 && e == 0) else (a == 3 && b == 0 && decide (c ≥ 1) && decide (c ≤ 12) && decide (d ≥ 1) && decide (d ≤ 5) && decide (e ≥ 0) && decide (e ≤ 6))
def zRuC : List AV := ruC [] 0 false [] 0 (rdC 0 0 0 0 0 0) (rdC 0 0 0 0 0 0)
def sBI : List AV → Option (List Prop × List AV)
  | [.imm (.bool b)] => some ([], [i64 (biU b)])
  | _ => none
def sWk : List AV → Option (List Prop × List AV)
  | [.imm (.int .i64 n)] => some ([], [i64 (wkU n)])
  | _ => none
def sLeap : List AV → Option (List Prop × List AV)
  | [.imm (.int .i64 n)] => some ([], [bo (leapU n)])
  | _ => none
def sEra : List AV → Option (List Prop × List AV)
  | [.imm (.int .i64 n)] => some ([], [i64 (eraK n), i64 (eraR n)])
  | _ => none
def sCmp : List AV → Option (List Prop × List AV)
  | [.agg [.imm (.int .i64 a), .imm (.int .i64 b)], .agg [.imm (.int .i64 c), .imm (.int .i64 d)]] => some ([], [i64 (cmpU a b c d)])
  | _ => none
def sMinus : List AV → Option (List Prop × List AV)
  | [.imm (.int .i64 t), .imm (.int .i64 c)] => some ([], [i64 (minU t c)])
  | _ => none
def sFail9 : List AV → Option (List Prop × List AV)
  | [.imm (.int .i64 n)] => some ([], [.agg zRuC, i64 14, i64 n])
  | _ => none
def sVDay : List AV → Option (List Prop × List AV)
  | [.agg [.imm (.int .i64 a), .imm (.int .i64 b), .imm (.int .i64 c), .imm (.int .i64 d), .imm (.int .i64 e), .imm (.int .i64 f)]] => some ([], [bo (vDay a b c d e f)])
  | _ => none
noncomputable def N0 : Cx := ⟨Tryz.prog, F13, noCall, G16, 4020⟩
def F20 := addE (addE (addE (addE (addE (addE (addE (addE F13 119 sBI) 123 sWk) 134 sLeap) 140 sEra) 121 sCmp) 69 sMinus) 94 sFail9) 118 sVDay
noncomputable def N1 : Cx := ⟨Tryz.prog, F20, noCall, G16, 4020⟩
def mdU (y m : Int) : Int := if (m == 4 || m == 6 || m == 9 || m == 11) = true then 30 else if (m == 2) = true then (bif leapU y then 29 else 28) else 31
def splD (t : Int) : Int := IntKind.wrap .i64 (IntKind.wrap .i64 (Int.tdiv (IntKind.wrap .i64 (t - Int.tmod t 86400)) 86400) - biU (decide (Int.tmod t 86400 < 0)))
def splS (t : Int) : Int := if Int.tmod t 86400 < 0 then IntKind.wrap .i64 (Int.tmod t 86400 + 86400) else Int.tmod t 86400
def sMD : List AV → Option (List Prop × List AV)
  | [.imm (.int .i64 y), .imm (.int .i64 m)] => some ([], [i64 (mdU y m)])
  | _ => none
def sSplit : List AV → Option (List Prop × List AV)
  | [.imm (.int .i64 t)] => some ([], [i64 (splD t), i64 (splS t)])
  | _ => none
def F21 := addE (addE F20 135 sMD) 100 sSplit
noncomputable def N2 : Cx := ⟨Tryz.prog, F21, noCall, G16, 4020⟩
def h141 (y m n k : Int) : St := ⟨spr [(0, i64 y), (1, i64 m), (7, i64 n), (8, i64 k)] 0 22, [], 0, []⟩
def o141 (y m n k : Int) : St := ⟨spr [(0, i64 y), (1, i64 m), (7, i64 n), (8, i64 k), (11, i64 k), (12, i64 m), (13, bo (decide (k < m)))] 0 22, [], 0, []⟩
def p141 : Plan := ⟨[], msk [0, 1, 7, 8] 0 22, []⟩
def h139 (y m d r n i : Int) : St := ⟨spr [(0, i64 y), (1, i64 m), (2, i64 d), (8, i64 r), (9, i64 n), (10, i64 i)] 0 36, [], 0, []⟩
def o139 (y m d r n i : Int) : St := ⟨spr [(0, i64 y), (1, i64 m), (2, i64 d), (8, i64 r), (9, i64 n), (10, i64 i), (19, i64 i), (20, i64 r), (21, bo (decide (i < r)))] 0 36, [], 0, []⟩
def p139 : Plan := ⟨[], msk [0, 1, 2, 8, 9, 10] 0 36, []⟩
def h132 (a b : Int) : St := ⟨spr [(0, i64 a), (1, i64 b), (4, .ptr 0 0)] 0 20, [(0, ⟨true, 0, .cells [i64 0, i64 0]⟩)], 1, []⟩
def o132 (a b : Int) : St := ⟨spr [(0, i64 a), (1, i64 b), (4, .ptr 0 0), (5, i64 b), (6, bo (decide (b < 0)))] 0 20, [(0, ⟨true, 0, .cells [i64 0, i64 0]⟩)], 1, []⟩
def q132 (a b : Int) : St := ⟨spr [(0, i64 a), (1, i64 b), (4, .ptr 0 0), (11, i64 b), (12, bo (decide (b ≥ 86400)))] 0 20, [(0, ⟨true, 0, .cells [i64 0, i64 0]⟩)], 1, []⟩
def p132 : Plan := ⟨[], msk [0, 1, 4] 0 20, [0]⟩
def h122 (k n y : Int) : St := ⟨spr [(5, i64 k), (6, i64 n), (7, i64 y)] 0 52, [], 0, []⟩
def o122 (k n y l : Int) (lp : Bool) : St := ⟨spr [(5, i64 k), (6, i64 n), (7, i64 y), (8, i64 l), (22, i64 y), (23, bo lp), (24, i64 n), (25, i64 l), (26, bo (decide (n < l)))] 0 52, [], 0, []⟩
def p122 : Plan := ⟨[], msk [5, 6, 7] 0 52, []⟩
def h122b (k n y m : Int) : St := ⟨spr [(5, i64 k), (6, i64 n), (7, i64 y), (9, i64 m)] 0 52, [], 0, []⟩
def o122b (k n y m : Int) : St := ⟨spr [(5, i64 k), (6, i64 n), (7, i64 y), (9, i64 m), (32, i64 n), (33, i64 y), (34, i64 m), (35, i64 (mdU y m)), (36, bo (decide (n ≥ mdU y m)))] 0 52, [], 0, []⟩
def p122b : Plan := ⟨[], msk [5, 6, 7, 9] 0 52, []⟩
end Y27
set_option maxRecDepth 100000
namespace Y27
open Go Go.AE Go.Proofs E6
attribute [local irreducible] loopK evCode evSpec loopB norm
theorem g119_in (b : Bool) (K : List AV → Prop) : evSpec N0 Tryz.f119 [bo b] K =
  (brn b (K [AV.imm (IV.int IntKind.i64 (1 : Int))]) (K [AV.imm (IV.int IntKind.i64 (0 : Int))])) := by kernel_rfl
theorem g123_in (n : Int) (K : List AV → Prop) : evSpec N0 Tryz.f123 [i64 n] K = ((7 : Int) ≠ 0 ∧ brn (decide (Int.tmod (IntKind.wrap .i64 (n - 3)) (7 : Int) < 0)) (K [i64 (IntKind.wrap .i64 (Int.tmod (IntKind.wrap .i64 (n - 3)) (7 : Int) + 7))]) (K [i64 (Int.tmod (IntKind.wrap .i64 (n - 3)) (7 : Int))])) := by kernel_rfl
theorem g134_in (n : Int) (K : List AV → Prop) : evSpec N0 Tryz.f134 [i64 n] K = ((400 : Int) ≠ 0 ∧ brn (Int.tmod n (400 : Int) == 0) (K [bo true]) ((4 : Int) ≠ 0 ∧ ((Int.tmod n (4 : Int) == 0) = true → (100 : Int) ≠ 0) ∧ K [bo (Int.tmod n (4 : Int) == 0 && Int.tmod n (100 : Int) != 0)])) := by kernel_rfl
theorem g140_in (n : Int) (K : List AV → Prop) : evSpec N0 Tryz.f140 [i64 n] K = ((400 : Int) ≠ 0 ∧ (400 : Int) ≠ 0 ∧ brn (decide (Int.tmod (IntKind.wrap .i64 (n - 2000)) (400 : Int) < 0)) (K [i64 (IntKind.wrap .i64 (IntKind.wrap .i64 (Int.tdiv (IntKind.wrap .i64 (n - 2000)) (400 : Int)) - 1)), i64 (IntKind.wrap .i64 (Int.tmod (IntKind.wrap .i64 (n - 2000)) (400 : Int) + 400))]) (K [i64 (IntKind.wrap .i64 (Int.tdiv (IntKind.wrap .i64 (n - 2000)) (400 : Int))), i64 (Int.tmod (IntKind.wrap .i64 (n - 2000)) (400 : Int))])) := by kernel_rfl
theorem g121_in (a : Int) (b : Int) (c : Int) (d : Int) (K : List AV → Prop) : evSpec N0 Tryz.f121 [.agg [i64 a, i64 b], .agg [i64 c, i64 d]] K = (brn (decide (a < c) || a == c && decide (b < d)) (K [i64 (-1 : Int)]) (brn (a == c && (b == d && true)) (K [i64 0]) (K [i64 1]))) := by kernel_rfl
theorem g69_in (t : Int) (c : Int) (K : List AV → Prop) : evSpec N0 Tryz.f69 [i64 t, i64 c] K = (brn (decide (c > 0) && decide (t < IntKind.wrap .i64 ((-9223372036854775808 : Int) + c))) (K [i64 (-9223372036854775808 : Int)]) (brn (decide (c < 0) && decide (t > IntKind.wrap .i64 ((9223372036854775807 : Int) + c))) (K [i64 9223372036854775807]) (K [i64 (IntKind.wrap .i64 (t - c))]))) := by kernel_rfl
theorem g94_in (n : Int) (K : List AV → Prop) : evSpec N0 Tryz.f94 [i64 n] K = (K [.agg [.imm (.str []), i64 0, bo false, .imm (.str []), i64 0, i64 0, i64 0, i64 0, i64 0, i64 0, i64 0, i64 0, i64 0, i64 0, i64 0, i64 0, i64 0], i64 14, i64 n]) := by kernel_rfl
theorem g118_in (a : Int) (b : Int) (c : Int) (d : Int) (e : Int) (f : Int) (K : List AV → Prop) : evSpec N0 Tryz.f118 [.agg (rdC a b c d e f)] K = (brn (decide (f < (-604799 : Int)) || decide (f > 604799)) (K [bo false]) (brn (a == 1) (K [bo (decide (b ≥ 1) && decide (b ≤ 365) && c == 0 && d == 0 && e == 0)]) (brn (a == 2) (K [bo (decide (b ≥ 0) && decide (b ≤ 365) && c == 0 && d == 0 && e == 0)]) (K [bo (a == 3 && b == 0 && decide (c ≥ 1) && decide (c ≤ 12) && decide (d ≥ 1) && decide (d ≤ 5) && decide (e ≥ 0) && decide (e ≤ 6))])))) := by kernel_rfl
end Y27
set_option maxRecDepth 100000
namespace Y27
open Go Go.AE Go.Proofs E6
attribute [local irreducible] loopK evCode evSpec loopB norm
theorem g135_in (y : Int) (m : Int) (K : List AV → Prop) : evSpec N1 Tryz.f135 [i64 y, i64 m] K = (brn (m == 4) (brn (m == 4) (K [i64 30]) (brn (m == 2) (brn (leapU y) (K [i64 29]) (K [i64 28])) (K [i64 31]))) (brn (m == 6) (brn (m == 6) (K [i64 30]) (brn (m == 2) (brn (leapU y) (K [i64 29]) (K [i64 28])) (K [i64 31]))) (brn (m == 9) (brn (m == 9) (K [i64 30]) (brn (m == 2) (brn (leapU y) (K [i64 29]) (K [i64 28])) (K [i64 31]))) (brn (m == 11) (K [i64 30]) (brn (m == 2) (brn (leapU y) (K [i64 29]) (K [i64 28])) (K [i64 31])))))) := by kernel_rfl
theorem g100_in (t : Int) (K : List AV → Prop) : evSpec N1 Tryz.f100 [i64 t] K = ((86400 : Int) ≠ 0 ∧ brn (decide (Int.tmod t (86400 : Int) < 0)) ((86400 : Int) ≠ 0 ∧ (86400 : Int) ≠ 0 ∧ (86400 : Int) ≠ 0 ∧ K [i64 (IntKind.wrap .i64 (IntKind.wrap .i64 (Int.tdiv (IntKind.wrap .i64 (t - Int.tmod t (86400 : Int))) (86400 : Int)) - biU (decide (Int.tmod t (86400 : Int) < 0)))), i64 (IntKind.wrap .i64 (Int.tmod t (86400 : Int) + 86400))]) ((86400 : Int) ≠ 0 ∧ (86400 : Int) ≠ 0 ∧ (86400 : Int) ≠ 0 ∧ K [i64 (IntKind.wrap .i64 (IntKind.wrap .i64 (Int.tdiv (IntKind.wrap .i64 (t - Int.tmod t (86400 : Int))) (86400 : Int)) - biU (decide (Int.tmod t (86400 : Int) < 0)))), i64 (Int.tmod t (86400 : Int))])) := by kernel_rfl
theorem g141_in (y : Int) (m : Int) (d : Int) (K : List AV → Prop) : evSpec N2 Tryz.f141 [i64 y, i64 m, i64 d] K = (LoopI N2 (bodyOf Tryz.f141) 0 (St.mk (lapp [i64 y, i64 m, i64 d, .dead, .dead, .dead, i64 0, i64 (IntKind.wrap .i64 (d - 1)), i64 1, i64 d, i64 (IntKind.wrap .i64 (d - 1))] (dN 11)) [] 0 []) (finK N2 Tryz.f141 K)) := by kernel_rfl
theorem g132_in (a : Int) (b : Int) (K : List AV → Prop) : evSpec N2 Tryz.f132 [i64 a, i64 b] K = (LoopI N2 (bodyOf Tryz.f132) 0 (St.mk (lapp [i64 a, i64 b, .dead, .dead, .ptr 0 0] (dN 15)) [(0, Ob.mk true 0 (AObj.cells [i64 0, i64 0]))] 1 []) (finK N2 Tryz.f132 K)) := by kernel_rfl
theorem g122_in (a : Int) (K : List AV → Prop) : evSpec N2 Tryz.f122 [i64 a] K = ((146097 : Int) ≠ 0 ∧ (146097 : Int) ≠ 0 ∧ brn (decide (Int.tmod (IntKind.wrap .i64 (a - 10957)) (146097 : Int) < 0)) (LoopI N2 (bodyOf Tryz.f122) 0 (St.mk (lapp [i64 a, .dead, i64 0, i64 0, i64 0, i64 (IntKind.wrap .i64 (IntKind.wrap .i64 (Int.tdiv (IntKind.wrap .i64 (a - 10957)) (146097 : Int)) - 1)), i64 (IntKind.wrap .i64 (Int.tmod (IntKind.wrap .i64 (a - 10957)) (146097 : Int) + 146097)), i64 0, .dead, .dead, i64 a, i64 (IntKind.wrap .i64 (a - 10957)), i64 (IntKind.wrap .i64 (Int.tdiv (IntKind.wrap .i64 (a - 10957)) (146097 : Int))), i64 a, i64 (IntKind.wrap .i64 (a - 10957)), i64 (Int.tmod (IntKind.wrap .i64 (a - 10957)) (146097 : Int)), i64 (Int.tmod (IntKind.wrap .i64 (a - 10957)) (146097 : Int)), bo (decide (Int.tmod (IntKind.wrap .i64 (a - 10957)) (146097 : Int) < 0)), i64 (IntKind.wrap .i64 (Int.tdiv (IntKind.wrap .i64 (a - 10957)) (146097 : Int))), i64 (IntKind.wrap .i64 (IntKind.wrap .i64 (Int.tdiv (IntKind.wrap .i64 (a - 10957)) (146097 : Int)) - 1))] (dN 32)) [] 0 []) (finK N2 Tryz.f122 K)) (LoopI N2 (bodyOf Tryz.f122) 0 (St.mk (lapp [i64 a, .dead, i64 0, i64 0, i64 0, i64 (IntKind.wrap
 .i64 (Int.tdiv (IntKind.wrap .i64 (a - 10957)) (146097 : Int))), i64 (Int.tmod (IntKind.wrap .i64 (a - 10957)) (146097 : Int)), i64 0, .dead, .dead, i64 a, i64 (IntKind.wrap .i64 (a - 10957)), i64 (IntKind.wrap .i64 (Int.tdiv (IntKind.wrap .i64 (a - 10957)) (146097 : Int))), i64 a, i64 (IntKind.wrap .i64 (a - 10957)), i64 (Int.tmod (IntKind.wrap .i64 (a - 10957)) (146097 : Int)), i64 (Int.tmod (IntKind.wrap .i64 (a - 10957)) (146097 : Int)), bo (decide (Int.tmod (IntKind.wrap .i64 (a - 10957)) (146097 : Int) < 0))] (dN 34)) [] 0 []) (finK N2 Tryz.f122 K))) := by kernel_rfl
end Y27
set_option maxRecDepth 100000
namespace Y27
open Go Go.AE Go.Proofs E6
attribute [local irreducible] loopK evCode evSpec loopB norm
theorem g141_lp (y : Int) (m : Int) (n : Int) (i : Int) (k : AX → St → Prop) : evCode N2 (loopB (bodyOf Tryz.f141) 0) (h141 y m n i) k = (brn (decide (i < m)) (k AX.normal (St.mk (lapp [i64 y, i64 m] (lapp (dN 5) [i64 (IntKind.wrap .i64 (n + mdU y i)), i64 (IntKind.wrap .i64 (i + 1)), .dead, .dead, i64 i, i64 m, bo (decide (i < m)), i64 i, i64 (IntKind.wrap .i64 (i + 1)), i64 n, i64 y, i64 i, i64 (mdU y i), .dead, .dead])) [] 0 [])) (k (AX.exit 0) (St.mk (lapp [i64 y, i64 m] (lapp (dN 5) (lapp [i64 n, i64 i, .dead, .dead, i64 i, i64 m, bo (decide (i < m))] (dN 8)))) [] 0 []))) := by kernel_rfl
theorem g141_out (y : Int) (m : Int) (n : Int) (i : Int) (K : List AV → Prop) : loopK N2 (bodyOf Tryz.f141) 0 (finK N2 Tryz.f141 K) (AX.exit 0) (o141 y m n i) = (K [i64 n]) := by kernel_rfl
theorem g132_lp (a : Int) (b : Int) (k : AX → St → Prop) : evCode N2 (loopB (bodyOf Tryz.f132) 0) (h132 a b) k = (brn (decide (b < 0)) (k AX.normal (St.mk (lapp [i64 (IntKind.wrap .i64 (a - 1)), i64 (IntKind.wrap .i64 (b + 86400)), .dead, .dead, .ptr 0 0, i64 b, bo (decide (b < 0)), i64 b, i64 (IntKind.wrap .i64 (b + 86400)), i64 a, i64 (IntKind.wrap .i64 (a - 1))] (dN 9)) [(0, Ob.mk true 0 (AObj.cells [i64 0, i64 0]))] 1 [])) (k (AX.exit 0) (St.mk (lapp [i64 a, i64 b, .dead, .dead, .ptr 0 0, i64 b, bo (decide (b < 0))] (dN 13)) [(0, Ob.mk true 0 (AObj.cells [i64 0, i64 0]))] 1 []))) := by kernel_rfl
theorem g132_out (a : Int) (b : Int) (K : List AV → Prop) : loopK N2 (bodyOf Tryz.f132) 0 (finK N2 Tryz.f132 K) (AX.exit 0) (o132 a b) = (LoopI N2 (bodyOf Tryz.f132) 1 (St.mk (lapp [i64 a, i64 b, .dead, .dead, .ptr 0 0, i64 b, bo (decide (b < 0))] (dN 13)) [(0, Ob.mk true 0 (AObj.cells [i64 0, i64 0]))] 1 []) (finK N2 Tryz.f132 K)) := by kernel_rfl
theorem g132_lp2 (a : Int) (b : Int) (k : AX → St → Prop) : evCode N2 (loopB (bodyOf Tryz.f132) 1) (h132 a b) k = (brn (decide (b ≥ 86400)) (k AX.normal (St.mk (lapp [i64 (IntKind.wrap .i64 (a + 1)), i64 (IntKind.wrap .i64 (b - 86400)), .dead, .dead, .ptr 0 0] (lapp (dN 6) [i64 b, bo (decide (b ≥ 86400)), i64 b, i64 (IntKind.wrap .i64 (b - 86400)), i64 a, i64 (IntKind.wrap .i64 (a + 1)), .dead, .dead, .dead])) [(0, Ob.mk true 0 (AObj.cells [i64 0, i64 0]))] 1 [])) (k (AX.exit 2) (St.mk (lapp [i64 a, i64 b, .dead, .dead, .ptr 0 0] (lapp (dN 6) (lapp [i64 b, bo (decide (b ≥ 86400))] (dN 7)))) [(0, Ob.mk true 0 (AObj.cells [i64 0, i64 0]))] 1 []))) := by kernel_rfl
theorem g132_out2 (a : Int) (b : Int) (K : List AV → Prop) : loopK N2 (bodyOf Tryz.f132) 1 (finK N2 Tryz.f132 K) (AX.exit 2) (q132 a b) = (K [.agg [i64 a, i64 b]]) := by kernel_rfl
theorem g122_lp (q : Int) (n : Int) (y : Int) (k : AX → St → Prop) : evCode N2 (loopB (bodyOf Tryz.f122) 0) (h122 q n y) k = (brn (leapU y) (brn (decide (n < 366)) (k (AX.exit 0) (St.mk (lapp (dN 5) (lapp [i64 q, i64 n, i64 y, i64 366] (lapp (dN 15) (lapp [i64 n, i64 366, bo (decide (n < 366))] (dN 25))))) [] 0 [])) (k AX.normal (St.mk (lapp (dN 5) (lapp [i64 q, i64 (IntKind.wrap .i64 (n - 366)), i64 (IntKind.wrap .i64 (y + 1)), i64 366] (lapp (dN 21) (lapp [i64 y, i64 (IntKind.wrap .i64 (y + 1))] (dN 20))))) [] 0 []))) (brn (decide (n < 365)) (k (AX.exit 0) (St.mk (lapp (dN 5) (lapp [i64 q, i64 n, i64 y, i64 365] (lapp (dN 15) (lapp [i64 n, i64 365, bo (decide (n < 365))] (dN 25))))) [] 0 [])) (k AX.normal (St.mk (lapp (dN 5) (lapp [i64 q, i64 (IntKind.wrap .i64 (n - 365)), i64 (IntKind.wrap .i64 (y + 1)), i64 365] (lapp (dN 21) (lapp [i64 y, i64 (IntKind.wrap .i64 (y + 1))] (dN 20))))) [] 0 [])))) := by kernel_rfl
theorem g122_out (q : Int) (n : Int) (y : Int) (l : Int) (b : Bool) (K : List AV → Prop) : loopK N2 (bodyOf Tryz.f122) 0 (finK N2 Tryz.f122 K) (AX.exit 0) (o122 q n y l b) = (LoopI N2 (bodyOf Tryz.f122) 1 (St.mk (lapp (dN 5) (lapp [i64 q, i64 n, i64 y, i64 l, i64 1] (dN 42))) [] 0 []) (finK N2 Tryz.f122 K)) := by kernel_rfl
theorem g122_lp2 (q : Int) (n : Int) (y : Int) (m : Int) (k : AX → St → Prop) : evCode N2 (loopB (bodyOf Tryz.f122) 1) (h122b q n y m) k = (brn (decide (n ≥ mdU y m)) (k AX.normal (St.mk (lapp (dN 5) (lapp [i64 q, i64 (IntKind.wrap .i64 (n - mdU y m)), i64 y, .dead, i64 (IntKind.wrap .i64 (m + 1))] (lapp (dN 32) (lapp [i64 m, i64 (IntKind.wrap .i64 (m + 1))] (dN 8))))) [] 0 [])) (k (AX.exit 2) (St.mk (lapp (dN 5) (lapp [i64 q, i64 n, i64 y, .dead, i64 m] (lapp (dN 22) (lapp [i64 n, i64 y, i64 m, i64 (mdU y m), bo (decide (n ≥ mdU y m))] (dN 15))))) [] 0 []))) := by kernel_rfl
theorem g122_out2 (q : Int) (n : Int) (y : Int) (m : Int) (K : List AV → Prop) : loopK N2 (bodyOf Tryz.f122) 1 (finK N2 Tryz.f122 K) (AX.exit 2) (o122b q n y m) = (K [i64 (IntKind.wrap .i64 (IntKind.wrap .i64 ((2000 : Int) + IntKind.wrap .i64 ((400 : Int) * q)) + y)), i64 m, i64 (IntKind.wrap .i64 (n + 1))]) := by kernel_rfl
end Y27
