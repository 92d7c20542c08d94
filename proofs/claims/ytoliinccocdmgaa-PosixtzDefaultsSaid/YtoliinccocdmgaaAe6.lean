/- For every string, offset and pair of rule days the law PosixtzDefaults returns true and its arguments read as before. No further condition. -/
import Derived.Test.YtoliinccocdmgaaAe5
import Derived.Test.YtoliinccocdmgaaRows
set_option linter.all false
set_option maxRecDepth 100000
namespace Z09
open Go Go.AE Go.Proofs

/-! ### composed strings -/
theorem good7 {s : List UInt8} (h : A7.valid s = true) : ∀ b ∈ s, b ≠ 62 := by
  unfold A7.valid at h
  simp only [Bool.and_eq_true, List.all_eq_true] at h
  rintro b hb rfl
  exact absurd (h.1 _ hb) (by decide)
theorem place7_append {s u : List UInt8} {c : UInt8} (h : ∀ b ∈ s, b ≠ c) : A7.place (s ++ c :: u) c = s.length := by
  unfold A7.place
  rw [List.takeWhile_append_of_pos (fun b hb => by simpa using h b hb)]
  simp [List.takeWhile_cons]
theorem letters7_append {s u : List UInt8} (h : A7.bare s = true) (hu : u = [] ∨ A7.alphaB (u.getD 0 0) = false) : A7.letters (s ++ u) = s.length := by
  unfold A7.letters
  unfold A7.bare at h
  rw [List.all_eq_true] at h
  rw [List.takeWhile_append_of_pos h]
  have : u.takeWhile A7.alphaB = [] := by
    rcases hu with rfl | hu
    · rfl
    · cases u with
      | nil => rfl
      | cons b u =>
        have hu' : A7.alphaB b = false := hu
        simp [List.takeWhile_cons, hu']
  rw [this]
  simp
theorem parse7Q {s : List UInt8} (u : List UInt8) (hv : A7.valid s = true) : A7.parse ((60 :: (s ++ [62])) ++ u) = (s, ((60 :: (s ++ [62]) : List UInt8).length : Int), true) := by
  have hp : A7.place (s ++ 62 :: u) 62 = s.length := place7_append (good7 hv)
  have e : (60 :: (s ++ [62])) ++ u = 60 :: (s ++ 62 :: u) := by simp
  rw [e]
  have e2 : A7.parse (60 :: (s ++ 62 :: u)) = A7.parseQ (s ++ 62 :: u) := by simp [A7.parse]
  rw [e2]
  unfold A7.parseQ
  rw [hp, if_pos (by simp), List.take_left' rfl, if_pos hv]
  simp only [List.length_append, List.length_cons, List.length_nil, Prod.mk.injEq, and_true, true_and]
  omega
theorem parse7_fmt {s u : List UInt8} (hv : A7.valid s = true) (hu : u = [] ∨ A7.alphaB (u.getD 0 0) = false) : A7.parse (A7.fmt s ++ u) = (s, ((A7.fmt s).length : Int), true) := by
  unfold A7.fmt
  by_cases hb : A7.bare s = true
  · rw [if_pos hb]
    have hl := letters7_append hb hu
    have hp : A7.parse (s ++ u) = A7.parseP (s ++ u) := by
      cases s with
      | nil => exact absurd hv (by decide)
      | cons b r =>
        have : A7.alphaB b = true := by
          unfold A7.bare at hb
          rw [List.all_eq_true] at hb
          exact hb b (by simp)
        have h60 : b ≠ 60 := by
          rintro rfl
          exact absurd this (by decide)
        simp [A7.parse, h60]
    rw [hp]
    unfold A7.parseP
    rw [hl, List.take_left', if_pos hv]
    rfl
  · rw [if_neg hb]
    have : [60] ++ s ++ [62] = 60 :: (s ++ [62]) := by simp
    rw [this]
    exact parse7Q u hv

/-! what may stand behind an offset -/
def Aft (u : List UInt8) : Prop := u = [] ∨ (A8.isD (u.getD 0 0) = false ∧ u.getD 0 0 ≠ 58)
theorem runD_a {u : List UInt8} (h : Aft u) (t : List UInt8) : A8.runD (t ++ u) = A8.runD t := by
  rcases h with rfl | ⟨h, _⟩
  · rw [List.append_nil]
  · cases u with
    | nil => rw [List.append_nil]
    | cons c v => exact takeWhile_c h v t
theorem field_a {u : List UInt8} (h : Aft u) (t : List UInt8) : A8.field (t ++ u) = A8.field t := by
  rcases h with rfl | ⟨hd0, h580⟩
  · rw [List.append_nil]
  · cases u with
    | nil => rw [List.append_nil]
    | cons c v =>
      have hd : A8.isD c = false := hd0
      have h58 : c ≠ 58 := h580
      clear hd0 h580
      match t with
      | [] =>
        cases v with
        | nil => rfl
        | cons x v => cases v with
          | nil => rfl
          | cons y v => simp [A8.field, h58]
      | [x] => cases v with
        | nil => rfl
        | cons y v => simp [A8.field, hd]
      | [x, y] => simp [A8.field, hd]
      | x :: y :: z :: r => rfl
theorem fl_a {u : List UInt8} (h : Aft u) (t : List UInt8) : A8.fl (t ++ u) = A8.fl t := by
  unfold A8.fl
  rw [field_a h]
  cases hf : A8.field t with
  | none => rfl
  | some m =>
    have := field_3 hf
    simp only [drop_c (show 3 ≤ t.length by omega), field_a h]
theorem parse8_a {u : List UInt8} (h : Aft u) {t : List UInt8} (ht : t ≠ []) : A8.parse (t ++ u) = A8.parse t := by
  have ho : A8.off (t ++ u) = A8.off t ∧ A8.sgn (t ++ u) = A8.sgn t := by
    cases t with
    | nil => exact absurd rfl ht
    | cons b t => exact ⟨rfl, rfl⟩
  have hle := A8.off_le_len t
  have hh : A8.hoursP (t ++ u) (A8.off t) = A8.hoursP t (A8.off t) := by
    unfold A8.hoursP
    rw [drop_c hle, runD_a h]
  unfold A8.parse
  rw [ho.1, ho.2, hh]
  split
  · rename_i hok
    obtain ⟨n, e, hn, _⟩ := A8.hours_le t (A8.off t) hle hok
    rw [e, Int.toNat_natCast]
    have : A8.fieldsP (t ++ u) n = A8.fieldsP t n := by
      rw [A8.fieldsP_fl, A8.fieldsP_fl, drop_c hn, fl_a h]
    rw [this]
  · rfl
theorem fmt8_ne (t : Int) : A8.fmt t ≠ [] := by
  unfold A8.fmt
  split
  · simp
  · rw [A8.fmtN_eq]
    intro e
    have := dd_len (t.natAbs / 3600)
    rw [show dd (t.natAbs / 3600) = [] from (List.append_eq_nil_iff.1 e).1] at this
    exact absurd this.1 (by decide)
theorem parse8_fa {t : Int} (h0 : -604799 ≤ t) (h1 : t ≤ 604799) {u : List UInt8} (hu : Aft u) : A8.parse (A8.fmt t ++ u) = (t, ((A8.fmt t).length : Int), true) := by
  rw [parse8_a hu (fmt8_ne t), A8.parse_fmt h0 h1]
theorem notA_fmt8 {t : Int} (h0 : -604799 ≤ t) (h1 : t ≤ 604799) (u : List UInt8) : A8.fmt t ++ u = [] ∨ A7.alphaB ((A8.fmt t ++ u).getD 0 0) = false := by
  right
  have dig : ∀ n < 1000, ∀ v, A7.alphaB ((A8.dd n ++ v).getD 0 0) = false := by
    intro n hn v
    have hd := (A8.dd_ok hn).1
    have hl := dd_len n
    match hx : A8.dd n with
    | [] => have : dd n = [] := hx; rw [this] at hl; exact absurd hl.1 (by decide)
    | b :: r =>
      have := hd b (by rw [hx]; exact List.mem_cons_self ..)
      show A7.alphaB b = false
      unfold A8.isD at this
      simp only [Bool.and_eq_true, decide_eq_true_eq] at this
      unfold A7.alphaB A7.isAlpha
      simp
      omega
  unfold A8.fmt
  split
  · rfl
  · rw [A8.fmtN_eq, List.append_assoc]
    exact dig _ (by omega) _
theorem aft_fmt7 {s : List UInt8} (hv : A7.valid s = true) (u : List UInt8) : Aft (A7.fmt s ++ u) := by
  right
  unfold A7.fmt
  by_cases hb : A7.bare s = true
  · rw [if_pos hb]
    cases s with
    | nil => exact absurd hv (by decide)
    | cons b r =>
      have : A7.alphaB b = true := by
        unfold A7.bare at hb
        rw [List.all_eq_true] at hb
        exact hb b (by simp)
      show A8.isD b = false ∧ b ≠ 58
      constructor
      · cases h : A8.isD b with
        | false => rfl
        | true =>
          exfalso
          unfold A8.isD at h
          unfold A7.alphaB A7.isAlpha at this
          simp at h this
          omega
      · rintro rfl; exact absurd this (by decide)
  · rw [if_neg hb]
    show A8.isD 60 = false ∧ (60 : UInt8) ≠ 58
    exact ⟨by decide, by decide⟩

/-! the steps at a place -/
theorem nameQ_at {s y u a : List UInt8} {i : Nat} {F : List UInt8 → Nat → Out} (hd : s.drop i = y ++ u) (hp : A7.parse (y ++ u) = (a, (y.length : Int), true)) : nameQ s i F = F a (i + y.length) := by
  unfold nameQ
  rw [hd, hp]
  rfl
theorem offQ_at {s y u : List UInt8} {t : Int} {i : Nat} {F : Int → Nat → Out} (hd : s.drop i = y ++ u) (hp : A8.parse (y ++ u) = (t, (y.length : Int), true)) (hs : side t = true) : offQ s i F = F (0 - t) (i + y.length) := by
  unfold offQ
  rw [hd, hp]
  simp [hs]
theorem commaQ_at {s u : List UInt8} {i : Nat} {F : Nat → Out} (hd : s.drop i = [44] ++ u) : commaQ s i F = F (i + [(44 : UInt8)].length) := by
  unfold commaQ comma
  rw [hd]
  rfl
theorem dayQ_at {s y u : List UInt8} {i : Nat} {k d m w e t : Int} {F : Dv → Nat → Out} (hd : s.drop i = y ++ u) (hp : day (y ++ u) = ⟨k, d, m, w, e, t, (y.length : Int), true⟩) : dayQ s i F = F ⟨k, d, m, w, e, t⟩ (i + y.length) := by
  unfold dayQ
  rw [hd, hp]
  rfl
theorem drop_at {s y u : List UInt8} {i : Nat} (hd : s.drop i = y ++ u) : s.drop (i + y.length) = u := by
  rw [← List.drop_drop, hd]
  exact List.drop_left
/-- Both days, behind the offsets. -/
theorem days_at {s Y Z : List UInt8} {i : Nat} {a b : List UInt8} {o p : Int} {k d m w e t k' d' m' w' e' t' : Int} (hl : i ≤ s.length) (hd : s.drop i = [44] ++ (Y ++ ([44] ++ Z)))
    (h1 : day (Y ++ ([44] ++ Z)) = ⟨k, d, m, w, e, t, (Y.length : Int), true⟩) (h2 : day Z = ⟨k', d', m', w', e', t', (Z.length : Int), true⟩) (hv : validRu ⟨a, o, true, b, p, ⟨k, d, m, w, e, t⟩, ⟨k', d', m', w', e', t'⟩⟩ = true) :
    (commaQ s i fun i => dayQ s i fun S i => commaQ s i fun i => dayQ s i fun E i => endP s ⟨a, o, true, b, p, S, E⟩ i) = .rule ⟨a, o, true, b, p, ⟨k, d, m, w, e, t⟩, ⟨k', d', m', w', e', t'⟩⟩ := by
  have d1 := drop_at hd
  have d2 := drop_at d1
  have d3 := drop_at d2
  have d3' : s.drop (i + [(44 : UInt8)].length + Y.length + [(44 : UInt8)].length) = Z ++ [] := by rw [d3, List.append_nil]
  rw [commaQ_at hd, dayQ_at d1 h1, commaQ_at d2, dayQ_at d3' (by rw [List.append_nil]; exact h2)]
  have hlen : s.length = i + (1 + (Y.length + (1 + Z.length))) := by
    have := congrArg List.length hd
    simp only [List.length_drop, List.length_append, List.length_cons, List.length_nil] at this
    omega
  unfold endP
  rw [if_pos (by rw [hlen]; simp only [List.length_cons, List.length_nil]; omega), if_pos hv]
theorem side_of {n : Int} (h0 : -89999 ≤ n) (h1 : n ≤ 89999) : side n = true := by
  unfold side
  simp [h0, h1]
/-- A rule without daylight saving time. -/
theorem parse9_std {s : List UInt8} {a : Int} (hv : A7.valid s = true) (h0 : -89999 ≤ a) (h1 : a ≤ 89999) : parse9 (60 :: (s ++ [62]) ++ A8.fmt a) = .rule (stdR s (0 - a)) := by
  have d0 : (60 :: (s ++ [62]) ++ A8.fmt a).drop 0 = (60 :: (s ++ [62])) ++ A8.fmt a := rfl
  have d1 := drop_at d0
  have d1' : (60 :: (s ++ [62]) ++ A8.fmt a).drop (0 + (60 :: (s ++ [62])).length) = A8.fmt a ++ [] := by rw [d1, List.append_nil]
  unfold parse9
  rw [nameQ_at d0 (parse7Q _ hv), offQ_at d1' (parse8_fa (by omega) (by omega) (Or.inl rfl)) (side_of h0 h1)]
  have hlen : (60 :: (s ++ [62]) ++ A8.fmt a).length = 0 + (60 :: (s ++ [62])).length + (A8.fmt a).length := by rw [List.length_append]; omega
  rw [hlen, if_neg (by omega)]
  unfold endP
  rw [if_pos hlen.symm, if_pos]
  unfold validRu validRule stdR
  simp [hv, side_of (n := 0 - a) (by omega) (by omega), zD]
  exact side_of (n := -a) (by omega) (by omega)
theorem validRu_of {a b : List UInt8} {o p : Int} {k d m w e t k' d' m' w' e' t' : Int} (ha : A7.valid a = true) (hb : A7.valid b = true) (ho : side o = true) (hp : side p = true) (hs : validDay k d m w e t = true) (he : validDay k' d' m' w' e' t' = true) :
    validRu ⟨a, o, true, b, p, ⟨k, d, m, w, e, t⟩, ⟨k', d', m', w', e', t'⟩⟩ = true := by
  unfold validRu validRule
  simp [ha, hb, ho, hp, hs, he]
theorem end44 (Z : List UInt8) : End ([44] ++ Z) := Or.inr ⟨44, Z, rfl, Or.inr rfl⟩
theorem aft44 (Z : List UInt8) : Aft ([44] ++ Z) := Or.inr (show A8.isD 44 = false ∧ (44 : UInt8) ≠ 58 from ⟨by decide, by decide⟩)
/-- A rule with both offsets; Y spells the first day. -/
theorem parse9_full {s t N Y : List UInt8} {a b : Int} {k d m w e u k' d' m' w' e' u' : Int} (hs : A7.valid s = true) (ht : A7.valid t = true) (a0 : -89999 ≤ a) (a1 : a ≤ 89999) (b0 : -89999 ≤ b) (b1 : b ≤ 89999)
    (hN : ∀ v, (v = [] ∨ A7.alphaB (v.getD 0 0) = false) → A7.parse (N ++ v) = (t, (N.length : Int), true)) (hA : ∀ v, Aft (N ++ v))
    (hv : validDay k d m w e u = true) (hv' : validDay k' d' m' w' e' u' = true) (hY : ∀ Z, day (Y ++ ([44] ++ Z)) = ⟨k, d, m, w, e, u, (Y.length : Int), true⟩) :
    parse9 ((60 :: (s ++ [62])) ++ (A8.fmt a ++ (N ++ (A8.fmt b ++ ([44] ++ (Y ++ ([44] ++ dayF k' d' m' w' e' u'))))))) = .rule ⟨s, 0 - a, true, t, 0 - b, ⟨k, d, m, w, e, u⟩, ⟨k', d', m', w', e', u'⟩⟩ := by
  generalize hD : dayF k' d' m' w' e' u' = D
  have hday : day D = ⟨k', d', m', w', e', u', (D.length : Int), true⟩ := by
    have := day_form hv' (u := []) (Or.inl rfl)
    rw [List.append_nil, hD] at this
    exact this
  generalize hS : (60 :: (s ++ [62])) ++ (A8.fmt a ++ (N ++ (A8.fmt b ++ ([44] ++ (Y ++ ([44] ++ D)))))) = S
  have d0 : S.drop 0 = (60 :: (s ++ [62])) ++ (A8.fmt a ++ (N ++ (A8.fmt b ++ ([44] ++ (Y ++ ([44] ++ D)))))) := by rw [← hS]; rfl
  have d1 := drop_at d0
  have d2 := drop_at d1
  have d3 := drop_at d2
  have d4 := drop_at d3
  have hlen : S.length = 0 + (60 :: (s ++ [62])).length + (A8.fmt a).length + N.length + (A8.fmt b).length + (1 + (Y.length + (1 + D.length))) := by
    rw [← hS]; simp only [List.length_append, List.length_cons, List.length_nil]; omega
  unfold parse9
  rw [nameQ_at d0 (parse7Q _ hs), offQ_at d1 (parse8_fa (by omega) (by omega) (hA _)) (side_of a0 a1), if_pos (by rw [hlen]; omega)]
  unfold dstQ dstOffQ
  rw [nameQ_at d2 (hN _ (notA_fmt8 (by omega) (by omega) _))]
  have hp := parse8_fa (t := b) (by omega) (by omega) (aft44 (Y ++ ([44] ++ D)))
  rw [d3, hp, if_pos rfl, offQ_at d3 hp (side_of b0 b1)]
  exact days_at (by rw [hlen]; omega) d4 (hY _) hday (validRu_of hs ht (side_of (by omega) (by omega)) (side_of (by omega) (by omega)) hv hv')
/-- A rule whose daylight saving time has no offset. -/
theorem parse9_short {s t N Y : List UInt8} {a : Int} {k d m w e u k' d' m' w' e' u' : Int} (hs : A7.valid s = true) (ht : A7.valid t = true) (a0 : -86399 ≤ a) (a1 : a ≤ 89999)
    (hN : ∀ v, (v = [] ∨ A7.alphaB (v.getD 0 0) = false) → A7.parse (N ++ v) = (t, (N.length : Int), true)) (hA : ∀ v, Aft (N ++ v))
    (hv : validDay k d m w e u = true) (hv' : validDay k' d' m' w' e' u' = true) (hY : ∀ Z, day (Y ++ ([44] ++ Z)) = ⟨k, d, m, w, e, u, (Y.length : Int), true⟩) :
    parse9 ((60 :: (s ++ [62])) ++ (A8.fmt a ++ (N ++ ([44] ++ (Y ++ ([44] ++ dayF k' d' m' w' e' u')))))) = .rule ⟨s, 0 - a, true, t, 0 - a + 3600, ⟨k, d, m, w, e, u⟩, ⟨k', d', m', w', e', u'⟩⟩ := by
  generalize hD : dayF k' d' m' w' e' u' = D
  have hday : day D = ⟨k', d', m', w', e', u', (D.length : Int), true⟩ := by
    have := day_form hv' (u := []) (Or.inl rfl)
    rw [List.append_nil, hD] at this
    exact this
  generalize hS : (60 :: (s ++ [62])) ++ (A8.fmt a ++ (N ++ ([44] ++ (Y ++ ([44] ++ D))))) = S
  have d0 : S.drop 0 = (60 :: (s ++ [62])) ++ (A8.fmt a ++ (N ++ ([44] ++ (Y ++ ([44] ++ D))))) := by rw [← hS]; rfl
  have d1 := drop_at d0
  have d2 := drop_at d1
  have d3 := drop_at d2
  have hlen : S.length = 0 + (60 :: (s ++ [62])).length + (A8.fmt a).length + N.length + (1 + (Y.length + (1 + D.length))) := by
    rw [← hS]; simp only [List.length_append, List.length_cons, List.length_nil]; omega
  unfold parse9
  rw [nameQ_at d0 (parse7Q _ hs), offQ_at d1 (parse8_fa (by omega) (by omega) (hA _)) (side_of (by omega) a1), if_pos (by rw [hlen]; omega)]
  unfold dstQ dstOffQ
  rw [nameQ_at d2 (hN _ (Or.inr (show A7.alphaB 44 = false by decide)))]
  have hp : (A8.parse ([44] ++ (Y ++ ([44] ++ D)))).2.2 = false := by
    have : A8.parse ([44] ++ (Y ++ ([44] ++ D))) = A8.parse [] := parse8_c (c := 44) (Or.inr rfl) _ []
    rw [this]; decide
  rw [d3, hp, if_neg (by decide)]
  exact days_at (by rw [hlen]; omega) d3 (hY _) hday (validRu_of hs ht (side_of (by omega) (by omega)) (side_of (by omega) (by omega)) hv hv')
end Z09

set_option maxRecDepth 100000
namespace Z09
open Go Go.AE Go.Proofs
attribute [local irreducible] loopK evCode evSpec loopB norm

def OnR (r : Ru) (s : List UInt8) : Prop := parse9 s = .rule r
theorem okOn (r : Ru) : ∀ args pres res, sParseOn (OnR r) r 0 0 args = some (pres, res) → SpecOK Try.prog G0 8 args pres res := by
  intro args pres res h
  unfold sParseOn at h
  split at h
  case h_2 => cases h
  cases h
  rename_i s
  refine SpecOK.pre (pres := [(s.length : Int) ≤ 1000000000000000000]) (fun hp => ?_) (fun hp p hm => ?_) ⟨_, at8, by decide, by rw [body8]; rfl⟩
  · have h : parse9 s = .rule r := hp _ (List.mem_cons_self ..)
    have := okP [.imm (.str s)] [(s.length : Int) ≤ 1000000000000000000] _ rfl
    unfold ruP whyP atP at this
    rw [h] at this
    exact this
  · exact hp p (List.mem_cons_of_mem _ hm)
theorem okF9 (r : Ru) : EOK Try.prog (F9 (OnR r) r 0 0) G0 := addE_ok (addE_ok okF5 (okOn r)) ok7
def dst5 : List UInt8 := [60, 68, 83, 84, 62]
def r5 (s : List UInt8) (a k d m w e k' d' m' w' e' u' : Int) : Ru := ⟨s, 0 - a, true, [68, 83, 84], 0 - a + 3600, ⟨k, d, m, w, e, 7200⟩, ⟨k', d', m', w', e', u'⟩⟩
theorem dst5_parse (v : List UInt8) : A7.parse (dst5 ++ v) = ([68, 83, 84], (dst5.length : Int), true) := parse7Q (s := [68, 83, 84]) v (by decide)
theorem dst5_aft (v : List UInt8) : Aft (dst5 ++ v) := Or.inr (show A8.isD 60 = false ∧ (60 : UInt8) ≠ 58 from ⟨by decide, by decide⟩)
theorem f5_ev (s : List UInt8) (a k d m w e u k' d' m' w' e' u' : Int) (hs : s.length ≤ 9223372036854775807) (K : List AV → Prop) (hK : K [bo true]) :
    evSpec (C9 (OnR (r5 s a k d m w e k' d' m' w' e' u')) (r5 s a k d m w e k' d' m' w' e' u') 0 0) Try.f5 [st s, i64 a, dayAV k d m w e u, dayAV k' d' m' w' e' u'] K := by
  generalize hr : r5 s a k d m w e k' d' m' w' e' u' = r
  have cut : evSpec (C9 (OnR r) r 0 0) Try.f5 [st s, i64 a, dayAV k d m w e u, dayAV k' d' m' w' e' u'] K = evCode (C9 (OnR r) r 0 0) a5 (e5 s a k d m w e u k' d' m' w' e' u') (fun x st => match x with
    | .normal => evCode (C9 (OnR r) r 0 0) (q5 [.r, .r, .r, .r, .r, .r, .l]) st (fun x st => match x with
      | .normal => evCode (C9 (OnR r) r 0 0) (q5 [.r, .r, .r, .r, .r, .r, .r, .l]) st (fun x st => match x with
        | .normal => evCode (C9 (OnR r) r 0 0) (q5 [.r, .r, .r, .r, .r, .r, .r, .r]) st (finK (C9 (OnR r) r 0 0) Try.f5 K)
        | x => finK (C9 (OnR r) r 0 0) Try.f5 K x st)
      | x => finK (C9 (OnR r) r 0 0) Try.f5 K x st)
    | x => finK (C9 (OnR r) r 0 0) Try.f5 K x st) := by kernel_rfl
  rw [cut, f5_a]
  refine ⟨fun _ => hs, brn_intro (fun _ => Eq.mp (by kernel_rfl) hK) (fun h => ?_)⟩
  simp only [Bool.not_true, Bool.false_or, Bool.or_eq_false_iff, Bool.not_eq_false', decide_eq_false_iff_not] at h
  obtain ⟨⟨⟨⟨hvs, a0⟩, a1⟩, hv⟩, hv'⟩ := h
  have hv2 := valid_time hv (by decide : (-604799 : Int) ≤ 7200) (by decide)
  have la := fmt_len (n := a) (by omega) (by omega)
  have lb := fmt_len (n := a - 3600) (by omega) (by omega)
  have ls := valid7_le hvs
  have ld := dayF_len hv2
  have ld' := dayF_len hv'
  have lx : (dayF k d m w e 7200).length = (dspell k d m w e).length + 2 := by
    have h : A8.fmt 7200 = [50] := by decide
    rw [dayF_eq, h, List.length_append]; rfl
  have ew : IntKind.wrap .i64 (((dayF k d m w e 7200).length : Int) - 2) = ((dspell k d m w e).length : Int) := by rw [wrap64 (by omega) (by omega)]; omega
  have es : List.take (Int.toNat ((dspell k d m w e).length : Int) - 0) (List.drop 0 (dayF k d m w e 7200)) = dspell k d m w e := by
    have := short_eq k d m w e
    rw [lx, Nat.add_sub_cancel] at this
    rw [Int.toNat_natCast, Nat.sub_zero, List.drop_zero]
    exact this
  have ew2 : IntKind.wrap .i64 (a - 3600) = a - 3600 := wrap64 (by omega) (by omega)
  generalize hX : dayF k d m w e 7200 = X at ld lx ew es ⊢
  generalize hH : dspell k d m w e = H at lx ew es
  simp only [ew, es]
  have eF : [(60 : UInt8)] ++ s ++ [(62 : UInt8)] ++ A8.fmt a ++ [60, 68, 83, 84, 62] = 60 :: (s ++ [62]) ++ (A8.fmt a ++ (dst5 ++ [])) := by simp [dst5]
  generalize hF : [(60 : UInt8)] ++ s ++ [(62 : UInt8)] ++ A8.fmt a ++ [60, 68, 83, 84, 62] = F at eF ⊢
  have lF : F.length ≤ 300 := by rw [eF]; simp [dst5]; omega
  have p1 : OnR r (F ++ [44] ++ H ++ [44] ++ dayF k' d' m' w' e' u') := by
    have h := parse9_short (a := a) (N := dst5) (Y := H) hvs (t := [68, 83, 84]) (by decide) (by omega) (by omega) (fun v _ => dst5_parse v) dst5_aft hv2 hv' (fun Z => by rw [← hH]; exact day_short hv Z (c := 44) (Or.inr rfl))
    unfold OnR
    rw [eF, ← hr]
    simpa [r5] using h
  have p2 : OnR r (F ++ A8.fmt (a - 3600) ++ [44] ++ X ++ [44] ++ dayF k' d' m' w' e' u') := by
    have h := parse9_full (a := a) (b := a - 3600) (N := dst5) (Y := X) hvs (t := [68, 83, 84]) (by decide) (by omega) (by omega) (by omega) (by omega) (fun v _ => dst5_parse v) dst5_aft hv2 hv' (fun Z => by rw [← hX]; exact day_form hv2 (end44 Z))
    have e0 : 0 - (a - 3600) = 0 - a + 3600 := by omega
    rw [e0] at h
    unfold OnR
    rw [eF, ← hr]
    simpa [r5] using h
  have step3 : ∀ st', st' = S5c s a k d m w e u k' d' m' w' e' u' X H F r.cells 0 r.cells 0 (fun j => nth .dead st'.tmps j) → evCode (C9 (OnR r) r 0 0) (q5 [.r, .r, .r, .r, .r, .r, .r, .r]) st' (finK (C9 (OnR r) r 0 0) Try.f5 K) := by
    intro st' hst
    rw [hst]
    generalize (fun j => nth .dead st'.tmps j) = T
    rw [f5_d, ← hr]
    have hb : ∀ b : Bool, b = true → K [AV.imm (IV.bool b)] := fun b h => by rw [h]; exact hK
    refine hb _ ?_
    unfold r5
    dsimp only
    rw [wrap64 (by omega) (by omega)]
    simp
  have step2 : ∀ st', st' = S5b s a k d m w e u k' d' m' w' e' u' X H F r.cells 0 (fun j => nth .dead st'.tmps j) → evCode (C9 (OnR r) r 0 0) (q5 [.r, .r, .r, .r, .r, .r, .r, .l]) st' (fun x st => match x with
        | .normal => evCode (C9 (OnR r) r 0 0) (q5 [.r, .r, .r, .r, .r, .r, .r, .r]) st (finK (C9 (OnR r) r 0 0) Try.f5 K)
        | x => finK (C9 (OnR r) r 0 0) Try.f5 K x st) := by
    intro st' hst
    rw [hst]
    generalize (fun j => nth .dead st'.tmps j) = T
    rw [f5_c, ew2]
    repeat' refine And.intro ?_ ?_
    all_goals first
      | exact p2
      | exact hv'
      | (simp only [List.length_append, List.length_cons, List.length_nil]; omega)
      | omega
      | exact step3 _ (by kernel_rfl)
  have step1 : ∀ st', st' = S5 s a k d m w e u k' d' m' w' e' u' X H F (fun j => nth .dead st'.tmps j) → evCode (C9 (OnR r) r 0 0) (q5 [.r, .r, .r, .r, .r, .r, .l]) st' (fun x st => match x with
      | .normal => evCode (C9 (OnR r) r 0 0) (q5 [.r, .r, .r, .r, .r, .r, .r, .l]) st (fun x st => match x with
        | .normal => evCode (C9 (OnR r) r 0 0) (q5 [.r, .r, .r, .r, .r, .r, .r, .r]) st (finK (C9 (OnR r) r 0 0) Try.f5 K)
        | x => finK (C9 (OnR r) r 0 0) Try.f5 K x st)
      | x => finK (C9 (OnR r) r 0 0) Try.f5 K x st) := by
    intro st' hst
    rw [hst]
    generalize (fun j => nth .dead st'.tmps j) = T
    rw [f5_b]
    repeat' refine And.intro ?_ ?_
    all_goals first
      | exact p1
      | exact hv'
      | (simp only [List.length_append, List.length_cons, List.length_nil]; omega)
      | omega
      | exact step2 _ (by kernel_rfl)
  repeat' refine And.intro ?_ ?_
  all_goals first
    | exact hv2
    | (simp only [List.length_append, List.length_cons, List.length_nil]; omega)
    | omega
    | exact step1 _ (by kernel_rfl)
end Z09

namespace Go.Proofs.Ytoliinccocdmgaa
open Go Go.AE Go.Proofs Z09
open Go.ChangeShapes Go.WideShapes Go.ChangeAt Go.RowKit Go.ChangeMaps
attribute [local irreducible] loopK evCode evSpec loopB norm k6 evFunc
theorem Try.own : ownKnob Try.prog.godebug = none := by kernel_rfl
set_option maxRecDepth 100000 in
theorem f5_lifted (os : Os) (started : os.Started) (H : Type) (enc : TypeId × Value → H) :
    ReturnsInHanded {} Try.checked os 5 .any (Rows.posixtzDefaultsSpec.pre6 enc Try.prog Try.f5 Rows.posixtzDefaultsRow.domain false) (Rows.posixtzDefaultsSpec.post enc Try.prog Try.f5 false true false false) := by
  refine returnsInHanded_of_change (C := Try.checked) Try.own started (by kernel_rfl) Try.func5
    (ChangeSpec.witness6 (enc := enc) (C := Try.checked) false ⟨#[], #[.string ⟨#[]⟩, .int .i64 0, .agg #[.int .i64 0, .int .i64 0, .int .i64 0, .int .i64 0, .int .i64 0, .int .i64 0], .agg #[.int .i64 0, .int .i64 0, .int .i64 0, .int .i64 0, .int .i64 0, .int .i64 0]], []⟩ 8 (by kernel_rfl) (by kernel_rfl) (by kernel_rfl) (by kernel_rfl)) ?_
  intro W base args ds gs before hval0 hW hcnd _
  obtain ⟨l⟩ := args
  have hval : ∀ (j : Nat) t v, Try.f5.params[j]? = some t → l[j]? = some v → Value.okWide Try.prog W .any base t v := fun j t v h1 h2 => hval0 j t v h1 (by simpa using h2)
  have hW' := hW
  obtain ⟨p, q, hB, hV, rfl, hfz, hnd⟩ := hW
  obtain ⟨rfl, rfl⟩ := trodVars_none hV
  have hA0 : DataW.TrodAll enc Try.prog W 0 (fun _ => true) true [9, 3, 24, 24] l ds p := by have h := hB; rw [Try.params5] at h; exact h
  rw [Try.params5] at hval
  clear hB hval0
  obtain ⟨v0, l, d0, ds, p0, p, rfl, rfl, h0, hA1, rfl⟩ := all_cons hA0
  obtain ⟨v1, l, d1, ds, p1, p, rfl, rfl, h1, hA2, rfl⟩ := all_cons hA1
  obtain ⟨v2, l, d2, ds, p2, p, rfl, rfl, h2, hA3, rfl⟩ := all_cons hA2
  obtain ⟨v3, l, d3, ds, p3, p, rfl, rfl, h3, hA4, rfl⟩ := all_cons hA3
  obtain ⟨rfl, rfl, rfl⟩ := all_nil hA4
  obtain ⟨a0, rfl, rfl, rfl, w0⟩ := open_string Try.underlying9 (hval 0 9 v0 rfl rfl) h0
  have m0 : (bytesOf a0).length ≤ 9223372036854775807 := by rw [← size_bytes]; exact w0
  obtain ⟨a1, rfl, rfl, rfl, w1⟩ := open_int Try.underlying3 (hval 1 3 v1 rfl rfl) h1
  have m1 := inR_wf w1
  obtain ⟨i2, l2, rfl, k2⟩ := open_flat Try.underlying24 (by kernel_rfl : flatK Try.prog 40 24 = some [(.int .i64), (.int .i64), (.int .i64), (.int .i64), (.int .i64), (.int .i64)]) (hval 2 24 v2 rfl rfl) h2
  have K2 := k2
  obtain ⟨n2a, i2, l2, rfl, rfl, m2a, k2⟩ := k2.cons_int
  obtain ⟨n2b, i2, l2, rfl, rfl, m2b, k2⟩ := k2.cons_int
  obtain ⟨n2c, i2, l2, rfl, rfl, m2c, k2⟩ := k2.cons_int
  obtain ⟨n2d, i2, l2, rfl, rfl, m2d, k2⟩ := k2.cons_int
  obtain ⟨n2e, i2, l2, rfl, rfl, m2e, k2⟩ := k2.cons_int
  obtain ⟨n2f, i2, l2, rfl, rfl, m2f, k2⟩ := k2.cons_int
  obtain ⟨rfl, rfl⟩ := k2.end
  obtain ⟨i3, l3, rfl, k3⟩ := open_flat Try.underlying24 (by kernel_rfl : flatK Try.prog 40 24 = some [(.int .i64), (.int .i64), (.int .i64), (.int .i64), (.int .i64), (.int .i64)]) (hval 3 24 v3 rfl rfl) h3
  have K3 := k3
  obtain ⟨n3a, i3, l3, rfl, rfl, m3a, k3⟩ := k3.cons_int
  obtain ⟨n3b, i3, l3, rfl, rfl, m3b, k3⟩ := k3.cons_int
  obtain ⟨n3c, i3, l3, rfl, rfl, m3c, k3⟩ := k3.cons_int
  obtain ⟨n3d, i3, l3, rfl, rfl, m3d, k3⟩ := k3.cons_int
  obtain ⟨n3e, i3, l3, rfl, rfl, m3e, k3⟩ := k3.cons_int
  obtain ⟨n3f, i3, l3, rfl, rfl, m3f, k3⟩ := k3.cons_int
  obtain ⟨rfl, rfl⟩ := k3.end
  have hspec := mk (pres := []) (args := [.imm (.str (bytesOf a0)), .imm (.int .i64 a1), .agg [.imm (.int .i64 n2a), .imm (.int .i64 n2b), .imm (.int .i64 n2c), .imm (.int .i64 n2d), .imm (.int .i64 n2e), .imm (.int .i64 n2f)], .agg [.imm (.int .i64 n3a), .imm (.int .i64 n3b), .imm (.int .i64 n3c), .imm (.int .i64 n3d), .imm (.int .i64 n3e), .imm (.int .i64 n3f)]]) (res := [.imm (.bool true)]) (okF9 _) at5 (by decide) rfl (fun _ K hK => f5_ev (bytesOf a0) a1 n2a n2b n2c n2d n2e n2f n3a n3b n3c n3d n3e n3f m0 K hK)
  refine (bool_calls hspec (fun p h => by cases h) W _ rfl (fun j c hc => ?_) (fun n l h => by cases h)).mono fun e W' ⟨he, hw⟩ => ?_
  · match j with
    | 0 => simp only [List.getElem?_cons_zero, Option.some.injEq] at hc; subst hc; exact .imm (.str rfl m0)
    | 1 => simp only [List.getElem?_cons_succ, List.getElem?_cons_zero, Option.some.injEq] at hc; subst hc; exact .imm (.int m1)
    | 2 => simp only [List.getElem?_cons_succ, List.getElem?_cons_zero, Option.some.injEq] at hc; subst hc; exact K2.arep
    | 3 => simp only [List.getElem?_cons_succ, List.getElem?_cons_zero, Option.some.injEq] at hc; subst hc; exact K3.arep
    | j + 4 => simp at hc
  subst he
  exact ⟨_, rfl, row_post hW' rfl (by kernel_rfl) (by kernel_rfl) rfl rfl Try.underlying4 hw⟩
theorem f5_holds : Rows.PosixtzDefaultsSaid :=
  OpenClaim.holds_of_wide 5 Try.f5 rfl rfl rfl rfl rfl rfl rfl ⟨rfl, rfl, rfl, rfl, rfl⟩ rfl rfl rfl rfl rfl (by kernel_rfl) Try.func5 (by kernel_rfl)
    (of_decide_eq_true (by kernel_rfl)) (by unfold Func.isWrapper; first | (rw [if_pos (by decide +kernel)]; kernel_rfl) | (rw [if_neg (by decide +kernel)]; exact ⟨rfl, rfl⟩))
    (fun os started H enc _ => f5_lifted os started H enc)
end Go.Proofs.Ytoliinccocdmgaa

