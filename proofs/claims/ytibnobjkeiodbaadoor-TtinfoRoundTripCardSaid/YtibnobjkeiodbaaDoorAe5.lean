/- For every list of types and byte slice the law TtinfoRoundTrip returns true and its arguments read as before. No further condition. -/
import Derived.Test.YtibnobjkeiodbaaDoorAe4
import Derived.Test.YtibnobjkeiodbaaDoorRows
import Derived.Test.YtibnobjkeiodbaaDoorTie
import Derived.Test.YtibnobjkeiodbaaDoorCards
import Derived.ProofKit
import Derived.LaidMore
import Derived.LaidHandle
import Derived.LaidLaws
import Derived.OpenShut
import Derived.Stop.Joined
import Derived.SevenTiedAt
set_option linter.all false
set_option maxRecDepth 100000
namespace Z16
open Go Go.AE Go.Proofs
attribute [local irreducible] loopK evCode evSpec loopB norm

theorem getD_take {b : List UInt8} {n i : Nat} (h : i < n) : (b.take n).getD i 0 = b.getD i 0 := by
  simp only [List.getD_eq_getElem?_getD, List.getElem?_take, if_pos h]
theorem uintP_at {b : List UInt8} {o : Nat} (h : o + 6 ≤ b.length) : uintP ((b.drop o).take 6) 0 4 = uintP b o 4 := by
  have h1 : okR ((b.drop o).take 6) 0 4 = true := by
    unfold okR
    simp only [decide_eq_true_eq, List.length_take, List.length_drop]
    omega
  have h2 : okR b o 4 = true := by
    unfold okR
    simp only [decide_eq_true_eq]
    omega
  unfold uintP
  rw [h1, h2, if_pos rfl, if_pos rfl, List.drop_zero, List.take_take]
  rfl
theorem f8_ev (b : List UInt8) (hb : (b.length : Int) ≤ 1000000000000) (K : List AV → Prop) (hK : K [.new (slT (dec b)), bo (decOk b)]) : evSpec C8 Tryd.f8 [.imm (.bytes b)] K := by
  have hbig : big = 4611686018427387904 := rfl
  rw [f8_in]
  unfold LoopI
  refine loop_rule (fun i : Nat => h8 b (recs b i) (6 * i)) (fun i => i ≤ b.length / 6 ∧ flags b i = true) (fun i => b.length / 6 - i) (fun i hP K' hnorm hexit => ?_) rfl 0 p8i _ ⟨Nat.zero_le _, rfl⟩ (by kernel_rfl)
  obtain ⟨hi, hf⟩ := hP
  rw [f8_lp]
  have e1 : IntKind.wrap .i64 (((6 * i : Nat) : Int) + 6) = ((6 * (i + 1) : Nat) : Int) := by rw [wrap64 (by omega) (by omega)]; omega
  have el := recs_len b i
  rw [e1]
  refine brn_intro (fun h1 => ?_) (fun h1 => ?_)
  · simp only [decide_eq_true_eq] at h1
    have hi1 : i + 1 ≤ b.length / 6 := by omega
    have e2 : 6 * (i + 1) - 6 * i = 6 := by omega
    have hs : ((b.drop (6 * i)).take 6).length = 6 := by rw [List.length_take, List.length_drop]; omega
    have g4 : ((b.drop (6 * i)).take 6).getD 4 0 = b.getD (6 * i + 4) 0 := by rw [getD_take (by decide), getD_drop']
    have g5 : ((b.drop (6 * i)).take 6).getD 5 0 = b.getD (6 * i + 5) 0 := by rw [getD_take (by decide), getD_drop']
    have hu := sgn4 (uintP_lt b (6 * i) 4)
    have e7 := wrap32 hu.1 hu.2
    have t0 : Int.toNat (0 : Int) = 0 := rfl
    have t4 : Int.toNat (4 : Int) = 4 := rfl
    have t5 : Int.toNat (5 : Int) = 5 := rfl
    have hua := uintP_at (b := b) (o := 6 * i) (by omega)
    have hc := recB_eq (b := b) (o := 6 * i) (by omega)
    have hm : (recs b (i + 1)).map cellsT = (recs b i).map cellsT ++ [cellsT (recB (b.drop (6 * i)))] := by rw [recs, List.map_append]; rfl
    rw [hc] at hm
    have ea : IntKind.wrap .i64 ((0 : Int) + 1) = 1 := rfl
    simp only [Int.toNat_natCast, e2, hs, t4, t5, t0, g4, g5, hua, e7, beq1, gt1, ← hm, ea]
    refine ⟨by omega, by omega, by omega, by omega, by omega, by omega, by omega, by omega, by omega, by omega, brn_intro (fun h2 => ?_) (fun h2 => ?_)⟩
    · have hff : flags b (i + 1) = false := by
        rw [flags, hf]
        simpa using h2
      have h0 := flags_false hff (b.length / 6) (by omega)
      unfold dec decOk at hK
      rw [h0] at hK
      refine ⟨by omega, by omega, by omega, by simp, rfl, by omega, by omega, by omega, by omega, by omega, by simp, rfl, by simp, by simp, hexit _ _ (by simp) (Eq.mp (by kernel_rfl) hK)⟩
    · refine ⟨by omega, by omega, by omega, by omega, by simp [el]; omega, by simp [el]; omega, hnorm (i + 1) ⟨[], msk [0, 4, 5] 0 33, [0]⟩ _ ⟨hi1, ?_⟩ (by omega) (by kernel_rfl)⟩
      rw [flags, hf]
      simpa using h2
  · simp only [decide_eq_false_iff_not] at h1
    have hil : i = b.length / 6 := by omega
    unfold dec decOk at hK
    rw [← hil, hf, if_pos rfl] at hK
    exact hexit _ _ (by simp) (Eq.mp (by kernel_rfl) hK)
end Z16

set_option maxRecDepth 100000
namespace Z16
open Go Go.AE Go.Proofs
attribute [local irreducible] loopK evCode evSpec loopB norm

theorem ok31 : ∀ args pres res, sUint args = some (pres, res) → SpecOK Tryd.prog G16 31 args pres res := by
  intro args pres res h
  unfold sUint at h
  split at h
  case h_2 => cases h
  cases h
  exact mk ok0 Tryd.func31 (by kernel_rfl) (by kernel_rfl) (fun hp K hK => f31_ev _ _ _ (hp _ (by simp)) (hp _ (by simp)) (hp _ (by simp)) (hp _ (by simp)) (hp _ (by simp)) K hK)
theorem ok29 : ∀ args pres res, sUint args = some (pres, res) → SpecOK Tryd.prog G16 29 args pres res := by
  intro args pres res h
  unfold sUint at h
  split at h
  case h_2 => cases h
  cases h
  exact mk ok0 Tryd.func29 (by kernel_rfl) (by kernel_rfl) (fun hp K hK => f29_ev _ _ _ (hp _ (by simp)) (hp _ (by simp)) (hp _ (by simp)) (hp _ (by simp)) (hp _ (by simp)) K hK)
theorem ok30 : ∀ args pres res, sHalf args = some (pres, res) → SpecOK Tryd.prog G16 30 args pres res := by
  intro args pres res h
  unfold sHalf at h
  split at h
  case h_2 => cases h
  cases h
  exact mk ok0 Tryd.func30 (by kernel_rfl) (by kernel_rfl) (fun hp K hK => f30_ev _ (hp _ (by simp)) (hp _ (by simp)) K hK)
theorem ok11 : ∀ args pres res, sSameB args = some (pres, res) → SpecOK Tryd.prog G16 11 args pres res := by
  intro args pres res h
  unfold sSameB at h
  split at h
  case h_2 => cases h
  cases h
  exact mk ok0 Tryd.func11 (by kernel_rfl) (by kernel_rfl) (fun hp K hK => f11_ev _ _ (hp _ (by simp)) (hp _ (by simp)) K hK)
theorem okE1 : EOK Tryd.prog E1 G16 := addE_ok (addE_ok (addE_ok (addE_ok ok0 ok31) ok29) ok30) ok11
theorem ok23 : ∀ args pres res, sInt args = some (pres, res) → SpecOK Tryd.prog G16 23 args pres res := by
  intro args pres res h
  unfold sInt at h
  split at h
  case h_2 => cases h
  cases h
  exact mk okE1 Tryd.func23 (by kernel_rfl) (by kernel_rfl) (fun hp K hK => f23_ev _ _ _ (hp _ (by simp)) (hp _ (by simp)) (hp _ (by simp)) (hp _ (by simp)) (hp _ (by simp)) K hK)
theorem ok20 : ∀ args pres res, sInt args = some (pres, res) → SpecOK Tryd.prog G16 20 args pres res := by
  intro args pres res h
  unfold sInt at h
  split at h
  case h_2 => cases h
  cases h
  exact mk okE1 Tryd.func20 (by kernel_rfl) (by kernel_rfl) (fun hp K hK => f20_ev _ _ _ (hp _ (by simp)) (hp _ (by simp)) (hp _ (by simp)) (hp _ (by simp)) (hp _ (by simp)) K hK)
theorem okE2 : EOK Tryd.prog E2 G16 := addE_ok (addE_ok okE1 ok23) ok20
theorem ok21 : ∀ args pres res, sAppend args = some (pres, res) → SpecOK Tryd.prog G16 21 args pres res := by
  intro args pres res h
  unfold sAppend at h
  split at h
  case h_2 => cases h
  cases h
  exact mk ok0 Tryd.func21 (by kernel_rfl) (by kernel_rfl) (fun hp K hK => f21_ev _ _ _ (hp _ (by simp)) (hp _ (by simp)) (hp _ (by simp)) (hp _ (by simp)) (hp _ (by simp)) K hK)
theorem ok22 : ∀ args pres res, sAppend args = some (pres, res) → SpecOK Tryd.prog G16 22 args pres res := by
  intro args pres res h
  unfold sAppend at h
  split at h
  case h_2 => cases h
  cases h
  exact mk ok0 Tryd.func22 (by kernel_rfl) (by kernel_rfl) (fun hp K hK => f22_ev _ _ _ (hp _ (by simp)) (hp _ (by simp)) (hp _ (by simp)) (hp _ (by simp)) (hp _ (by simp)) K hK)
theorem ok10 : ∀ args pres res, sSameT args = some (pres, res) → SpecOK Tryd.prog G16 10 args pres res := by
  intro args pres res h
  unfold sSameT at h
  split at h
  case h_2 => cases h
  cases h
  rename_i xs ys
  exact mk ok0 Tryd.func10 (by kernel_rfl) (by kernel_rfl) (fun hp K hK => by
    obtain ⟨L, rfl, e, hL⟩ := okT_elim (hp (okT xs) (by simp))
    obtain ⟨M, rfl, e', hM⟩ := okT_elim (hp (okT ys) (by simp))
    rw [e, e'] at hK
    have h1 := hp (((L.map cellsT).length : Int) ≤ big) (by simp)
    have h2 := hp (((M.map cellsT).length : Int) ≤ big) (by simp)
    rw [List.length_map] at h1 h2
    exact f10_ev L M h1 h2 K hK)
theorem ok14 : ∀ args pres res, sCheck args = some (pres, res) → SpecOK Tryd.prog G16 14 args pres res := by
  intro args pres res h
  unfold sCheck at h
  split at h
  case h_2 => cases h
  cases h
  rename_i xs n
  exact mk ok0 Tryd.func14 (by kernel_rfl) (by kernel_rfl) (fun hp K hK => by
    obtain ⟨L, rfl, e, hL⟩ := okT_elim (hp (okT xs) (by simp))
    rw [e] at hK
    have h1 := hp (((L.map cellsT).length : Int) ≤ big) (by simp)
    rw [List.length_map] at h1
    exact f14_ev L n hL h1 K hK)
theorem ok15 : ∀ args pres res, sCheck args = some (pres, res) → SpecOK Tryd.prog G16 15 args pres res := by
  intro args pres res h
  unfold sCheck at h
  split at h
  case h_2 => cases h
  cases h
  rename_i xs n
  exact mk ok0 Tryd.func15 (by kernel_rfl) (by kernel_rfl) (fun hp K hK => by
    obtain ⟨L, rfl, e, hL⟩ := okT_elim (hp (okT xs) (by simp))
    rw [e] at hK
    have h1 := hp (((L.map cellsT).length : Int) ≤ big) (by simp)
    rw [List.length_map] at h1
    exact f15_ev L n hL h1 K hK)
theorem ok16 : ∀ args pres res, sHold args = some (pres, res) → SpecOK Tryd.prog G16 16 args pres res := by
  intro args pres res h
  unfold sHold at h
  split at h
  case h_2 => cases h
  cases h
  rename_i o d g s
  exact mk ok0 Tryd.func16 (by kernel_rfl) (by kernel_rfl) (fun hp K hK => f16_ev ⟨o, d, g⟩ s K hK)
theorem ok17 : ∀ args pres res, sHold args = some (pres, res) → SpecOK Tryd.prog G16 17 args pres res := by
  intro args pres res h
  unfold sHold at h
  split at h
  case h_2 => cases h
  cases h
  rename_i o d g s
  exact mk ok0 Tryd.func17 (by kernel_rfl) (by kernel_rfl) (fun hp K hK => f17_ev ⟨o, d, g⟩ s K hK)
theorem okE3 : EOK Tryd.prog E3 G16 := addE_ok (addE_ok (addE_ok (addE_ok (addE_ok (addE_ok okE2 ok21) ok22) ok10) ok14) ok15) ok16
theorem ok12 : ∀ args pres res, sEnc args = some (pres, res) → SpecOK Tryd.prog G16 12 args pres res := by
  intro args pres res h
  unfold sEnc at h
  split at h
  case h_2 => cases h
  cases h
  rename_i xs
  exact mk okE3 Tryd.func12 (by kernel_rfl) (by kernel_rfl) (fun hp K hK => by
    obtain ⟨L, rfl, e, hL⟩ := okT_elim (hp (okT xs) (by simp))
    rw [e] at hK
    have h1 := hp (((L.map cellsT).length : Int) ≤ 100000000000) (by simp)
    rw [List.length_map] at h1
    exact f12_ev L hL h1 K hK)
theorem ok13 : ∀ args pres res, sEnc args = some (pres, res) → SpecOK Tryd.prog G16 13 args pres res := by
  intro args pres res h
  unfold sEnc at h
  split at h
  case h_2 => cases h
  cases h
  rename_i xs
  exact mk okE3 Tryd.func13 (by kernel_rfl) (by kernel_rfl) (fun hp K hK => by
    obtain ⟨L, rfl, e, hL⟩ := okT_elim (hp (okT xs) (by simp))
    rw [e] at hK
    have h1 := hp (((L.map cellsT).length : Int) ≤ 100000000000) (by simp)
    rw [List.length_map] at h1
    exact f13_ev L hL h1 K hK)
theorem I16_ok : ∀ f fn, I16 f = some fn → Tryd.prog.funcs[f]? = some fn ∧ (fn.name == "runtime.NumGoroutine") = false := by
  intro f fn h
  unfold I16 at h
  cases h1 : Nat.beq f 18 with
  | true => rw [h1, cond_true] at h; cases h; obtain rfl := nbeq h1; exact ⟨Tryd.func18, by kernel_rfl⟩
  | false =>
    rw [h1, cond_false] at h
    cases h2 : Nat.beq f 24 with
    | true => rw [h2, cond_true] at h; cases h; obtain rfl := nbeq h2; exact ⟨Tryd.func24, by kernel_rfl⟩
    | false => rw [h2, cond_false] at h; cases h
theorem ok8 : ∀ args pres res, sDec args = some (pres, res) → SpecOK Tryd.prog G16 8 args pres res := by
  intro args pres res h
  unfold sDec at h
  split at h
  case h_2 => cases h
  cases h
  exact spec_ok (C := C8) okE3 (call16_ok okE3 I16_ok 3) Tryd.func8 (by kernel_rfl) (by kernel_rfl) (fun hp => f8_ev _ (hp _ (by simp)) _ rfl)
theorem ok9 : ∀ args pres res, sDec args = some (pres, res) → SpecOK Tryd.prog G16 9 args pres res := by
  intro args pres res h
  unfold sDec at h
  split at h
  case h_2 => cases h
  cases h
  exact mk okE2 Tryd.func9 (by kernel_rfl) (by kernel_rfl) (fun hp K hK => f9_ev _ (hp _ (by simp)) K hK)
theorem okE4 : EOK Tryd.prog E4 G16 := addE_ok (addE_ok (addE_ok (addE_ok (addE_ok okE3 ok17) ok12) ok13) ok8) ok9
end Z16

set_option maxRecDepth 100000
namespace Z16
open Go Go.AE Go.Proofs
attribute [local irreducible] loopK evCode evSpec loopB norm

instance okTyD (t : Ty) : Decidable (okTy t) := by unfold okTy; exact inferInstance
def okTB : List (List IV) → Bool
  | [] => true
  | [.int .i32 o, .bool d, .int .u8 g] :: r => decide (okTy ⟨o, d, g⟩) && okTB r
  | _ => false
theorem okTB_ok : ∀ {xs : List (List IV)}, okTB xs = true → okT xs
  | [], _ => ⟨rfl, fun t h => by cases h⟩
  | x :: r, h => by
    unfold okTB at h
    split at h
    · rename_i e; cases e
    · rename_i o d g r' e
      cases e
      rw [Bool.and_eq_true, decide_eq_true_eq] at h
      obtain ⟨h1, h2⟩ := okTB_ok h.2
      refine ⟨?_, fun t ht => ?_⟩
      · show _ :: r = cellsT _ :: (tys r).map cellsT
        rw [← h1]
        rfl
      · rcases List.mem_cons.1 ht with rfl | ht
        · exact h.1
        · exact h2 t ht
    · cases h
attribute [local irreducible] okT
theorem f7_ev (K : List AV → Prop) (hK : K [bo true]) : evSpec C4 Tryd.f7 [] K := by
  rw [f7_in]
  repeat' refine And.intro ?_ ?_
  all_goals first
    | exact hK
    | exact okTB_ok (by kernel_rfl)
    | exact (of_decide_eq_true (by kernel_rfl) : (_ : Int) ≤ _)
    | exact fun _ => okTB_ok (by kernel_rfl)
    | exact fun _ => (of_decide_eq_true (by kernel_rfl) : (_ : Int) ≤ _)
theorem ok7 : ∀ args pres res, sAwake args = some (pres, res) → SpecOK Tryd.prog G16 7 args pres res := by
  intro args pres res h
  unfold sAwake at h
  split at h
  case h_2 => cases h
  cases h
  exact mk okE4 Tryd.func7 (by kernel_rfl) (by kernel_rfl) (fun hp K hK => f7_ev K hK)
theorem okE5 : EOK Tryd.prog E5 G16 := addE_ok okE4 ok7
end Z16

set_option maxRecDepth 100000
namespace Z16
open Go Go.AE Go.Proofs

/-! ### plain laws of the codec -/
theorem ofNat_toNat (b : UInt8) : UInt8.ofNat b.toNat = b := by simp
theorem toNat_ofNat (n : Nat) : (UInt8.ofNat (n % 256)).toNat = n % 256 := by simp
theorem beN_be : ∀ (n v : Nat), beN (be n v) = v % 256 ^ n
  | 0, v => by simp [be, beN, Nat.mod_one]
  | n + 1, v => by
    rw [be, beN_app, beN_be n (v / 256), toNat_ofNat, Nat.pow_succ, Nat.mul_comm (256 ^ n) 256, Nat.mod_mul, Nat.mul_comm, Nat.add_comm]
theorem be_beN : ∀ (n : Nat) (l : List UInt8), l.length = n → be n (beN l) = l
  | 0, l, h => by
    have : l = [] := List.length_eq_zero_iff.1 h
    subst this; rfl
  | n + 1, l, h => by
    have e : l = l.take n ++ [l.getD n 0] := by
      rw [← takeS 0 (by omega), List.take_of_length_le (by omega)]
    have hb := (l.getD n 0).toNat_lt
    have e1 : beN l = beN (l.take n) * 256 + (l.getD n 0).toNat := by rw [← beN_app, ← e]
    rw [e1, be, show (beN (l.take n) * 256 + (l.getD n 0).toNat) / 256 = beN (l.take n) by omega, show (beN (l.take n) * 256 + (l.getD n 0).toNat) % 256 = (l.getD n 0).toNat by omega, ofNat_toNat, be_beN n (l.take n) (by rw [List.length_take]; omega), ← e]
theorem be_mod (n v : Nat) : be n v = be n (v % 256 ^ n) := by
  have := be_beN n (be n v) (be_len n v)
  rw [beN_be] at this
  exact this.symm
theorem sgn_u64 {o : Int} (h0 : -2147483648 ≤ o) (h1 : o ≤ 2147483647) : sgnN 4 (u64 o % 256 ^ 4) = o := by
  unfold sgnN u64
  simp only [Nat.reducePow, Nat.reduceMul, Nat.reduceSub]
  split <;> omega
theorem u64_sgn {u : Nat} (h : u < 256 ^ 4) : u64 (sgnN 4 u) % 256 ^ 4 = u := by
  unfold sgnN u64
  simp only [Nat.reducePow, Nat.reduceMul, Nat.reduceSub] at h ⊢
  split <;> omega
theorem u8_toNat {g : Int} (h0 : 0 ≤ g) (h1 : g ≤ 255) : ((u8 g).toNat : Int) = g := by
  unfold u8
  rw [UInt8.toNat_ofNat']
  omega
theorem be4 (v : Nat) : ∃ a b c d, be 4 v = [a, b, c, d] := ⟨_, _, _, _, rfl⟩
theorem recB_enc {t : Ty} (h : okTy t) (r : List UInt8) : recB (enc1 t ++ r) = t ∧ ((enc1 t ++ r).getD 4 0).toNat ≤ 1 := by
  obtain ⟨h0, h1, h2, h3⟩ := h
  have hl := be_len 4 (u64 t.o)
  have e4 : (enc1 t ++ r).take 4 = be 4 (u64 t.o) := by
    unfold enc1
    rw [List.append_assoc, List.take_append_of_le_length (by omega), List.take_of_length_le (by omega)]
  have g4 : (enc1 t ++ r).getD 4 0 = (if t.d then 1 else 0) := by
    unfold enc1
    rw [List.append_assoc, List.getD_eq_getElem?_getD, List.getElem?_append_right (by omega), hl]
    rfl
  have g5 : (enc1 t ++ r).getD 5 0 = u8 t.g := by
    unfold enc1
    rw [List.append_assoc, List.getD_eq_getElem?_getD, List.getElem?_append_right (by omega), hl]
    rfl
  unfold recB
  rw [e4, g4, g5, beN_be, sgn_u64 h0 h1, u8_toNat h2 h3]
  refine ⟨?_, by split <;> decide⟩
  cases t with
  | mk o d g => cases d <;> rfl
theorem enc_drop : ∀ (L : List Ty) (i : Nat), (enc L).drop (6 * i) = enc (L.drop i)
  | [], i => by simp [enc]
  | t :: L, 0 => rfl
  | t :: L, i + 1 => by
    rw [enc, List.drop_succ_cons, ← enc_drop L i, show 6 * (i + 1) = (enc1 t).length + 6 * i by rw [enc1_len]; omega, ← List.drop_drop, List.drop_left]
theorem drop_cons {L : List Ty} {i : Nat} (h : i < L.length) : L.drop i = L.getD i t0 :: L.drop (i + 1) := by
  rw [List.drop_eq_getElem_cons h, List.getD_eq_getElem?_getD, List.getElem?_eq_getElem h]
  rfl
theorem dec_enc_at {L : List Ty} (hL : ∀ t ∈ L, okTy t) : ∀ k, k ≤ L.length → recs (enc L) k = L.take k ∧ flags (enc L) k = true
  | 0, _ => ⟨rfl, rfl⟩
  | k + 1, hk => by
    obtain ⟨h1, h2⟩ := dec_enc_at hL k (by omega)
    have hr := recB_enc (hL _ (memD t0 (show k < L.length by omega))) (enc (L.drop (k + 1)))
    have e : (enc L).drop (6 * k) = enc1 (L.getD k t0) ++ enc (L.drop (k + 1)) := by rw [enc_drop, drop_cons (by omega), enc]
    rw [← e] at hr
    constructor
    · rw [recs, h1, hr.1, takeS t0 (by omega)]
    · rw [flags, h2, ← getD_drop', decide_eq_true hr.2]
      rfl
theorem dec_enc {L : List Ty} (hL : ∀ t ∈ L, okTy t) : dec (enc L) = L ∧ decOk (enc L) = true := by
  have hk : (enc L).length / 6 = L.length := by rw [enc_len]; omega
  obtain ⟨h1, h2⟩ := dec_enc_at hL L.length (Nat.le_refl _)
  unfold dec decOk
  rw [hk, h2, if_pos rfl, h1, List.take_length]
  exact ⟨rfl, rfl⟩
theorem enc1_recB {b : List UInt8} (h6 : 6 ≤ b.length) (hf : (b.getD 4 0).toNat ≤ 1) : enc1 (recB b) = b.take 6 := by
  have hlt : beN (b.take 4) < 256 ^ 4 := by
    have := beN_lt (b.take 4)
    rw [List.length_take, Nat.min_eq_left (by omega)] at this
    exact this
  have e1 : be 4 (u64 (sgnN 4 (beN (b.take 4)))) = b.take 4 := by
    rw [be_mod, u64_sgn hlt, be_beN 4 _ (by rw [List.length_take]; omega)]
  have e2 : (if (b.getD 4 0 == 1) = true then (1 : UInt8) else 0) = b.getD 4 0 := by
    split
    · rename_i h; exact (by simpa using h : b.getD 4 0 = 1).symm
    · rename_i h
      have h1 : b.getD 4 0 ≠ 1 := by simpa using h
      refine UInt8.toNat_inj.1 ?_
      have h2 : (b.getD 4 0).toNat ≠ 1 := fun e => h1 (UInt8.toNat_inj.1 (by rw [e]; rfl))
      have h3 : (0 : UInt8).toNat = 0 := rfl
      omega
  have e3 : u8 ((b.getD 5 0).toNat : Int) = b.getD 5 0 := by
    unfold u8
    rw [Int.toNat_natCast, ofNat_toNat]
  unfold enc1 recB
  simp only [e1, e3]
  rw [takeS (i := 5) 0 (by omega), takeS (i := 4) 0 (by omega), List.append_assoc]
  simp only [e2]
  rfl
theorem enc_recs {b : List UInt8} : ∀ k, 6 * k ≤ b.length → flags b k = true → enc (recs b k) = b.take (6 * k)
  | 0, _, _ => rfl
  | k + 1, hk, hf => by
    rw [flags, Bool.and_eq_true, decide_eq_true_eq] at hf
    have h1 := enc_recs (b := b) k (by omega) hf.1
    have h2 := enc1_recB (b := b.drop (6 * k)) (by rw [List.length_drop]; omega) (by rw [getD_drop']; exact hf.2)
    rw [recs, enc_app, h1, show enc [recB (b.drop (6 * k))] = enc1 (recB (b.drop (6 * k))) from by rw [enc, enc, List.append_nil], h2, show 6 * (k + 1) = 6 * k + 6 by omega, List.take_add]
theorem enc_dec {b : List UInt8} (h6 : b.length % 6 = 0) (hok : decOk b = true) : enc (dec b) = b := by
  unfold decOk at hok
  unfold dec
  rw [hok, if_pos rfl, enc_recs _ (by omega) hok, List.take_of_length_le (by omega)]
theorem enc_inj {L M : List Ty} (hL : ∀ t ∈ L, okTy t) (hM : ∀ t ∈ M, okTy t) : enc L = enc M ↔ L = M := by
  refine ⟨fun h => ?_, fun h => by rw [h]⟩
  rw [← (dec_enc hL).1, h, (dec_enc hM).1]
theorem check_app (L : List Ty) (t : Ty) (n : Int) : check (L ++ [t]) n = if check [t] n = 9 then 9 else if check [t] n = 8 ∧ check L n = 0 then 8 else check L n := by
  have key : ∀ a b c d : Bool, (if (a || c) = true then (9 : Int) else if (b || d) = true then 8 else 0) = if (if c = true then (9 : Int) else if d = true then 8 else 0) = 9 then 9 else
      if (if c = true then (9 : Int) else if d = true then 8 else 0) = 8 ∧ (if a = true then (9 : Int) else if b = true then 8 else 0) = 0 then 8 else if a = true then 9 else if b = true then 8 else 0 := by decide
  simp only [check_eq, List.any_append]
  exact key _ _ _ _
theorem check_one (t : Ty) (n : Int) : check [t] n = 0 ∨ check [t] n = 8 ∨ check [t] n = 9 := by
  rw [check_eq]
  split
  · exact .inr (.inr rfl)
  · split
    · exact .inr (.inl rfl)
    · exact .inl rfl
theorem check_wide {L : List Ty} {n m : Int} (hm : 0 ≤ m) : (check L n = 0 ∧ check L (n + m) = 0) ∨ (check L n = 8 ∧ check L (n + m) ≠ 9) ∨ (check L n = 9 ∧ check L (n + m) = 9) := by
  simp only [check_eq]
  cases h1 : L.any pO with
  | true => exact .inr (.inr ⟨rfl, rfl⟩)
  | false =>
    have h3 : L.any (pG n) = false → L.any (pG (n + m)) = false := by
      intro h
      rw [List.any_eq_false] at h ⊢
      intro t ht
      have := h t ht
      simp only [pG, decide_eq_true_eq] at this ⊢
      omega
    cases h2 : L.any (pG n) with
    | true => exact .inr (.inl ⟨rfl, by cases L.any (pG (n + m)) <;> decide⟩)
    | false => exact .inl ⟨rfl, by rw [h3 h2]; rfl⟩
theorem check_256 {L : List Ty} (hL : ∀ t ∈ L, okTy t) : check L 256 ≠ 8 := by
  have : L.any (pG 256) = false := by
    rw [List.any_eq_false]
    intro t ht
    have := (hL t ht).2.2.2
    simp only [pG, decide_eq_true_eq]
    omega
  rw [check_eq, this]
  cases L.any pO <;> decide
end Z16

set_option maxRecDepth 100000
namespace Z16
open Go Go.AE Go.Proofs
attribute [local irreducible] loopK evCode evSpec loopB norm okT

theorem cut_eq (b : List UInt8) (hb : b.length ≤ 1000) : IntKind.wrap .i64 (IntKind.wrap .i64 (Int.tdiv (b.length : Int) 6) * 6) = ((b.length / 6 * 6 : Nat) : Int) := by
  have : Int.tdiv (b.length : Int) 6 = ((b.length / 6 : Nat) : Int) := by simp [Int.tdiv]
  rw [this, wrap64 (n := ((b.length / 6 : Nat) : Int)) (by omega) (by omega), wrap64 (by omega) (by omega)]
  omega
theorem f3_ev (b : List UInt8) (L : List Ty) (n : Int) (s : List UInt8) (hL : ∀ t ∈ L, okTy t) (K : List AV → Prop) (hK : K [bo true]) : evSpec C5 Tryd.f3 [.imm (.bytes b), .imm (slT L), i64 n, st s] K := by
  have hbig : big = 4611686018427387904 := rfl
  unfold slT
  rw [f3_in]
  simp only [List.length_map]
  refine brn_intro (fun _ => hK) (fun h => ?_)
  simp only [Bool.not_true, Bool.false_or, Bool.or_eq_false_iff, decide_eq_false_iff_not] at h
  obtain ⟨hb, hl⟩ := h
  rw [cut_eq b (by omega)]
  simp only [Int.toNat_natCast, Nat.sub_zero, List.drop_zero, tys_map]
  have hc : (b.take (b.length / 6 * 6)).length ≤ 1000 := by rw [List.length_take]; omega
  generalize b.take (b.length / 6 * 6) = c at hc
  have hd := dec_len c
  have he := enc_len L
  have ok1 := okT_map (dec_ok (b := c))
  have ok2 := okT_map hL
  have step : ∀ st', norm p3 st' = some (h3 (L.map cellsT) s 0) → LoopI C5 (bodyOf Tryd.f3) 0 st' (finK C5 Tryd.f3 K) := by
    intro st' hst
    unfold LoopI
    refine loop_rule (fun i : Nat => h3 (L.map cellsT) s i) (fun i => i ≤ L.length) (fun i => L.length - i) (fun i hi K' hnorm hexit => ?_) rfl 0 p3 _ (Nat.zero_le _) hst
    rw [f3_lp]
    simp only [List.length_map]
    have e2 : IntKind.wrap .i64 ((i : Int) + 1) = ((i + 1 : Nat) : Int) := by rw [wrap64 (by omega) (by omega)]; rfl
    refine brn_intro (fun h1 => ?_) (fun h1 => ?_)
    · simp only [decide_eq_true_eq] at h1
      have hlt : i < L.length := by omega
      simp only [Int.toNat_natCast, getT hlt, kT, oT, dT, gT, e2]
      have hh : ∀ b : Bool, (!b == b) = false := by decide
      refine ⟨by omega, by omega, True.intro, by omega, by omega, True.intro, brn_intro (fun h2 => ?_) (fun _ => hnorm (i + 1) p3 _ (by omega) (by omega) (by kernel_rfl)), brn_intro (fun h2 => ?_) (fun _ => hnorm (i + 1) p3 _ (by omega) (by omega) (by kernel_rfl))⟩
      · simp at h2
      · simp at h2
    · exact hexit _ _ (by simp) (Eq.mp (by kernel_rfl) hK)
  refine ⟨by decide, by omega, by omega, by omega, by omega, ok1, ok1, by omega, by omega, ?_⟩
  repeat' refine And.intro ?_ ?_
  all_goals first
    | exact fun _ => ok2
    | (intro _; omega)
    | exact ok2
    | omega
    | skip
  refine brn_intro (fun h => ?_) (fun _ => step _ (by kernel_rfl))
  simp at h
theorem f4_ev (b : List UInt8) (L : List Ty) (hL : ∀ t ∈ L, okTy t) (K : List AV → Prop) (hK : K [bo true]) : evSpec C5 Tryd.f4 [.imm (slT L), .imm (.bytes b)] K := by
  have hbig : big = 4611686018427387904 := rfl
  have hb' : ∀ b : Bool, b = true → K [.imm (.bool b)] := fun b h => by rw [h]; exact hK
  unfold slT
  rw [f4_in]
  simp only [List.length_map]
  refine brn_intro (fun _ => hK) (fun h => ?_)
  simp only [Bool.not_true, Bool.false_or, Bool.or_eq_false_iff, decide_eq_false_iff_not] at h
  obtain ⟨hb, hl⟩ := h
  rw [cut_eq b (by omega)]
  obtain ⟨q1, q2⟩ := dec_enc hL
  have he := enc_len L
  have ok2 := okT_map hL
  have e6 : IntKind.wrap .i64 ((6 : Int) * (L.length : Int)) = ((enc L).length : Int) := by rw [wrap64 (by omega) (by omega), he]; omega
  simp only [Int.toNat_natCast, Nat.sub_zero, List.drop_zero, tys_map, q1, q2, e6, List.length_map]
  have hc6 : (b.take (b.length / 6 * 6)).length % 6 = 0 := by rw [List.length_take]; omega
  have hc : (b.take (b.length / 6 * 6)).length ≤ 1000 := by rw [List.length_take]; omega
  generalize b.take (b.length / 6 * 6) = c at hc hc6
  refine ⟨ok2, by omega, by omega, fun _ => ok2, fun _ => ok2, fun _ => by omega, fun _ => by omega, brn_intro (fun h => by simp at h) (fun _ => ⟨by decide, by omega, by omega, ?_⟩)⟩
  unfold LoopI
  refine loop_rule (fun i : Nat => h4 c (flags c i) (4 + 6 * i)) (fun i => i ≤ c.length / 6) (fun i => c.length / 6 - i) (fun i hi K' hnorm hexit => ?_) rfl 0 p4 _ (Nat.zero_le _) (by kernel_rfl)
  rw [f4_lp]
  refine brn_intro (fun h1 => ?_) (fun h1 => ?_)
  · simp only [decide_eq_true_eq] at h1
    have e2 : IntKind.wrap .i64 (((4 + 6 * i : Nat) : Int) + 6) = ((4 + 6 * (i + 1) : Nat) : Int) := by rw [wrap64 (by omega) (by omega)]; omega
    have e3 : (flags c i && decide (((c.getD (4 + 6 * i) 0).toNat : Int) ≤ 1)) = flags c (i + 1) := by
      rw [flags, Nat.add_comm 4 (6 * i)]
      congr 1
      by_cases hq : (c.getD (6 * i + 4) 0).toNat ≤ 1
      · rw [decide_eq_true hq, decide_eq_true (by omega)]
      · rw [decide_eq_false hq, decide_eq_false (by omega)]
    simp only [Int.toNat_natCast, e2, e3]
    exact ⟨fun _ => by omega, fun _ => by omega, hnorm (i + 1) p4 _ (by omega) (by omega) (by kernel_rfl)⟩
  · simp only [decide_eq_false_iff_not] at h1
    have hil : i = c.length / 6 := by omega
    have hfl : flags c i = decOk c := by rw [hil]; rfl
    refine hexit _ _ (by simp) ?_
    rw [f4_out, hfl]
    have hd := dec_len c
    simp only [tys_map, List.length_map]
    refine ⟨by omega, brn_intro (fun h => ?_) (fun _ => brn_intro (fun h => hb' _ ?_) (fun h => ?_))⟩
    · simp at h
    · have : decOk c = false := by simpa using h
      unfold decOk at this
      unfold dec
      rw [this]
      rfl
    · have hok : decOk c = true := by simpa using h
      have hed := enc_dec hc6 hok
      rw [hed]
      exact ⟨okT_map dec_ok, by omega, by omega, by omega, hb' _ (by simp)⟩
theorem f5_ev (L : List Ty) (n m : Int) (hL : ∀ t ∈ L, okTy t) (n0 : 0 ≤ n) (n1 : n ≤ 255) (m0 : 0 ≤ m) (m1 : m ≤ 255) (K : List AV → Prop) (hK : K [bo true]) : evSpec C5 Tryd.f5 [.imm (slT L), .imm (.int .u8 n), .imm (.int .u8 m)] K := by
  have hbig : big = 4611686018427387904 := rfl
  have hb' : ∀ b : Bool, b = true → K [.imm (.bool b)] := fun b h => by rw [h]; exact hK
  have ok2 := okT_map hL
  have en : IntKind.wrap .i64 n = n := wrap64 (by omega) (by omega)
  have em : IntKind.wrap .i64 m = m := wrap64 (by omega) (by omega)
  unfold slT
  rw [f5_in]
  simp only [List.length_map, tys_map, en]
  refine brn_intro (fun _ => hK) (fun h => ?_)
  simp only [Bool.not_true, Bool.false_or, decide_eq_false_iff_not] at h
  refine ⟨ok2, by omega, ?_⟩
  unfold LoopI
  refine loop_rule (fun i : Nat => h5 (L.map cellsT) n m (check L n) (check (L.take i) n) i) (fun i => i ≤ L.length) (fun i => L.length - i) (fun i hi K' hnorm hexit => ?_) rfl 0 p5 _ (Nat.zero_le _) (by kernel_rfl)
  rw [f5_lp]
  have e2 : IntKind.wrap .i64 ((i : Int) + 1) = ((i + 1 : Nat) : Int) := by rw [wrap64 (by omega) (by omega)]; rfl
  simp only [List.length_map, en, e2, Int.toNat_natCast, Nat.add_sub_cancel_left]
  refine brn_intro (fun h1 => ?_) (fun h1 => ?_)
  · simp only [decide_eq_true_eq] at h1
    have hlt : i < L.length := by omega
    have hd : ((L.map cellsT).drop i).take 1 = [L.getD i t0].map cellsT := by
      rw [← List.map_drop, drop_cons hlt]
      rfl
    have hck := check_app (L.take i) (L.getD i t0) n
    rw [← takeS t0 hlt] at hck
    have hone := check_one (L.getD i t0) n
    have hok := hL _ (memD t0 hlt)
    simp only [hd, tys_map, List.length_map, List.length_singleton]
    generalize hc1 : check [L.getD i t0] n = c1 at hone hck
    refine ⟨by omega, by omega, by omega, okT_map (fun t ht => by rw [List.mem_singleton.1 ht]; exact hok), by omega, brn_intro (fun h2 => ?_) (fun h2 => ?_)⟩
    · have e3 : check (L.take (i + 1)) n = c1 := by
        rw [hck]
        simp only [Bool.or_eq_true, Bool.and_eq_true, beq_iff_eq] at h2
        rcases h2 with h2 | ⟨h2, h3⟩
        · rw [if_pos h2, h2]
        · rw [if_neg (by omega), if_pos ⟨h2, h3⟩, h2]
      refine brn_intro (fun h3 => ?_) (fun _ => ?_)
      · exfalso
        simp only [Bool.and_eq_true, bne_iff_ne] at h3
        omega
      · refine hnorm (i + 1) p5 _ hlt (by omega) ?_
        rw [e3]
        kernel_rfl
    · have e3 : check (L.take (i + 1)) n = check (L.take i) n := by
        rw [hck]
        simp only [Bool.or_eq_false_iff, Bool.and_eq_false_iff, beq_eq_false_iff_ne] at h2
        rw [if_neg h2.1, if_neg (fun h => by rcases h2.2 with q | q <;> omega)]
      refine brn_intro (fun h3 => ?_) (fun _ => ?_)
      · exfalso
        simp only [Bool.and_eq_true, bne_iff_ne] at h3
        omega
      · refine hnorm (i + 1) p5 _ hlt (by omega) ?_
        rw [e3]
        kernel_rfl
  · simp only [decide_eq_false_iff_not] at h1
    have hil : i = L.length := by omega
    refine hexit _ _ (by simp) ?_
    have eo := f5_out (L.map cellsT) n m (check L n) (check (L.take i) n) i K
    simp only [List.length_map] at eo
    rw [eo, hil, List.take_length, tys_map, en, em]
    have enm : IntKind.wrap .i64 (n + m) = n + m := wrap64 (by omega) (by omega)
    rw [enm]
    have hw := check_wide (L := L) (n := n) m0
    have h256 := check_256 hL
    refine ⟨ok2, by omega, fun _ => ok2, fun _ => by omega, hb' _ ?_⟩
    generalize check L n = x at hw
    generalize check L (n + m) = y at hw
    generalize check L 256 = z at h256
    rcases hw with ⟨rfl, rfl⟩ | ⟨rfl, hy⟩ | ⟨rfl, rfl⟩
    · simp [h256]
    · simp [h256, hy]
    · simp [h256]
theorem f6_ev (L M : List Ty) (t u : Ty) (hL : ∀ t ∈ L, okTy t) (hM : ∀ t ∈ M, okTy t) (ht : okTy t) (hu : okTy u) (K : List AV → Prop) (hK : K [bo true]) : evSpec C5 Tryd.f6 [.imm (slT L), .imm (slT M), tyAV t, tyAV u] K := by
  have hbig : big = 4611686018427387904 := rfl
  have hb' : ∀ b : Bool, b = true → K [.imm (.bool b)] := fun b h => by rw [h]; exact hK
  have okL := okT_map hL
  have okM := okT_map hM
  have hLM : ∀ t ∈ L ++ M, okTy t := fun t h => by
    rcases List.mem_append.1 h with h | h
    · exact hL t h
    · exact hM t h
  have okLM := okT_map hLM
  rw [List.map_append] at okLM
  have okt : okT [[.int .i32 t.o, .bool t.d, .int .u8 t.g]] := okT_map (L := [t]) (fun x hx => by rw [List.mem_singleton.1 hx]; exact ht)
  have oku : okT [[.int .i32 u.o, .bool u.d, .int .u8 u.g]] := okT_map (L := [u]) (fun x hx => by rw [List.mem_singleton.1 hx]; exact hu)
  have tt : tys [[.int .i32 t.o, .bool t.d, .int .u8 t.g]] = [t] := rfl
  have tu : tys [[.int .i32 u.o, .bool u.d, .int .u8 u.g]] = [u] := rfl
  have tLM : tys (L.map cellsT ++ M.map cellsT) = L ++ M := by rw [← List.map_append, tys_map]
  have l1 := enc_len L
  have l2 := enc_len M
  have l3 := enc_len (L ++ M)
  have l4 := enc_len [t]
  have l5 := enc_len [u]
  unfold slT
  rw [f6_in]
  simp only [List.nil_append, List.map_nil, tys_map, tt, tu, tLM, List.length_map, List.length_append, List.length_nil, List.length_singleton] at *
  refine brn_intro (fun _ => hK) (fun h => ?_)
  simp only [Bool.not_true, Bool.false_or, Bool.or_eq_false_iff, decide_eq_false_iff_not] at h
  have e1 : enc (L ++ M) = enc L ++ enc M := enc_app L M
  have e2 : (decide (enc [t] = enc [u]) == (t.o == u.o && (t.d == u.d && (t.g == u.g && true)))) = true := by
    have h1 : enc [t] = enc [u] ↔ t = u := by
      rw [enc_inj (fun x hx => by rw [List.mem_singleton.1 hx]; exact ht) (fun x hx => by rw [List.mem_singleton.1 hx]; exact hu)]
      simp
    have h2 : (t.o == u.o && (t.d == u.d && (t.g == u.g && true))) = decide (t = u) := by
      cases t; cases u
      simp only [Ty.mk.injEq]
      rename_i o d g o' d' g'
      by_cases a : o = o' <;> by_cases b : d = d' <;> by_cases c : g = g' <;> simp [a, b, c]
    rw [h2]
    simp [h1]
  have fin : K [.imm (.bool (decide (enc [t] = enc [u]) == (t.o == u.o && (t.d == u.d && (t.g == u.g && true)))))] := hb' _ e2
  refine ⟨by omega, by omega, by omega, by omega, okL, by omega, by omega, by omega, okM, by omega, by omega, by omega, okt, by omega, oku, by omega, okLM, by omega, by omega, by omega, brn_intro (fun _ => ?_) (fun h => ?_)⟩
  · repeat' refine And.intro ?_ ?_
    all_goals first
      | exact fin
      | omega
  · simp [e1] at h
end Z16

namespace Z16
open Go Go.AE Go.Proofs
theorem et : Tryd.prog.globalNamed "errors.errorType" = some 0 := by kernel_rfl
theorem rt : (Tryd.prog.cutTypes.find? (·.1 == "internal/reflectlite.rtype")).map (·.2) = some 73 := by kernel_rfl
theorem tsize : Tryd.prog.types.size = 115 := by kernel_rfl
theorem oneRow : ((List.range 115).filter fun t => Tryd.prog.rowNamed t [101, 114, 114, 111, 114]) = [41] := by kernel_rfl
theorem var_of_laid {W : World} (h : laidMetH Tryd.prog YtibnobjkeiodbaaDoor.Rows.ttinfoMatchesReferenceRow.laid W) : W.var? Tryd.prog "errors.errorType" = some #[errT] := by
  have h' : laidMet Tryd.prog [] W ∧ handlesMet Tryd.prog YtibnobjkeiodbaaDoor.Rows.ttinfoMatchesReferenceRow.laid W := h
  obtain ⟨name, u, ty, e1, e2, e3, e4, e5⟩ := h'.2 _ (List.mem_singleton.2 rfl)
  have en : name = [101, 114, 114, 111, 114] := (Option.some.inj e1).symm
  subst en
  obtain rfl := Option.some.inj (rt.symm.trans e2)
  have hm : ty ∈ (List.range 115).filter fun t => Tryd.prog.rowNamed t [101, 114, 114, 111, 114] := List.mem_filter.2 ⟨List.mem_range.2 (by rw [← tsize]; exact e3), e4⟩
  rw [oneRow] at hm
  obtain rfl := List.mem_singleton.1 hm
  have hh : typeHandle Tryd.prog 41 = .pointer (some ⟨1, 41, none⟩) := by kernel_rfl
  rw [hh] at e5
  exact e5
theorem gok_of_laid {W : World} (h : laidMetH Tryd.prog YtibnobjkeiodbaaDoor.Rows.ttinfoMatchesReferenceRow.laid W) : GOK G16 W (fun _ => False) := by
  have ht := var_of_laid h
  unfold World.var? at ht
  rw [et] at ht
  simp only [Option.bind_some] at ht
  intro n l hl
  unfold G16 at hl
  cases hn : Nat.beq n 0 with
  | false => rw [hn] at hl; cases hl
  | true =>
    rw [hn, cond_true] at hl
    cases hl
    have := nbeq hn
    subst this
    refine ⟨fun h => h, ?_⟩
    split at ht
    case h_2 => cases ht
    rename_i cs T fr hc
    simp only [Option.some.injEq] at ht
    refine ⟨cs, T, fr, hc, by rw [ht]; rfl, fun j v hv => ?_, fun j hj => ?_⟩
    · cases j with
      | zero =>
        simp only [List.getElem?_cons_zero, Option.some.injEq] at hv
        subst hv
        rw [ht]
        exact .val rfl
      | succ j => simp at hv
    · rw [ht] at hj ⊢
      have : j = 0 := by simpa using hj
      subst this
      rfl
/-- A world that meets the condition: the settled one, the variable's cell laid. -/
noncomputable def laidWorld (os : Os) : World :=
  let w0 := World.holding Tryd.prog os ⟨#[], #[], []⟩
  { w0 with heap := w0.heap.modify 0 fun
      | .cells _ t frozen => .cells #[errT] t frozen
      | o => o }
theorem door_met (os : Os) (args : Array Value) : laidMetH Tryd.prog YtibnobjkeiodbaaDoor.Rows.ttinfoMatchesReferenceRow.laid ((laidWorld os).forCall (fun _ _ => 0) ⟨#[], args, []⟩).memory :=
  laidMetH_of_parts (laidMet_nil _ _) (by kernel_rfl)
/-- The elements of a slice of types. -/
theorem types_of {xs : List (List IV)} (h : ∀ x ∈ xs, ∃ vs, KRep [.int .i32, .bool, .int .u8] x vs) : ∃ L : List Ty, xs = L.map cellsT ∧ ∀ t ∈ L, okTy t := by
  induction xs with
  | nil => exact ⟨[], rfl, fun t h => by cases h⟩
  | cons x xs ih =>
    obtain ⟨L, rfl, hL⟩ := ih fun y hy => h y (by simp [hy])
    obtain ⟨vs, hx⟩ := h x (by simp)
    obtain ⟨o, is1, vs1, e1, e2, ho, hx1⟩ := hx.cons_int
    obtain ⟨d, is2, vs2, e3, e4, hx2⟩ := hx1.cons_bool
    obtain ⟨g, is3, vs3, e5, e6, hg, hx3⟩ := hx2.cons_int
    obtain ⟨e7, e8⟩ := hx3.end
    subst e7 e8 e5 e6 e3 e4 e1 e2
    have ho' : (-2147483648 : Int) ≤ o ∧ o ≤ 2147483647 := ho
    have hg' : (0 : Int) ≤ g ∧ g ≤ 255 := hg
    exact ⟨⟨o, d, g⟩ :: L, rfl, fun t ht => by
      rcases List.mem_cons.1 ht with rfl | ht
      · exact ⟨ho'.1, ho'.2, hg'.1, hg'.2⟩
      · exact hL t ht⟩
end Z16

namespace Go.Proofs.YtibnobjkeiodbaaDoor
open Go Go.AE Go.Proofs Z16
open Go.ChangeShapes Go.WideShapes Go.ChangeAt Go.RowKit Go.ChangeMaps
attribute [local irreducible] loopK evCode evSpec loopB norm evFunc
theorem Tryd.own : ownKnob Tryd.prog.godebug = none := by kernel_rfl
set_option maxRecDepth 100000 in
theorem f4_lifted (os : Os) (started : os.Started) (H : Type) (enc : TypeId × Value → H) :
    ReturnsInHanded {} Tryd.checked os 4 .any (fun w args => (Rows.ttinfoRoundTripSpec.pre enc Tryd.prog Tryd.f4 [] false w args ∧ laidMetH Tryd.prog Rows.ttinfoMatchesReferenceRow.laid w) ∧ sizedMet enc Tryd.prog Tryd.f4 (OpenSpec.ofChange Rows.ttinfoRoundTripSpec) false w args)
      (Rows.ttinfoRoundTripSpec.post enc Tryd.prog Tryd.f4 false true false false) := by
  refine returnsInHanded_of_change_and (C := Tryd.checked) (X := fun w _ => laidMetH Tryd.prog Rows.ttinfoMatchesReferenceRow.laid w) (fun _ _ _ hh h => h.of_heap hh) Tryd.own started (by kernel_rfl) Tryd.func4
    (ChangeSpec.witness_at (enc := enc) (C := Tryd.checked) (os := os) (X := fun w _ => laidMetH Tryd.prog Rows.ttinfoMatchesReferenceRow.laid w) false (laidWorld os) #[.slice none 0 0, .slice none 0 0] 8 rfl (by kernel_rfl) (by kernel_rfl) (by kernel_rfl) (by kernel_rfl) (by kernel_rfl) (door_met os _)) ?_
  intro W base args ds gs before hval0 hW _ hsz hL _
  obtain ⟨l⟩ := args
  have hval : ∀ (j : Nat) t v, Tryd.f4.params[j]? = some t → l[j]? = some v → Value.okWide Tryd.prog W .any base t v := fun j t v h1 h2 => hval0 j t v h1 (by simpa using h2)
  have hW' := hW
  obtain ⟨p, q, hB, hV, rfl, hfz, hnd⟩ := hW
  obtain ⟨rfl, rfl⟩ := trodVars_none hV
  have hA0 : DataW.TrodAll enc Tryd.prog W 0 (fun _ => true) true [23, 22] l ds p := by have h := hB; rw [Tryd.params4] at h; exact h
  rw [Tryd.params4] at hval
  clear hB hval0
  obtain ⟨v0, l, d0, ds, p0, p, rfl, rfl, h0, hA1, rfl⟩ := all_cons hA0
  obtain ⟨v1, l, d1, ds, p1, p, rfl, rfl, h1, hA2, rfl⟩ := all_cons hA1
  obtain ⟨rfl, rfl, rfl⟩ := all_nil hA2
  obtain ⟨x0, k0, m0, r0⟩ := open_structslice Tryd.underlying23 (by kernel_rfl : flatK Tryd.prog false 40 35 = some [(.int .i32), .bool, (.int .u8)]) (by kernel_rfl) (by decide +kernel) rfl (hval 0 23 v0 rfl rfl) h0 (fun el rs h => sized_slice hsz (j := 0) (by rw [Tryd.params4]; rfl) (by rw [h]; rfl) Tryd.underlying23)
  obtain ⟨L0, rfl, hL0⟩ := types_of k0
  obtain ⟨l1, m1, r1⟩ := open_byteslice Tryd.underlying22 (by kernel_rfl : flatK Tryd.prog false 40 5 = some [.int .u8]) (by kernel_rfl) (by decide +kernel) (hval 1 22 v1 rfl rfl) h1 (fun el rs h => sized_slice hsz (j := 1) (by rw [Tryd.params4]; rfl) (by rw [h]; rfl) Tryd.underlying22)
  have hspec := mk (pres := []) (args := [.imm (slT L0), .imm (.bytes l1)]) (res := [.imm (.bool true)]) okE5 Tryd.func4 (by kernel_rfl) (by kernel_rfl) (fun _ K hK => f4_ev l1 L0 hL0 K hK)
  refine (bool_calls hspec (fun p h => by cases h) W _ rfl (fun j c hc => ?_) (gok_of_laid hL)).mono fun e W' ⟨he, hw⟩ => ?_
  · match j with
    | 0 => simp only [List.getElem?_cons_zero, Option.some.injEq] at hc; subst hc; exact rep_at r0 rfl
    | 1 => simp only [List.getElem?_cons_succ, List.getElem?_cons_zero, Option.some.injEq] at hc; subst hc; exact rep_at r1 rfl
    | j + 2 => simp at hc
  subst he
  exact ⟨_, rfl, row_post hW' rfl (by kernel_rfl) (by kernel_rfl) rfl rfl Tryd.underlying4 hw⟩
theorem f4_row : Rows.TtinfoRoundTripSaid :=
  OpenClaim.holds_of_wide 4 Tryd.f4 rfl rfl rfl rfl rfl rfl rfl ⟨rfl, rfl, rfl, rfl, rfl⟩ rfl rfl rfl rfl rfl (by kernel_rfl) Tryd.func4 (by kernel_rfl)
    (of_decide_eq_true (by kernel_rfl)) (by unfold Func.isWrapper; first | (rw [if_pos (by decide +kernel)]; kernel_rfl) | (rw [if_neg (by decide +kernel)]; exact ⟨rfl, rfl⟩))
    (fun os started H enc _ => f4_lifted os started H enc)
theorem f4_holds : Rows.TtinfoRoundTripCardSaid :=
  Claim7.holds_tied_plain_at .later [] [.handle] true Rows.ttinfoRoundTripCard.stood.harness true
    f4_row (fun _ h => by cases h) (by kernel_rfl) (fun _ h => by cases h) ttinfoRoundTrip_row_tie rfl ⟨rfl, rfl⟩ (by kernel_rfl) rfl
    (fun f fn hf hfn => by
      obtain rfl : f = 4 := Option.some.inj ((show Tryd.prog.funcNamed "zoneinfo/zoneinfolaw16.TtinfoRoundTrip" = some 4 by kernel_rfl).symm.trans hf) |>.symm
      obtain rfl : fn = Tryd.f4 := (Option.some.inj (Tryd.func4.symm.trans hfn)).symm
      exact ⟨by kernel_rfl, fun j t ht => by
        rw [Tryd.params4] at ht
        have hm : t ∈ [23, 22] := by simpa using Array.mem_of_getElem? ht
        have hall : ([23, 22].all fun u => !Tryd.prog.wantsStandIn u) = true := by kernel_rfl
        exact (show Tryd.prog.wantsStandIn t = false by simpa using List.all_eq_true.1 hall t hm)⟩)
    (by kernel_rfl)
end Go.Proofs.YtibnobjkeiodbaaDoor

