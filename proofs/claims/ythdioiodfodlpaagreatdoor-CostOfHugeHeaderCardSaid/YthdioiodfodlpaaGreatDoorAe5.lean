/- The walk's evaluator and its laws (over whatever program), and contracts of the program's functions. -/
import Derived.Test.YthdioiodfodlpaaGreatDoorAe4
import Derived.KernelRfl
import Derived.Lib.BytesEntry
import Derived.WalkKit
import Derived.Lib.Walk
import Derived.Laws.Externs
set_option linter.all false
set_option maxRecDepth 100000
namespace Y27
open Go Go.AE Go.Proofs E6
attribute [local irreducible] loopK evCode evSpec loopB norm
theorem take_round {d : List UInt8} {p a o n : Int} (hp : 0 ≤ p) (ho : 0 ≤ o) (hn : 0 ≤ n) (hle : p + o + n ≤ d.length) : takeU ⟨d, p + o, 0, a⟩ n = pt (d.drop p.toNat) o n ∧ advU ⟨d, p + o, 0, a⟩ n = ⟨d, p + (o + n), 0, a⟩ := by
  have hr : restU ⟨d, p + o, 0, a⟩ = (d.length : Int) - (p + o) := by unfold restU; rw [if_pos rfl]
  have hok : advOk ⟨d, p + o, 0, a⟩ n = true := by unfold advOk; rw [hr]; exact decide_eq_true ⟨rfl, hn, by omega⟩
  refine ⟨?_, ?_⟩
  · unfold takeU pt
    rw [hok, if_pos rfl, List.drop_drop]
    congr 2
    show (p + o).toNat = p.toNat + o.toNat
    omega
  · unfold advU
    rw [hr, if_pos rfl, if_pos ⟨hn, by omega⟩]
    show (⟨d, p + o + n, 0, a⟩ : Cu) = _
    rw [Int.add_assoc]
def pcs (D : List UInt8) (h : Hd) (s : Int) : Nat → List (List IV)
  | 0 => []
  | 1 => [[.bytes (b0 D h s)]]
  | 2 => [[.bytes (b0 D h s)], [.bytes (b1 D h s)]]
  | 3 => [[.bytes (b0 D h s)], [.bytes (b1 D h s)], [.bytes (b2 D h s)]]
  | 4 => [[.bytes (b0 D h s)], [.bytes (b1 D h s)], [.bytes (b2 D h s)], [.bytes (b3 D h s)]]
  | 5 => [[.bytes (b0 D h s)], [.bytes (b1 D h s)], [.bytes (b2 D h s)], [.bytes (b3 D h s)], [.bytes (b4 D h s)]]
  | 6 => [[.bytes (b0 D h s)], [.bytes (b1 D h s)], [.bytes (b2 D h s)], [.bytes (b3 D h s)], [.bytes (b4 D h s)], [.bytes (b5 D h s)]]
  | _ => [[.bytes (b0 D h s)], [.bytes (b1 D h s)], [.bytes (b2 D h s)], [.bytes (b3 D h s)], [.bytes (b4 D h s)], [.bytes (b5 D h s)], [.bytes (b6 D h s)]]
def oI (p : Int) (h : Hd) (s : Int) : Nat → Int
  | 0 => p
  | 1 => p + o1 h s
  | 2 => p + o2 h s
  | 3 => p + o3 h s
  | 4 => p + o4 h s
  | 5 => p + o5 h s
  | 6 => p + o6 h s
  | _ => p + o7 h s
def I13 (d : List UInt8) (p a : Int) (h : Hd) (s at' : Int) (i : Nat) : St :=
  h13x (l0 h s) (l1 h) (l2 h) (l3 h) (l4 h s) (l5 h) (l6 h) s at' d (oI p h s i) 0 a (pcs (d.drop p.toNat) h s i) i
def q13 : Plan := ⟨[], msk [2, 3, 8, 9, 10, 11, 12, 13, 14] 0 128, [0, 1, 2, 3, 4, 5]⟩
theorem f13_ok' (d : List UInt8) (p e a v iu is l t ty c s at' : Int) (hu : okU ⟨d, p, e, a⟩) (hh : okH ⟨v, iu, is, l, t, ty, c⟩) (hs : sz48 s) :
    evSpec K3h Tryz.f24 [curAV d p e a, hdAV v iu is l t ty c, i64 s, i64 at'] (fun r => lmap AE.settle r = [(decU ⟨d, p, e, a⟩ ⟨v, iu, is, l, t, ty, c⟩ s at').1.av, (decU ⟨d, p, e, a⟩ ⟨v, iu, is, l, t, ty, c⟩ s at').2.av]) := by
  have hu' := hu
  obtain ⟨hp0, hp1, hd⟩ := hu
  simp only at hp0 hp1 hd
  obtain ⟨q0, q1, q2, q3, q4, q5, q6, q7⟩ := sum_pos hh hs
  have hbig : big' = 1000000000000 := rfl
  refine Eq.mpr (f13_in d p e a v iu is l t ty c s at' _) ?_
  generalize hH : (⟨v, iu, is, l, t, ty, c⟩ : Hd) = h at *
  refine brn_intro (fun he => ?_) (fun he => ?_)
  · have he' : e ≠ 0 := by simpa using he
    have : decU ⟨d, p, e, a⟩ h s at' = (zB, ⟨d, p, e, a⟩) := by unfold decU; rw [if_neg (show ¬ e = 0 from he')]
    rw [this]
    rfl
  have he' : e = 0 := by simpa using he
  subst he'
  have hr : restU ⟨d, p, 0, a⟩ = (d.length : Int) - p := by unfold restU; rw [if_pos rfl]
  have hw : IntKind.wrap .i64 ((d.length : Int) - p) = (d.length : Int) - p := wrap64 (by omega) (by omega)
  have hw2 : IntKind.wrap .u64 ((d.length : Int) - p) = (d.length : Int) - p := wrapU (by omega) (by omega)
  rw [hw, hw2]
  have main : ∀ X : Prop, (sumU h s ≤ (d.length : Int) - p → X) → brn (decide (sumU h s > (d.length : Int) - p)) (lmap AE.settle [AV.agg [AV.new (IV.ints IntKind.i64 []), AV.new (IV.bytes []), AV.new (IV.sl 3 []), AV.new (IV.bytes []), AV.new (IV.sl 2 []), AV.new (IV.bools []), AV.new (IV.bools [])],
      AV.agg [AV.imm (IV.bytes (failU ⟨d, p, 0, a⟩ 1 d.length).d), AV.imm (IV.int IntKind.i64 (failU ⟨d, p, 0, a⟩ 1 d.length).p), AV.imm (IV.int IntKind.i64 (failU ⟨d, p, 0, a⟩ 1 d.length).e), AV.imm (IV.int IntKind.i64 (failU ⟨d, p, 0, a⟩ 1 d.length).a)]] = [(decU ⟨d, p, 0, a⟩ h s at').1.av, (decU ⟨d, p, 0, a⟩ h s at').2.av]) X := by
    intro X hX
    refine brn_intro (fun hb => ?_) (fun hb => hX ?_)
    · have hb' : ¬ sumU h s ≤ restU ⟨d, p, 0, a⟩ := by
        rw [hr]
        have : sumU h s > (d.length : Int) - p := by simpa using hb
        omega
      have : decU ⟨d, p, 0, a⟩ h s at' = (zB, ⟨d, p, 1, d.length⟩) := by
        unfold decU fitsD
        rw [if_pos rfl, if_neg (by simpa using hb')]
      rw [this]
      have : failU ⟨d, p, 0, a⟩ 1 d.length = ⟨d, p, 1, d.length⟩ := by unfold failU; rw [if_pos ⟨rfl, by decide⟩]
      rw [this]
      rfl
    · have : ¬ sumU h s > (d.length : Int) - p := by simpa using hb
      omega
  have hsum : sumU h s = l0 h s + l1 h + l2 h + l3 h + l4 h s + l5 h + l6 h := rfl
  have e1 : o1 h s = l0 h s := rfl
  have e2 : o2 h s = o1 h s + l1 h := rfl
  have e3 : o3 h s = o2 h s + l2 h := rfl
  have e4 : o4 h s = o3 h s + l3 h := rfl
  have e5 : o5 h s = o4 h s + l4 h s := rfl
  have e6 : o6 h s = o5 h s + l5 h := rfl
  have e7 : o7 h s = o6 h s + l6 h := rfl
  have loop : sumU h s ≤ (d.length : Int) - p → ∀ st, norm p13i st = some (I13 d p a h s at' 0) → LoopI K3h (bodyOf Tryz.f24) 0 st (finK K3h Tryz.f24 (fun r => lmap AE.settle r = [(decU ⟨d, p, 0, a⟩ h s at').1.av, (decU ⟨d, p, 0, a⟩ h s at').2.av])) := by
    intro hb st hst
    unfold LoopI
    refine loop_rule (I13 d p a h s at') (fun i => i ≤ 7) (fun i => 7 - i) (fun i hP K' hnorm hexit => ?_) rfl 0 p13i _ (Nat.zero_le _) hst
    have : i = 0 ∨ i = 1 ∨ i = 2 ∨ i = 3 ∨ i = 4 ∨ i = 5 ∨ i = 6 ∨ i = 7 := by omega
    rcases this with rfl | rfl | rfl | rfl | rfl | rfl | rfl | rfl
    · rw [show I13 d p a h s at' 0 = h13x (l0 h s) (l1 h) (l2 h) (l3 h) (l4 h s) (l5 h) (l6 h) s at' d p 0 a (pcs (d.drop p.toNat) h s 0) 0 from rfl, f13_lp0]
      have w : IntKind.wrap .i64 (l0 h s) = l0 h s := wrap64 (by omega) (by omega)
      have tr := take_round (d := d) (a := a) (p := p) (o := 0) (n := l0 h s) hp0 (by omega) (by omega) (by omega)
      rw [Int.add_zero, Int.zero_add] at tr
      rw [w, tr.1, tr.2]
      have ok : okU ⟨d, p, 0, a⟩ := ⟨by show 0 ≤ p; omega, by show p ≤ (d.length : Int); omega, hd⟩
      exact ⟨⟨ok, show (0 + 1) * 24 ≤ 140737488355328 by decide, show 0 + 1 ≤ 140737488355328 by decide, hnorm 1 q13 _ (by omega) (by omega) (by kernel_rfl)⟩, ok, show (0 + 1) * 24 ≤ 140737488355328 by decide, show 0 + 1 ≤ 140737488355328 by decide, hnorm 1 q13 _ (by omega) (by omega) (by kernel_rfl)⟩
    · rw [show I13 d p a h s at' 1 = h13x (l0 h s) (l1 h) (l2 h) (l3 h) (l4 h s) (l5 h) (l6 h) s at' d (p + o1 h s) 0 a (pcs (d.drop p.toNat) h s 1) 1 from rfl, f13_lp1]
      have w : IntKind.wrap .i64 (l1 h) = l1 h := wrap64 (by omega) (by omega)
      have tr := take_round (d := d) (a := a) (p := p) (o := o1 h s) (n := l1 h) hp0 (by omega) (by omega) (by omega)
      skip
      rw [w, tr.1, tr.2]
      have ok : okU ⟨d, (p + o1 h s), 0, a⟩ := ⟨by show 0 ≤ (p + o1 h s); omega, by show (p + o1 h s) ≤ (d.length : Int); omega, hd⟩
      exact ⟨⟨ok, show (1 + 1) * 24 ≤ 140737488355328 by decide, show 1 + 1 ≤ 140737488355328 by decide, hnorm 2 q13 _ (by omega) (by omega) (by kernel_rfl)⟩, ok, show (1 + 1) * 24 ≤ 140737488355328 by decide, show 1 + 1 ≤ 140737488355328 by decide, hnorm 2 q13 _ (by omega) (by omega) (by kernel_rfl)⟩
    · rw [show I13 d p a h s at' 2 = h13x (l0 h s) (l1 h) (l2 h) (l3 h) (l4 h s) (l5 h) (l6 h) s at' d (p + o2 h s) 0 a (pcs (d.drop p.toNat) h s 2) 2 from rfl, f13_lp2]
      have w : IntKind.wrap .i64 (l2 h) = l2 h := wrap64 (by omega) (by omega)
      have tr := take_round (d := d) (a := a) (p := p) (o := o2 h s) (n := l2 h) hp0 (by omega) (by omega) (by omega)
      skip
      rw [w, tr.1, tr.2]
      have ok : okU ⟨d, (p + o2 h s), 0, a⟩ := ⟨by show 0 ≤ (p + o2 h s); omega, by show (p + o2 h s) ≤ (d.length : Int); omega, hd⟩
      exact ⟨⟨ok, show (2 + 1) * 24 ≤ 140737488355328 by decide, show 2 + 1 ≤ 140737488355328 by decide, hnorm 3 q13 _ (by omega) (by omega) (by kernel_rfl)⟩, ok, show (2 + 1) * 24 ≤ 140737488355328 by decide, show 2 + 1 ≤ 140737488355328 by decide, hnorm 3 q13 _ (by omega) (by omega) (by kernel_rfl)⟩
    · rw [show I13 d p a h s at' 3 = h13x (l0 h s) (l1 h) (l2 h) (l3 h) (l4 h s) (l5 h) (l6 h) s at' d (p + o3 h s) 0 a (pcs (d.drop p.toNat) h s 3) 3 from rfl, f13_lp3]
      have w : IntKind.wrap .i64 (l3 h) = l3 h := wrap64 (by omega) (by omega)
      have tr := take_round (d := d) (a := a) (p := p) (o := o3 h s) (n := l3 h) hp0 (by omega) (by omega) (by omega)
      skip
      rw [w, tr.1, tr.2]
      have ok : okU ⟨d, (p + o3 h s), 0, a⟩ := ⟨by show 0 ≤ (p + o3 h s); omega, by show (p + o3 h s) ≤ (d.length : Int); omega, hd⟩
      exact ⟨⟨ok, show (3 + 1) * 24 ≤ 140737488355328 by decide, show 3 + 1 ≤ 140737488355328 by decide, hnorm 4 q13 _ (by omega) (by omega) (by kernel_rfl)⟩, ok, show (3 + 1) * 24 ≤ 140737488355328 by decide, show 3 + 1 ≤ 140737488355328 by decide, hnorm 4 q13 _ (by omega) (by omega) (by kernel_rfl)⟩
    · rw [show I13 d p a h s at' 4 = h13x (l0 h s) (l1 h) (l2 h) (l3 h) (l4 h s) (l5 h) (l6 h) s at' d (p + o4 h s) 0 a (pcs (d.drop p.toNat) h s 4) 4 from rfl, f13_lp4]
      have w : IntKind.wrap .i64 (l4 h s) = l4 h s := wrap64 (by omega) (by omega)
      have tr := take_round (d := d) (a := a) (p := p) (o := o4 h s) (n := l4 h s) hp0 (by omega) (by omega) (by omega)
      skip
      rw [w, tr.1, tr.2]
      have ok : okU ⟨d, (p + o4 h s), 0, a⟩ := ⟨by show 0 ≤ (p + o4 h s); omega, by show (p + o4 h s) ≤ (d.length : Int); omega, hd⟩
      exact ⟨⟨ok, show (4 + 1) * 24 ≤ 140737488355328 by decide, show 4 + 1 ≤ 140737488355328 by decide, hnorm 5 q13 _ (by omega) (by omega) (by kernel_rfl)⟩, ok, show (4 + 1) * 24 ≤ 140737488355328 by decide, show 4 + 1 ≤ 140737488355328 by decide, hnorm 5 q13 _ (by omega) (by omega) (by kernel_rfl)⟩
    · rw [show I13 d p a h s at' 5 = h13x (l0 h s) (l1 h) (l2 h) (l3 h) (l4 h s) (l5 h) (l6 h) s at' d (p + o5 h s) 0 a (pcs (d.drop p.toNat) h s 5) 5 from rfl, f13_lp5]
      have w : IntKind.wrap .i64 (l5 h) = l5 h := wrap64 (by omega) (by omega)
      have tr := take_round (d := d) (a := a) (p := p) (o := o5 h s) (n := l5 h) hp0 (by omega) (by omega) (by omega)
      skip
      rw [w, tr.1, tr.2]
      have ok : okU ⟨d, (p + o5 h s), 0, a⟩ := ⟨by show 0 ≤ (p + o5 h s); omega, by show (p + o5 h s) ≤ (d.length : Int); omega, hd⟩
      exact ⟨⟨ok, show (5 + 1) * 24 ≤ 140737488355328 by decide, show 5 + 1 ≤ 140737488355328 by decide, hnorm 6 q13 _ (by omega) (by omega) (by kernel_rfl)⟩, ok, show (5 + 1) * 24 ≤ 140737488355328 by decide, show 5 + 1 ≤ 140737488355328 by decide, hnorm 6 q13 _ (by omega) (by omega) (by kernel_rfl)⟩
    · rw [show I13 d p a h s at' 6 = h13x (l0 h s) (l1 h) (l2 h) (l3 h) (l4 h s) (l5 h) (l6 h) s at' d (p + o6 h s) 0 a (pcs (d.drop p.toNat) h s 6) 6 from rfl, f13_lp6]
      have w : IntKind.wrap .i64 (l6 h) = l6 h := wrap64 (by omega) (by omega)
      have tr := take_round (d := d) (a := a) (p := p) (o := o6 h s) (n := l6 h) hp0 (by omega) (by omega) (by omega)
      skip
      rw [w, tr.1, tr.2]
      have ok : okU ⟨d, (p + o6 h s), 0, a⟩ := ⟨by show 0 ≤ (p + o6 h s); omega, by show (p + o6 h s) ≤ (d.length : Int); omega, hd⟩
      exact ⟨⟨ok, show (6 + 1) * 24 ≤ 140737488355328 by decide, show 6 + 1 ≤ 140737488355328 by decide, hnorm 7 q13 _ (by omega) (by omega) (by kernel_rfl)⟩, ok, show (6 + 1) * 24 ≤ 140737488355328 by decide, show 6 + 1 ≤ 140737488355328 by decide, hnorm 7 q13 _ (by omega) (by omega) (by kernel_rfl)⟩
    · generalize hD : d.drop p.toNat = D at *
      have hDl : (D.length : Int) = d.length - p := by rw [← hD, List.length_drop]; omega
      rw [show I13 d p a h s at' 7 = h13x (l0 h s) (l1 h) (l2 h) (l3 h) (l4 h s) (l5 h) (l6 h) s at' d (p + o7 h s) 0 a [[.bytes (b0 D h s)], [.bytes (b1 D h s)], [.bytes (b2 D h s)], [.bytes (b3 D h s)], [.bytes (b4 D h s)], [.bytes (b5 D h s)], [.bytes (b6 D h s)]] 7 from by rw [← hD]; rfl, f13z_lp]
      refine hexit _ _ (by simp) ?_
      rw [f13_out]
      have m0 : (((b0 D h s).length : Nat) : Int) ≤ big' := by have := pt_len D (x := 0) (n := l0 h s) (by omega) (by omega) (by omega); unfold b0; omega
      have m2 : (((b2 D h s).length : Nat) : Int) ≤ 1000000000000 := by have := pt_len D (x := o2 h s) (n := l2 h) (by omega) (by omega) (by omega); unfold b2; omega
      have m4 : (((b4 D h s).length : Nat) : Int) ≤ big' := by have := pt_len D (x := o4 h s) (n := l4 h s) (by omega) (by omega) (by omega); unfold b4; omega
      have m5 : (((b5 D h s).length : Nat) : Int) ≤ big' := by have := pt_len D (x := o5 h s) (n := l5 h) (by omega) (by omega) (by omega); unfold b5; omega
      have m6 : (((b6 D h s).length : Nat) : Int) ≤ big' := by have := pt_len D (x := o6 h s) (n := l6 h) (by omega) (by omega) (by omega); unfold b6; omega
      have hf : fitsD ⟨d, p, 0, a⟩ h s = true := by unfold fitsD; rw [hr]; simpa using hb
      have z : ∀ n : Nat, (0 : Int) ≤ n := fun n => Int.natCast_nonneg n
      refine ⟨by decide, (show (0 : Int) < 7 by decide), rfl, hs, m0, by decide, (show (1 : Int) < 7 by decide), rfl, by decide, (show (2 : Int) < 7 by decide), rfl, m2, by decide, (show (3 : Int) < 7 by decide), rfl, by decide, (show (4 : Int) < 7 by decide), rfl, hs, m4, by decide, (show (5 : Int) < 7 by decide), rfl, m5, by decide, (show (6 : Int) < 7 by decide), rfl, m6, brn_intro (fun hk => ?_) (fun hk => ?_)⟩
      · have hno : okD D h s = false := by
          unfold okD
          cases h1 : decOk (b2 D h s) <;> cases h2 : indOk (b5 D h s) <;> cases h3 : indOk (b6 D h s) <;> simp_all
        have : decU ⟨d, p, 0, a⟩ h s at' = (zB, ⟨d, p + sumU h s, 10, at'⟩) := by
          unfold decU
          rw [if_pos rfl, if_pos hf]
          simp only [hD]
          rw [if_neg (by rw [hno]; decide)]
        rw [this]
        have : failU ⟨d, p + o7 h s, 0, a⟩ 10 at' = ⟨d, p + sumU h s, 10, at'⟩ := by unfold failU; rw [if_pos ⟨rfl, by decide⟩]; show (⟨d, p + o7 h s, 10, at'⟩ : Cu) = _; rw [show o7 h s = sumU h s by omega]
        rw [this]
        rfl
      · have hyes : okD D h s = true := by
          unfold okD
          cases h1 : decOk (b2 D h s) <;> cases h2 : indOk (b5 D h s) <;> cases h3 : indOk (b6 D h s) <;> simp_all
        have hdec : decU ⟨d, p, 0, a⟩ h s at' = (decB D h s, ⟨d, p + sumU h s, 0, a⟩) := by
          unfold decU
          rw [if_pos rfl, if_pos hf]
          simp only [hD]
          rw [if_pos hyes]
        rw [hdec, show o7 h s = sumU h s by omega]
        rfl
  refine ⟨⟨hh, hs, main _ (fun hb => ⟨hh, hs, loop hb _ (by kernel_rfl)⟩)⟩, hh, hs, main _ (fun hb => ⟨hh, hs, loop hb _ (by kernel_rfl)⟩)⟩
end Y27

set_option maxRecDepth 100000
namespace Y27
open Go Go.AE Go.Proofs Go.RowKit E6
attribute [local irreducible] loopK evCode evSpec loopB norm
theorem I3_ok : ∀ f fn, I3 f = some fn → Tryz.prog.funcs[f]? = some fn ∧ (fn.name == "runtime.NumGoroutine") = false := by
  intro f fn h
  unfold I3 at h
  cases h1 : Nat.beq f 84 with
  | true => rw [h1, cond_true] at h; cases h; obtain rfl := nbeq h1; exact ⟨Tryz.func84, by kernel_rfl⟩
  | false => rw [h1, cond_false] at h; cases h
theorem ok12 : ∀ args pres res, sDecode args = some (pres, res) → SpecOK Tryz.prog G16 52 args pres res := by
  intro args pres res h
  unfold sDecode at h
  split at h
  case h_2 => cases h
  cases h
  exact spec_okS (C := K3i) okF3 (inl_ok okF3 I3_ok 3) Tryz.func52 (by kernel_rfl) (by kernel_rfl) (fun hp => f12_ok' _ _ _ _ _ _ _ _ _ _ _ _ _ (hp _ (by simp)) (hp _ (by simp)) (hp _ (by simp)))
theorem ok13 : ∀ args pres res, sDecode args = some (pres, res) → SpecOK Tryz.prog G16 24 args pres res := by
  intro args pres res h
  unfold sDecode at h
  split at h
  case h_2 => cases h
  cases h
  exact spec_okS (C := K3h) okF3 noCall_ok Tryz.func24 (by kernel_rfl) (by kernel_rfl) (fun hp => f13_ok' _ _ _ _ _ _ _ _ _ _ _ _ _ (hp _ (by simp)) (hp _ (by simp)) (hp _ (by simp)))
theorem ok22 : ∀ args pres res, sEncode args = some (pres, res) → SpecOK Tryz.prog G16 17 args pres res := by
  intro args pres res h
  unfold sEncode blkS at h
  split at h
  case h_2 => cases h
  try dsimp only at h
  split at h
  case h_2 => cases h
  cases h
  exact mk okF3 Tryz.func17 (by kernel_rfl) (by kernel_rfl) (fun hp K hK => f22_ev _ _ _ _ _ _ _ _ (hp _ (by simp)) (hp _ (by simp)) K hK)
theorem okF4 : EOK Tryz.prog F4 G16 := addE_ok (addE_ok (addE_ok okF3 ok12) ok13) ok22
end Y27
namespace Y27
open Go Go.AE Go.Proofs E6
noncomputable def L0 : Cx := ⟨Tryz.prog, F4, noCall, G16, 9⟩
def elems (h : Hd) : Int := 2 * h.t + h.ty + h.c + h.l + h.is + h.iu
def consH (h : Hd) : Bool := h.ty != 0 && h.c != 0 && (h.iu == 0 || h.iu == h.ty) && (h.is == 0 || h.is == h.ty)
def sElem : List AV → Option (List Prop × List AV)
  | [.agg [.imm (.int .i64 v), .imm (.int .u32 iu), .imm (.int .u32 is), .imm (.int .u32 l), .imm (.int .u32 t), .imm (.int .u32 ty), .imm (.int .u32 c)]] => some ([okH ⟨v, iu, is, l, t, ty, c⟩], [.imm (.int .u64 (elems ⟨v, iu, is, l, t, ty, c⟩))])
  | _ => none
def sCons : List AV → Option (List Prop × List AV)
  | [.agg [.imm (.int .i64 v), .imm (.int .u32 iu), .imm (.int .u32 is), .imm (.int .u32 l), .imm (.int .u32 t), .imm (.int .u32 ty), .imm (.int .u32 c)]] => some ([], [bo (consH ⟨v, iu, is, l, t, ty, c⟩)])
  | _ => none
def sBound : List AV → Option (List Prop × List AV)
  | [.imm (.int .i64 n)] => some ([0 ≤ n, n ≤ 1099511627776], [.agg [i64 (4 * n + 64), i64 (16 * n + 64)]])
  | _ => none
end Y27
set_option maxRecDepth 100000
namespace Y27
open Go Go.AE Go.Proofs E6
attribute [local irreducible] loopK evCode evSpec loopB norm
theorem g12_in (v : Int) (iu : Int) (is : Int) (l : Int) (t : Int) (ty : Int) (c : Int) (K : List AV → Prop) : evSpec L0 Tryz.f12 [hdAV v iu is l t ty c] K = (K [.imm (.int IntKind.u64 (IntKind.wrap IntKind.u64 (IntKind.wrap IntKind.u64 (IntKind.wrap IntKind.u64 (IntKind.wrap IntKind.u64 (IntKind.wrap IntKind.u64 (IntKind.wrap IntKind.u64 ((2 : Int) * IntKind.wrap IntKind.u64 t) + IntKind.wrap IntKind.u64 ty) + IntKind.wrap IntKind.u64 c) + IntKind.wrap IntKind.u64 l) + IntKind.wrap IntKind.u64 is) + IntKind.wrap IntKind.u64 iu)))]) := by kernel_rfl
theorem g11_in (v : Int) (iu : Int) (is : Int) (l : Int) (t : Int) (ty : Int) (c : Int) (K : List AV → Prop) : evSpec L0 Tryz.f11 [hdAV v iu is l t ty c] K = ((0 : Int) ≤ 0 ∧ (0 : Int) < (↑(List.length [ty, c, l, is, iu]) : Int) ∧ (0 : Int) ≤ IntKind.wrap .i64 ((0 : Int) + 1) ∧ IntKind.wrap .i64 ((0 : Int) + 1) < (↑(List.length [ty, c, l, is, iu]) : Int) ∧ (0 : Int) ≤ IntKind.wrap .i64 (IntKind.wrap .i64 ((0 : Int) + 1) + 1) ∧ IntKind.wrap .i64 (IntKind.wrap .i64 ((0 : Int) + 1) + 1) < (↑(List.length [ty, c, l, is, iu]) : Int) ∧ (0 : Int) ≤ IntKind.wrap .i64 (IntKind.wrap .i64 (IntKind.wrap .i64 ((0 : Int) + 1) + 1) + 1) ∧ IntKind.wrap .i64 (IntKind.wrap .i64 (IntKind.wrap .i64 ((0 : Int) + 1) + 1) + 1) < (↑(List.length [ty, c, l, is, iu]) : Int) ∧ (0 : Int) ≤ IntKind.wrap .i64 (IntKind.wrap .i64 (IntKind.wrap .i64 (IntKind.wrap .i64 ((0 : Int) + 1) + 1) + 1) + 1) ∧ IntKind.wrap .i64 (IntKind.wrap .i64 (IntKind.wrap .i64 (IntKind.wrap .i64 ((0 : Int) + 1) + 1) + 1) + 1) < (↑(List.length [ty, c, l, is, iu]) : Int) ∧ K [.imm (.int IntKind.u64 (IntKind.wrap IntKind.u64 (IntKind.wrap IntKind.u64 (IntKind.wrap IntKind.u64 (IntKind.wrap IntKind.u64 (IntKind.wrap IntKind.u64 (IntKind.wrap
 IntKind.u64 ((2 : Int) * IntKind.wrap IntKind.u64 t) + IntKind.wrap IntKind.u64 (List.getD [ty, c, l, is, iu] (0 : Int).toNat (0 : Int))) + IntKind.wrap IntKind.u64 (List.getD [ty, c, l, is, iu] (IntKind.wrap .i64 ((0 : Int) + 1)).toNat (0 : Int))) + IntKind.wrap IntKind.u64 (List.getD [ty, c, l, is, iu] (IntKind.wrap .i64 (IntKind.wrap .i64 ((0 : Int) + 1) + 1)).toNat (0 : Int))) + IntKind.wrap IntKind.u64 (List.getD [ty, c, l, is, iu] (IntKind.wrap .i64 (IntKind.wrap .i64 (IntKind.wrap .i64 ((0 : Int) + 1) + 1) + 1)).toNat (0 : Int))) + IntKind.wrap IntKind.u64 (List.getD [ty, c, l, is, iu] (IntKind.wrap .i64 (IntKind.wrap .i64 (IntKind.wrap .i64 (IntKind.wrap .i64 ((0 : Int) + 1) + 1) + 1) + 1)).toNat (0 : Int)))))]) := by kernel_rfl
theorem g13_in (n : Int) (K : List AV → Prop) : evSpec L0 Tryz.f13 [i64 n] K = (K [.agg [i64 (IntKind.wrap .i64 (IntKind.wrap .i64 ((4 : Int) * n) + 64)), i64 (IntKind.wrap .i64 (IntKind.wrap .i64 ((16 : Int) * n) + 64))]]) := by kernel_rfl
theorem g15_in (v : Int) (iu : Int) (is : Int) (l : Int) (t : Int) (ty : Int) (c : Int) (K : List AV → Prop) : evSpec L0 Tryz.f15 [hdAV v iu is l t ty c] K = (brn (ty == 0 || c == 0) (K [bo false]) (K [bo ((iu == 0 || iu == ty) && (is == 0 || is == ty))])) := by kernel_rfl
theorem g78_in (v : Int) (iu : Int) (is : Int) (l : Int) (t : Int) (ty : Int) (c : Int) (K : List AV → Prop) : evSpec L0 Tryz.f78 [hdAV v iu is l t ty c] K = (K [bo (ty != 0 && c != 0 && (iu == 0 || iu == ty) && (is == 0 || is == ty))]) := by kernel_rfl
end Y27
set_option maxRecDepth 100000
namespace Y27
open Go Go.AE Go.Proofs E6
attribute [local irreducible] loopK evCode evSpec loopB norm
theorem g12_ev (v iu is l t ty c : Int) (hh : okH ⟨v, iu, is, l, t, ty, c⟩) (K : List AV → Prop) (hK : K [.imm (.int .u64 (elems ⟨v, iu, is, l, t, ty, c⟩))]) : evSpec L0 Tryz.f12 [hdAV v iu is l t ty c] K := by
  refine Eq.mpr (g12_in v iu is l t ty c K) ?_
  obtain ⟨⟨a1, a2⟩, ⟨b1, b2⟩, ⟨c1, c2⟩, ⟨d1, d2⟩, ⟨e1, e2⟩, ⟨f1, f2⟩⟩ := hh
  simp only at a1 a2 b1 b2 c1 c2 d1 d2 e1 e2 f1 f2
  rw [wrapU (n := t) (by omega) (by omega), wrapU (n := ty) (by omega) (by omega), wrapU (n := c) (by omega) (by omega), wrapU (n := l) (by omega) (by omega), wrapU (n := is) (by omega) (by omega), wrapU (n := iu) (by omega) (by omega),
    wrapU (n := 2 * t) (by omega) (by omega), wrapU (n := 2 * t + ty) (by omega) (by omega), wrapU (n := 2 * t + ty + c) (by omega) (by omega), wrapU (n := 2 * t + ty + c + l) (by omega) (by omega), wrapU (n := 2 * t + ty + c + l + is) (by omega) (by omega), wrapU (n := 2 * t + ty + c + l + is + iu) (by omega) (by omega)]
  exact hK
theorem g11_ev (v iu is l t ty c : Int) (hh : okH ⟨v, iu, is, l, t, ty, c⟩) (K : List AV → Prop) (hK : K [.imm (.int .u64 (elems ⟨v, iu, is, l, t, ty, c⟩))]) : evSpec L0 Tryz.f11 [hdAV v iu is l t ty c] K := by
  refine Eq.mpr (g11_in v iu is l t ty c K) ?_
  obtain ⟨⟨a1, a2⟩, ⟨b1, b2⟩, ⟨c1, c2⟩, ⟨d1, d2⟩, ⟨e1, e2⟩, ⟨f1, f2⟩⟩ := hh
  simp only at a1 a2 b1 b2 c1 c2 d1 d2 e1 e2 f1 f2
  have w1 : IntKind.wrap IntKind.i64 ((0 : Int) + (1 : Int)) = 1 := by decide
  have w2 : IntKind.wrap IntKind.i64 ((1 : Int) + (1 : Int)) = 2 := by decide
  have w3 : IntKind.wrap IntKind.i64 ((2 : Int) + (1 : Int)) = 3 := by decide
  have w4 : IntKind.wrap IntKind.i64 ((3 : Int) + (1 : Int)) = 4 := by decide
  rw [w1, w2, w3, w4]
  have g0 : List.getD [ty, c, l, is, iu] (Int.toNat (0 : Int)) (0 : Int) = ty := rfl
  have g1 : List.getD [ty, c, l, is, iu] (Int.toNat (1 : Int)) (0 : Int) = c := rfl
  have g2 : List.getD [ty, c, l, is, iu] (Int.toNat (2 : Int)) (0 : Int) = l := rfl
  have g3 : List.getD [ty, c, l, is, iu] (Int.toNat (3 : Int)) (0 : Int) = is := rfl
  have g4 : List.getD [ty, c, l, is, iu] (Int.toNat (4 : Int)) (0 : Int) = iu := rfl
  rw [g0, g1, g2, g3, g4]
  rw [wrapU (n := t) (by omega) (by omega), wrapU (n := ty) (by omega) (by omega), wrapU (n := c) (by omega) (by omega), wrapU (n := l) (by omega) (by omega), wrapU (n := is) (by omega) (by omega), wrapU (n := iu) (by omega) (by omega),
    wrapU (n := 2 * t) (by omega) (by omega), wrapU (n := 2 * t + ty) (by omega) (by omega), wrapU (n := 2 * t + ty + c) (by omega) (by omega), wrapU (n := 2 * t + ty + c + l) (by omega) (by omega), wrapU (n := 2 * t + ty + c + l + is) (by omega) (by omega), wrapU (n := 2 * t + ty + c + l + is + iu) (by omega) (by omega)]
  have hl : ((List.length [ty, c, l, is, iu] : Nat) : Int) = 5 := rfl
  rw [hl]
  exact ⟨by decide, by decide, by decide, by decide, by decide, by decide, by decide, by decide, by decide, by decide, hK⟩
theorem g13_ev (n : Int) (h0 : 0 ≤ n) (h1 : n ≤ 1099511627776) (K : List AV → Prop) (hK : K [.agg [i64 (4 * n + 64), i64 (16 * n + 64)]]) : evSpec L0 Tryz.f13 [i64 n] K := by
  refine Eq.mpr (g13_in n K) ?_
  rw [wrap64 (n := 4 * n) (by omega) (by omega), wrap64 (n := 16 * n) (by omega) (by omega), wrap64 (n := 4 * n + 64) (by omega) (by omega), wrap64 (n := 16 * n + 64) (by omega) (by omega)]
  exact hK
theorem g15_ev (v iu is l t ty c : Int) (K : List AV → Prop) (hK : K [bo (consH ⟨v, iu, is, l, t, ty, c⟩)]) : evSpec L0 Tryz.f15 [hdAV v iu is l t ty c] K := by
  refine Eq.mpr (g15_in v iu is l t ty c K) ?_
  refine brn_intro (fun h => ?_) (fun h => ?_)
  · have : consH ⟨v, iu, is, l, t, ty, c⟩ = false := by
      unfold consH
      simp only [Bool.or_eq_true, beq_iff_eq] at h
      rcases h with h | h <;> simp [h]
    rw [this] at hK
    exact hK
  · have : consH ⟨v, iu, is, l, t, ty, c⟩ = ((iu == (0 : Int) || iu == ty) && (is == (0 : Int) || is == ty)) := by
      unfold consH
      simp only [Bool.or_eq_false_iff] at h
      simp only [bne, h.1, h.2, Bool.not_false, Bool.true_and]
    rw [this] at hK
    exact hK
theorem g78_ev (v iu is l t ty c : Int) (K : List AV → Prop) (hK : K [bo (consH ⟨v, iu, is, l, t, ty, c⟩)]) : evSpec L0 Tryz.f78 [hdAV v iu is l t ty c] K :=
  Eq.mpr (g78_in v iu is l t ty c K) hK
theorem ok12e : ∀ args pres res, sElem args = some (pres, res) → SpecOK Tryz.prog G16 12 args pres res := by
  intro args pres res h
  unfold sElem at h
  split at h
  case h_2 => cases h
  cases h
  exact spec_ok (C := L0) okF4 noCall_ok Tryz.func12 (by kernel_rfl) (by kernel_rfl) (fun hp => g12_ev _ _ _ _ _ _ _ (hp _ (by simp)) _ rfl)
theorem ok11e : ∀ args pres res, sElem args = some (pres, res) → SpecOK Tryz.prog G16 11 args pres res := by
  intro args pres res h
  unfold sElem at h
  split at h
  case h_2 => cases h
  cases h
  exact spec_ok (C := L0) okF4 noCall_ok Tryz.func11 (by kernel_rfl) (by kernel_rfl) (fun hp => g11_ev _ _ _ _ _ _ _ (hp _ (by simp)) _ rfl)
theorem ok13e : ∀ args pres res, sBound args = some (pres, res) → SpecOK Tryz.prog G16 13 args pres res := by
  intro args pres res h
  unfold sBound at h
  split at h
  case h_2 => cases h
  cases h
  exact spec_ok (C := L0) okF4 noCall_ok Tryz.func13 (by kernel_rfl) (by kernel_rfl) (fun hp => g13_ev _ (hp _ (by simp)) (hp _ (by simp)) _ rfl)
theorem ok15e : ∀ args pres res, sCons args = some (pres, res) → SpecOK Tryz.prog G16 15 args pres res := by
  intro args pres res h
  unfold sCons at h
  split at h
  case h_2 => cases h
  cases h
  exact spec_ok (C := L0) okF4 noCall_ok Tryz.func15 (by kernel_rfl) (by kernel_rfl) (fun hp => g15_ev _ _ _ _ _ _ _ _ rfl)
theorem ok78e : ∀ args pres res, sCons args = some (pres, res) → SpecOK Tryz.prog G16 78 args pres res := by
  intro args pres res h
  unfold sCons at h
  split at h
  case h_2 => cases h
  cases h
  exact spec_ok (C := L0) okF4 noCall_ok Tryz.func78 (by kernel_rfl) (by kernel_rfl) (fun hp => g78_ev _ _ _ _ _ _ _ _ rfl)
def F5 := addE (addE (addE (addE (addE F4 12 sElem) 11 sElem) 13 sBound) 15 sCons) 78 sCons
theorem okF5 : EOK Tryz.prog F5 G16 := addE_ok (addE_ok (addE_ok (addE_ok (addE_ok okF4 ok12e) ok11e) ok13e) ok15e) ok78e
end Y27
namespace Y27
open Go Go.AE Go.Proofs E6
noncomputable def L1 : Cx := cx F5
def misI (d w : List UInt8) : Option Nat := (List.range w.length).find? fun i => d.getD i 0 != w.getD i 0
def expU (c : Cu) (w : List UInt8) (y : Int) : Cu := if advOk c w.length then (match misI (c.d.drop c.p.toNat) w with
  | none => advU c w.length
  | some i => failU c y (c.p + i)) else advU c w.length
def sExp : List AV → Option (List Prop × List AV)
  | [.agg [.imm (.bytes d), .imm (.int .i64 p), .imm (.int .i64 e), .imm (.int .i64 a)], .imm (.bytes w), .imm (.int .i64 y)] => some ([okU ⟨d, p, e, a⟩, (w.length : Int) ≤ 1000], [(expU ⟨d, p, e, a⟩ w y).av])
  | _ => none
def cuC (d : List UInt8) (p e a : Int) : Ob := ⟨true, 0, .cells [by' d, i64 p, i64 e, i64 a]⟩
def hX53 (d : List UInt8) (p e a : Int) (w : List UInt8) (y : Int) (d' : List UInt8) (p' e' a' : Int) (i : Nat) : St :=
  ⟨spr [(2, i64 y), (3, .ptr 0 0), (6, .ptr 1 0), (7, .ptr 2 0), (21, by' w), (22, ln w.length), (23, ln i)] 0 47, [(0, cuC d p e a), (1, ⟨true, 0, .cells zCur⟩), (2, cuC d' p' e' a')], 3, []⟩
def pX53 : Plan := ⟨[], msk [2, 3, 6, 7, 21, 22, 23] 0 47, [0, 1, 2]⟩
def hX41 (d : List UInt8) (p e a : Int) (w : List UInt8) (y : Int) (m d' : List UInt8) (p' e' a' : Int) (i : Nat) : St :=
  ⟨spr [(1, by' w), (2, i64 y), (3, .ptr 0 0), (6, .ptr 1 0), (7, .row 2 0), (8, .ptr 3 0), (9, ln i)] 0 49, [(0, cuC d p e a), (1, ⟨true, 0, .cells zCur⟩), (2, ⟨true, 0, .row (.bytes m)⟩), (3, cuC d' p' e' a')], 4, []⟩
def pX41 : Plan := ⟨[], msk [1, 2, 3, 6, 7, 8, 9] 0 49, [0, 1, 2, 3]⟩
theorem misI_some {d w : List UInt8} {i : Nat} (hi : i < w.length) (hb : ∀ j, j < i → d.getD j 0 = w.getD j 0) (hn : d.getD i 0 ≠ w.getD i 0) : misI d w = some i := by
  unfold misI
  rw [List.find?_range_eq_some]
  exact ⟨by simpa using hn, by simpa using hi, fun j hj => by simpa using hb j hj⟩
theorem misI_none {d w : List UInt8} (hb : ∀ j, j < w.length → d.getD j 0 = w.getD j 0) : misI d w = none := by
  unfold misI
  rw [List.find?_eq_none]
  intro i hi
  have := hb i (List.mem_range.1 hi)
  simpa using this
end Y27
set_option maxRecDepth 100000
namespace Y27
open Go Go.AE Go.Proofs E6
attribute [local irreducible] loopK evCode evSpec loopB norm
theorem g53_in (d : List UInt8) (p : Int) (e : Int) (a : Int) (w : List UInt8) (y : Int) (K : List AV → Prop) : evSpec L1 Tryz.f53 [curAV d p e a, by' w, i64 y] K = (((0 : Int) ≤ Cu.p (Cu.mk d p e a) ∧ Cu.p (Cu.mk d p e a) ≤ (↑(Cu.d (Cu.mk d p e a)).length : Int) ∧ (↑(Cu.d (Cu.mk d p e a)).length : Int) ≤ 1000000000000) ∧ brn (!advOk (Cu.mk d p e a) (w.length : Int)) (K [.agg [by' (Cu.d (advU (Cu.mk d p e a) (w.length : Int))), i64 (Cu.p (advU (Cu.mk d p e a) (w.length : Int))), i64 (Cu.e (advU (Cu.mk d p e a) (w.length : Int))), i64 (Cu.a (advU (Cu.mk d p e a) (w.length : Int)))]]) (LoopI L1 (bodyOf Tryz.f53) (0 : Nat) (St.mk (lapp [.agg [by' d, i64 p, i64 e, i64 a], by' w, i64 y, .ptr 0 0, .dead, .dead, .ptr 1 0, .ptr 2 0, bo (advOk (Cu.mk d p e a) (w.length : Int)), .dead, .dead, .tup [.agg [by' (Cu.d (advU (Cu.mk d p e a) (w.length : Int))), i64 (Cu.p (advU (Cu.mk d p e a) (w.length : Int))), i64 (Cu.e (advU (Cu.mk d p e a) (w.length : Int))), i64 (Cu.a (advU (Cu.mk d p e a) (w.length : Int)))], bo (advOk (Cu.mk d p e a) (w.length : Int))], .agg [by' d, i64 p, i64 e, i64 a], by' w, i64 (w.length : Int), .tup [.agg [by' (Cu.d (advU (Cu.mk d p e a) (w.length : Int))), i64 (Cu.p
 (advU (Cu.mk d p e a) (w.length : Int))), i64 (Cu.e (advU (Cu.mk d p e a) (w.length : Int))), i64 (Cu.a (advU (Cu.mk d p e a) (w.length : Int)))], bo (advOk (Cu.mk d p e a) (w.length : Int))], .agg [by' (Cu.d (advU (Cu.mk d p e a) (w.length : Int))), i64 (Cu.p (advU (Cu.mk d p e a) (w.length : Int))), i64 (Cu.e (advU (Cu.mk d p e a) (w.length : Int))), i64 (Cu.a (advU (Cu.mk d p e a) (w.length : Int)))], bo (advOk (Cu.mk d p e a) (w.length : Int)), bo (advOk (Cu.mk d p e a) (w.length : Int)), bo (!advOk (Cu.mk d p e a) (w.length : Int)), .dead, by' w, i64 (w.length : Int), i64 0] (dN 23)) [(0, Ob.mk true 0 (AObj.cells [by' d, i64 p, i64 e, i64 a])), (1, Ob.mk true 0 (AObj.cells [.imm (.val (Value.slice none (0 : Nat) (0 : Nat))), i64 0, i64 0, i64 0])), (2, Ob.mk true 0 (AObj.cells [by' (Cu.d (advU (Cu.mk d p e a) (w.length : Int))), i64 (Cu.p (advU (Cu.mk d p e a) (w.length : Int))), i64 (Cu.e (advU (Cu.mk d p e a) (w.length : Int))), i64 (Cu.a (advU (Cu.mk d p e a) (w.length : Int)))]))] (3 : Nat) []) (finK L1 Tryz.f53 K))) := by kernel_rfl
theorem g41_in (d : List UInt8) (p : Int) (e : Int) (a : Int) (w : List UInt8) (y : Int) (K : List AV → Prop) : evSpec L1 Tryz.f41 [curAV d p e a, by' w, i64 y] K = (((0 : Int) ≤ Cu.p (Cu.mk d p e a) ∧ Cu.p (Cu.mk d p e a) ≤ (↑(Cu.d (Cu.mk d p e a)).length : Int) ∧ (↑(Cu.d (Cu.mk d p e a)).length : Int) ≤ 1000000000000) ∧ brn (e != 0 || Cu.e (advU (Cu.mk d p e a) (w.length : Int)) != 0) (K [.agg [by' (Cu.d (advU (Cu.mk d p e a) (w.length : Int))), i64 (Cu.p (advU (Cu.mk d p e a) (w.length : Int))), i64 (Cu.e (advU (Cu.mk d p e a) (w.length : Int))), i64 (Cu.a (advU (Cu.mk d p e a) (w.length : Int)))]]) (LoopI L1 (bodyOf Tryz.f41) (0 : Nat) (St.mk (lapp [.agg [by' d, i64 p, i64 e, i64 a], by' w, i64 y, .ptr 0 0, .dead, .dead, .ptr 1 0, AV.row (2 : Nat) (0 : Nat), .ptr 3 0, i64 0, .tup [AV.row (2 : Nat) (0 : Nat), .agg [by' (Cu.d (advU (Cu.mk d p e a) (w.length : Int))), i64 (Cu.p (advU (Cu.mk d p e a) (w.length : Int))), i64 (Cu.e (advU (Cu.mk d p e a) (w.length : Int))), i64 (Cu.a (advU (Cu.mk d p e a) (w.length : Int)))]], .agg [by' d, i64 p, i64 e, i64 a], by' w, i64 (w.length : Int), .tup [AV.row (2 : Nat) (0 : Nat), .agg [by' (Cu.d (advU (Cu.mk d p e a) (w.length : Int))), i64
 (Cu.p (advU (Cu.mk d p e a) (w.length : Int))), i64 (Cu.e (advU (Cu.mk d p e a) (w.length : Int))), i64 (Cu.a (advU (Cu.mk d p e a) (w.length : Int)))]], AV.row (2 : Nat) (0 : Nat), .agg [by' (Cu.d (advU (Cu.mk d p e a) (w.length : Int))), i64 (Cu.p (advU (Cu.mk d p e a) (w.length : Int))), i64 (Cu.e (advU (Cu.mk d p e a) (w.length : Int))), i64 (Cu.a (advU (Cu.mk d p e a) (w.length : Int)))], .ptr 0 2, i64 e, bo (e != 0), bo (e != 0), .opt [((20 : Nat), false)] (.ptr 3 2), .opt [((20 : Nat), false)] (i64 (Cu.e (advU (Cu.mk d p e a) (w.length : Int)))), .opt [((20 : Nat), false)] (bo (Cu.e (advU (Cu.mk d p e a) (w.length : Int)) != 0)), bo (e != 0 || Cu.e (advU (Cu.mk d p e a) (w.length : Int)) != 0)] (dN 24)) [(0, Ob.mk true 0 (AObj.cells [by' d, i64 p, i64 e, i64 a])), (1, Ob.mk true 0 (AObj.cells [.imm (.val (Value.slice none (0 : Nat) (0 : Nat))), i64 0, i64 0, i64 0])), (2, Ob.mk true 0 (AObj.row (IV.bytes (takeU (Cu.mk d p e a) (w.length : Int))))), (3, Ob.mk true 0 (AObj.cells [by' (Cu.d (advU (Cu.mk d p e a) (w.length : Int))), i64 (Cu.p (advU (Cu.mk d p e a) (w.length : Int))), i64 (Cu.e (advU (Cu.mk d p e a) (w.length : Int))), i64 (Cu.a (advU (Cu.mk d p e a) (w.length :
 Int)))]))] (4 : Nat) []) (finK L1 Tryz.f41 K))) := by kernel_rfl
theorem g42_in (d : List UInt8) (p : Int) (e : Int) (a : Int) (n : Int) (K : List AV → Prop) : evSpec L1 Tryz.f42 [curAV d p e a, i64 n] K = (((0 : Int) ≤ Cu.p (Cu.mk d p e a) ∧ Cu.p (Cu.mk d p e a) ≤ (↑(Cu.d (Cu.mk d p e a)).length : Int) ∧ (↑(Cu.d (Cu.mk d p e a)).length : Int) ≤ 1000000000000) ∧ (↑(takeU (Cu.mk d p e a) n).length : Int) ≤ big ∧ (0 : Int) ≤ 0 ∧ (0 : Int) ≤ big ∧ (0 : Int) ≤ n ∧ n ≤ 8 ∧ K [.imm (.int IntKind.u64 (↑(uintP (takeU (Cu.mk d p e a) n) (0 : Int).toNat n.toNat) : Int)), .agg [by' (Cu.d (advU (Cu.mk d p e a) n)), i64 (Cu.p (advU (Cu.mk d p e a) n)), i64 (Cu.e (advU (Cu.mk d p e a) n)), i64 (Cu.a (advU (Cu.mk d p e a) n))]]) := by kernel_rfl
theorem g53_lp (d : List UInt8) (p : Int) (e : Int) (a : Int) (w : List UInt8) (y : Int) (d' : List UInt8) (p' : Int) (e' : Int) (a' : Int) (i : Nat) (k : AX → St → Prop) : evCode L1 (loopB (bodyOf Tryz.f53) (0 : Nat)) (hX53 d p e a w y d' p' e' a' i) k = (brn (decide ((↑i : Int) < (w.length : Int))) ((0 : Int) ≤ (↑i : Int) ∧ (↑i : Int) < (w.length : Int) ∧ (0 : Int) ≤ IntKind.wrap .i64 (p + (↑i : Int)) ∧ IntKind.wrap .i64 (p + (↑i : Int)) < (d.length : Int) ∧ brn ((↑(UInt8.toNat (List.getD d (IntKind.wrap .i64 (p + (↑i : Int))).toNat (0 : UInt8))) : Int) != (↑(UInt8.toNat (List.getD w (↑i : Int).toNat (0 : UInt8))) : Int)) (k AX.ret (St.mk (lapp [.dead, .dead, i64 y, .ptr 0 0, .dead, .dead, .ptr 1 0, .ptr 2 0, .dead, i64 (↑i : Int), .imm (.int .u8 (↑(UInt8.toNat (List.getD w (↑i : Int).toNat (0 : UInt8))) : Int))] (lapp (dN 10) [by' w, i64 (w.length : Int), i64 (↑i : Int), bo (decide ((↑i : Int) < (w.length : Int))), i64 (↑i : Int), AV.elv [IV.int .u8 (↑(UInt8.toNat (List.getD w (↑i : Int).toNat (0 : UInt8))) : Int)], .imm (.int .u8 (↑(UInt8.toNat (List.getD w (↑i : Int).toNat (0 : UInt8))) : Int)), .ptr 0 0, by' d, .ptr 0 1, i64 p, i64 (↑i : Int), i64 (IntKind.wrap .i64 (p + (↑i :
 Int))), AV.elv [IV.int .u8 (↑(UInt8.toNat (List.getD d (IntKind.wrap .i64 (p + (↑i : Int))).toNat (0 : UInt8))) : Int)], .imm (.int .u8 (↑(UInt8.toNat (List.getD d (IntKind.wrap .i64 (p + (↑i : Int))).toNat (0 : UInt8))) : Int)), .imm (.int .u8 (↑(UInt8.toNat (List.getD w (↑i : Int).toNat (0 : UInt8))) : Int)), bo ((↑(UInt8.toNat (List.getD d (IntKind.wrap .i64 (p + (↑i : Int))).toNat (0 : UInt8))) : Int) != (↑(UInt8.toNat (List.getD w (↑i : Int).toNat (0 : UInt8))) : Int)), .agg [by' d, i64 p, i64 e, i64 a], i64 y, .ptr 0 1, i64 p, i64 (↑i : Int), i64 (IntKind.wrap .i64 (p + (↑i : Int))), .agg [by' (Cu.d (failU (Cu.mk d p e a) y (IntKind.wrap .i64 (p + (↑i : Int))))), i64 (Cu.p (failU (Cu.mk d p e a) y (IntKind.wrap .i64 (p + (↑i : Int))))), i64 (Cu.e (failU (Cu.mk d p e a) y (IntKind.wrap .i64 (p + (↑i : Int))))), i64 (Cu.a (failU (Cu.mk d p e a) y (IntKind.wrap .i64 (p + (↑i : Int)))))], .dead, .dead])) [(0, Ob.mk true 0 (AObj.cells [by' d, i64 p, i64 e, i64 a])), (1, Ob.mk true 0 (AObj.cells [by' (Cu.d (failU (Cu.mk d p e a) y (IntKind.wrap .i64 (p + (↑i : Int))))), i64 (Cu.p (failU (Cu.mk d p e a) y (IntKind.wrap .i64 (p + (↑i : Int))))), i64 (Cu.e (failU (Cu.mk d p e a) y
 (IntKind.wrap .i64 (p + (↑i : Int))))), i64 (Cu.a (failU (Cu.mk d p e a) y (IntKind.wrap .i64 (p + (↑i : Int)))))])), (2, Ob.mk true 0 (AObj.cells [by' d', i64 p', i64 e', i64 a']))] (3 : Nat) [])) (k AX.normal (St.mk (lapp [.dead, .dead, i64 y, .ptr 0 0, .dead, .dead, .ptr 1 0, .ptr 2 0, .dead, i64 (↑i : Int), .imm (.int .u8 (↑(UInt8.toNat (List.getD w (↑i : Int).toNat (0 : UInt8))) : Int))] (lapp (dN 10) (lapp [by' w, i64 (w.length : Int), i64 (IntKind.wrap .i64 ((↑i : Int) + 1)), bo (decide ((↑i : Int) < (w.length : Int))), i64 (↑i : Int), AV.elv [IV.int .u8 (↑(UInt8.toNat (List.getD w (↑i : Int).toNat (0 : UInt8))) : Int)], .imm (.int .u8 (↑(UInt8.toNat (List.getD w (↑i : Int).toNat (0 : UInt8))) : Int)), .ptr 0 0, by' d, .ptr 0 1, i64 p, i64 (↑i : Int), i64 (IntKind.wrap .i64 (p + (↑i : Int))), AV.elv [IV.int .u8 (↑(UInt8.toNat (List.getD d (IntKind.wrap .i64 (p + (↑i : Int))).toNat (0 : UInt8))) : Int)], .imm (.int .u8 (↑(UInt8.toNat (List.getD d (IntKind.wrap .i64 (p + (↑i : Int))).toNat (0 : UInt8))) : Int)), .imm (.int .u8 (↑(UInt8.toNat (List.getD w (↑i : Int).toNat (0 : UInt8))) : Int)), bo ((↑(UInt8.toNat (List.getD d (IntKind.wrap .i64 (p + (↑i : Int))).toNat (0 :
 UInt8))) : Int) != (↑(UInt8.toNat (List.getD w (↑i : Int).toNat (0 : UInt8))) : Int))] (lapp (dN 7) [i64 (IntKind.wrap .i64 ((↑i : Int) + 1)), .dead])))) [(0, Ob.mk true 0 (AObj.cells [by' d, i64 p, i64 e, i64 a])), (1, Ob.mk true 0 (AObj.cells [.imm (.val (Value.slice none (0 : Nat) (0 : Nat))), i64 0, i64 0, i64 0])), (2, Ob.mk true 0 (AObj.cells [by' d', i64 p', i64 e', i64 a']))] (3 : Nat) []))) (k (AX.exit (0 : Nat)) (St.mk (lapp [.dead, .dead, i64 y, .ptr 0 0, .dead, .dead, .ptr 1 0, .ptr 2 0] (lapp (dN 13) (lapp [by' w, i64 (w.length : Int), i64 (↑i : Int), bo (decide ((↑i : Int) < (w.length : Int)))] (dN 22)))) [(0, Ob.mk true 0 (AObj.cells [by' d, i64 p, i64 e, i64 a])), (1, Ob.mk true 0 (AObj.cells [.imm (.val (Value.slice none (0 : Nat) (0 : Nat))), i64 0, i64 0, i64 0])), (2, Ob.mk true 0 (AObj.cells [by' d', i64 p', i64 e', i64 a']))] (3 : Nat) []))) := by kernel_rfl
theorem g41_lp (d : List UInt8) (p : Int) (e : Int) (a : Int) (w : List UInt8) (y : Int) (m : List UInt8) (d' : List UInt8) (p' : Int) (e' : Int) (a' : Int) (i : Nat) (k : AX → St → Prop) : evCode L1 (loopB (bodyOf Tryz.f41) (0 : Nat)) (hX41 d p e a w y m d' p' e' a' i) k = (brn (decide ((↑i : Int) < (w.length : Int))) ((0 : Int) ≤ (↑i : Int) ∧ (↑i : Int) < (m.length : Int) ∧ (0 : Int) ≤ (↑i : Int) ∧ (↑i : Int) < (w.length : Int) ∧ brn ((↑(UInt8.toNat (List.getD m (↑i : Int).toNat (0 : UInt8))) : Int) != (↑(UInt8.toNat (List.getD w (↑i : Int).toNat (0 : UInt8))) : Int)) (k AX.ret (St.mk (lapp [.dead, by' w, i64 y, .ptr 0 0, .dead, .dead, .ptr 1 0, AV.row (2 : Nat) (0 : Nat), .ptr 3 0, i64 (↑i : Int)] (lapp (dN 16) [i64 (↑i : Int), by' w, i64 (w.length : Int), bo (decide ((↑i : Int) < (w.length : Int))), .dead, .dead, AV.row (2 : Nat) (0 : Nat), i64 (↑i : Int), AV.elp (2 : Nat) (0 : Nat) (↑i : Int).toNat (0 : Nat), .imm (.int .u8 (↑(UInt8.toNat (List.getD m (↑i : Int).toNat (0 : UInt8))) : Int)), by' w, i64 (↑i : Int), AV.elv [IV.int .u8 (↑(UInt8.toNat (List.getD w (↑i : Int).toNat (0 : UInt8))) : Int)], .imm (.int .u8 (↑(UInt8.toNat (List.getD w (↑i : Int).toNat (0 : UInt8))) :
 Int)), bo ((↑(UInt8.toNat (List.getD m (↑i : Int).toNat (0 : UInt8))) : Int) != (↑(UInt8.toNat (List.getD w (↑i : Int).toNat (0 : UInt8))) : Int)), .agg [by' d, i64 p, i64 e, i64 a], i64 y, .ptr 0 1, i64 p, i64 (↑i : Int), i64 (IntKind.wrap .i64 (p + (↑i : Int))), .agg [by' (Cu.d (failU (Cu.mk d p e a) y (IntKind.wrap .i64 (p + (↑i : Int))))), i64 (Cu.p (failU (Cu.mk d p e a) y (IntKind.wrap .i64 (p + (↑i : Int))))), i64 (Cu.e (failU (Cu.mk d p e a) y (IntKind.wrap .i64 (p + (↑i : Int))))), i64 (Cu.a (failU (Cu.mk d p e a) y (IntKind.wrap .i64 (p + (↑i : Int)))))], .dead])) [(0, Ob.mk true 0 (AObj.cells [by' d, i64 p, i64 e, i64 a])), (1, Ob.mk true 0 (AObj.cells [by' (Cu.d (failU (Cu.mk d p e a) y (IntKind.wrap .i64 (p + (↑i : Int))))), i64 (Cu.p (failU (Cu.mk d p e a) y (IntKind.wrap .i64 (p + (↑i : Int))))), i64 (Cu.e (failU (Cu.mk d p e a) y (IntKind.wrap .i64 (p + (↑i : Int))))), i64 (Cu.a (failU (Cu.mk d p e a) y (IntKind.wrap .i64 (p + (↑i : Int)))))])), (2, Ob.mk true 0 (AObj.row (IV.bytes m))), (3, Ob.mk true 0 (AObj.cells [by' d', i64 p', i64 e', i64 a']))] (4 : Nat) [])) (k AX.normal (St.mk (lapp [.dead, by' w, i64 y, .ptr 0 0, .dead, .dead, .ptr 1 0, AV.row (2 : Nat) (0
 : Nat), .ptr 3 0, i64 (IntKind.wrap .i64 ((↑i : Int) + 1))] (lapp (dN 16) (lapp [i64 (↑i : Int), by' w, i64 (w.length : Int), bo (decide ((↑i : Int) < (w.length : Int))), i64 (↑i : Int), i64 (IntKind.wrap .i64 ((↑i : Int) + 1)), AV.row (2 : Nat) (0 : Nat), i64 (↑i : Int), AV.elp (2 : Nat) (0 : Nat) (↑i : Int).toNat (0 : Nat), .imm (.int .u8 (↑(UInt8.toNat (List.getD m (↑i : Int).toNat (0 : UInt8))) : Int)), by' w, i64 (↑i : Int), AV.elv [IV.int .u8 (↑(UInt8.toNat (List.getD w (↑i : Int).toNat (0 : UInt8))) : Int)], .imm (.int .u8 (↑(UInt8.toNat (List.getD w (↑i : Int).toNat (0 : UInt8))) : Int)), bo ((↑(UInt8.toNat (List.getD m (↑i : Int).toNat (0 : UInt8))) : Int) != (↑(UInt8.toNat (List.getD w (↑i : Int).toNat (0 : UInt8))) : Int))] (dN 8)))) [(0, Ob.mk true 0 (AObj.cells [by' d, i64 p, i64 e, i64 a])), (1, Ob.mk true 0 (AObj.cells [.imm (.val (Value.slice none (0 : Nat) (0 : Nat))), i64 0, i64 0, i64 0])), (2, Ob.mk true 0 (AObj.row (IV.bytes m))), (3, Ob.mk true 0 (AObj.cells [by' d', i64 p', i64 e', i64 a']))] (4 : Nat) []))) (k (AX.exit (0 : Nat)) (St.mk (lapp [.dead, by' w, i64 y, .ptr 0 0, .dead, .dead, .ptr 1 0, AV.row (2 : Nat) (0 : Nat), .ptr 3 0, i64 (↑i : Int)] (lapp
 (dN 16) (lapp [i64 (↑i : Int), by' w, i64 (w.length : Int), bo (decide ((↑i : Int) < (w.length : Int)))] (dN 19)))) [(0, Ob.mk true 0 (AObj.cells [by' d, i64 p, i64 e, i64 a])), (1, Ob.mk true 0 (AObj.cells [.imm (.val (Value.slice none (0 : Nat) (0 : Nat))), i64 0, i64 0, i64 0])), (2, Ob.mk true 0 (AObj.row (IV.bytes m))), (3, Ob.mk true 0 (AObj.cells [by' d', i64 p', i64 e', i64 a']))] (4 : Nat) []))) := by kernel_rfl
end Y27
set_option maxRecDepth 100000
namespace Y27
open Go Go.AE Go.Proofs E6
attribute [local irreducible] loopK evCode evSpec loopB norm
theorem advOk_elim {d : List UInt8} {p e a : Int} {n : Nat} (h : advOk ⟨d, p, e, a⟩ n = true) : e = 0 ∧ (n : Int) ≤ d.length - p := by
  unfold advOk restU at h
  simp only [decide_eq_true_eq] at h
  obtain ⟨h1, _, h3⟩ := h
  rw [if_pos h1] at h3
  exact ⟨h1, h3⟩
theorem getD_drop {d : List UInt8} (p i : Nat) : (d.drop p).getD i 0 = d.getD (p + i) 0 := by
  rw [List.getD_eq_getElem?_getD, List.getD_eq_getElem?_getD, List.getElem?_drop]
set_option maxHeartbeats 2000000 in
theorem g53_ev (d : List UInt8) (p e a : Int) (w : List UInt8) (y : Int) (hu : okU ⟨d, p, e, a⟩) (hw : (w.length : Int) ≤ 1000) (K : List AV → Prop) (hK : K [(expU ⟨d, p, e, a⟩ w y).av]) : evSpec L1 Tryz.f53 [curAV d p e a, by' w, i64 y] K := by
  rw [g53_in]
  refine ⟨hu, brn_intro (fun h => ?_) (fun h => ?_)⟩
  · have : expU ⟨d, p, e, a⟩ w y = advU ⟨d, p, e, a⟩ (w.length : Int) := by
      unfold expU; rw [if_neg (by simpa using h)]
    rw [this] at hK; exact hK
  · have hok : advOk ⟨d, p, e, a⟩ (w.length : Int) = true := by simpa using h
    obtain ⟨he, hn⟩ := advOk_elim hok
    obtain ⟨hp0, hp1, hd⟩ := hu
    simp only at hp0 hp1 hd
    unfold LoopI
    refine loop_rule (fun i : Nat => hX53 d p e a w y (Cu.d (advU ⟨d, p, e, a⟩ (w.length : Int))) (Cu.p (advU ⟨d, p, e, a⟩ (w.length : Int))) (Cu.e (advU ⟨d, p, e, a⟩ (w.length : Int))) (Cu.a (advU ⟨d, p, e, a⟩ (w.length : Int))) i)
      (fun i => i ≤ w.length ∧ ∀ j, j < i → (d.drop p.toNat).getD j 0 = w.getD j 0) (fun i => w.length - i) (fun i hP K' hnorm hexit => ?_) rfl 0 pX53 _ ⟨Nat.zero_le _, fun j h => by omega⟩ (by kernel_rfl)
    obtain ⟨hi, ht⟩ := hP
    rw [g53_lp]
    refine brn_intro (fun h1 => ?_) (fun h1 => ?_)
    · simp only [decide_eq_true_eq] at h1
      have e1 : IntKind.wrap IntKind.i64 (p + (i : Int)) = p + (i : Int) := wrap64 (by omega) (by omega)
      have e2 : IntKind.wrap .i64 ((i : Int) + 1) = ((i + 1 : Nat) : Int) := by rw [wrap64 (by omega) (by omega)]; rfl
      simp only [e1, e2]
      have hg : (d.drop p.toNat).getD i 0 = d.getD (Int.toNat (p + (i : Int))) 0 := by
        rw [getD_drop]; congr 1; omega
      refine ⟨by omega, by omega, by omega, by omega, brn_intro (fun h2 => ?_) (fun h2 => ?_)⟩
      · have hm : misI (d.drop p.toNat) w = some i := misI_some (by omega) ht (by
          rw [hg]
          intro e
          rw [e, Int.toNat_natCast] at h2
          simp at h2)
        have : expU ⟨d, p, e, a⟩ w y = failU ⟨d, p, e, a⟩ y (p + i) := by
          unfold expU
          rw [if_pos hok]
          simp only [hm]
        rw [this] at hK
        exact hexit _ _ (by simp) (Eq.mp (by kernel_rfl) hK)
      · have e3 : (d.drop p.toNat).getD i 0 = w.getD i 0 := by
          rw [hg]
          simp only [bne_eq_false_iff_eq, Int.toNat_natCast] at h2
          exact UInt8.toNat_inj.1 (by omega)
        refine hnorm (i + 1) pX53 _ ⟨by omega, fun j hj => ?_⟩ (by omega) (by kernel_rfl)
        by_cases hji : j = i
        · rw [hji]; exact e3
        · exact ht j (by omega)
    · simp only [decide_eq_false_iff_not] at h1
      have hil : i = w.length := by omega
      have : expU ⟨d, p, e, a⟩ w y = advU ⟨d, p, e, a⟩ (w.length : Int) := by
        unfold expU
        rw [if_pos hok, misI_none (fun j hj => ht j (by omega))]
      rw [this] at hK
      exact hexit _ _ (by simp) (Eq.mp (by kernel_rfl) hK)
end Y27
set_option maxRecDepth 100000
namespace Y27
open Go Go.AE Go.Proofs E6
attribute [local irreducible] loopK evCode evSpec loopB norm
theorem take_ok {d : List UInt8} {p e a : Int} {n : Nat} (h : advOk ⟨d, p, e, a⟩ n = true) : takeU ⟨d, p, e, a⟩ n = (d.drop p.toNat).take n := by
  unfold takeU
  rw [if_pos h]
  simp
theorem adv_e {d : List UInt8} {p e a : Int} {n : Nat} (he : e = 0) : Cu.e (advU ⟨d, p, e, a⟩ n) = 0 ↔ advOk ⟨d, p, e, a⟩ n = true := by
  unfold advU advOk
  rw [if_pos he]
  simp only [decide_eq_true_eq]
  constructor
  · intro h
    split at h
    · rename_i h2; exact ⟨he, h2.1, h2.2⟩
    · cases h
  · intro h
    rw [if_pos ⟨h.2.1, h.2.2⟩]
set_option maxHeartbeats 2000000 in
theorem g41_ev (d : List UInt8) (p e a : Int) (w : List UInt8) (y : Int) (hu : okU ⟨d, p, e, a⟩) (hw : (w.length : Int) ≤ 1000) (K : List AV → Prop) (hK : K [(expU ⟨d, p, e, a⟩ w y).av]) : evSpec L1 Tryz.f41 [curAV d p e a, by' w, i64 y] K := by
  rw [g41_in]
  refine ⟨hu, brn_intro (fun h => ?_) (fun h => ?_)⟩
  · have : expU ⟨d, p, e, a⟩ w y = advU ⟨d, p, e, a⟩ (w.length : Int) := by
      unfold expU
      rw [if_neg]
      intro hok
      have he := (advOk_elim hok).1
      have := (adv_e he).2 hok
      rw [this, he] at h
      simp at h
    rw [this] at hK; exact hK
  · simp only [Bool.or_eq_false_iff, bne_eq_false_iff_eq] at h
    have hok : advOk ⟨d, p, e, a⟩ (w.length : Int) = true := (adv_e h.1).1 h.2
    obtain ⟨he, hn⟩ := advOk_elim hok
    obtain ⟨hp0, hp1, hd⟩ := hu
    simp only at hp0 hp1 hd
    have hm := take_ok hok
    have hml : (takeU ⟨d, p, e, a⟩ (w.length : Int)).length = w.length := by
      rw [hm, List.length_take, List.length_drop]; omega
    have hmg : ∀ i, i < w.length → (takeU ⟨d, p, e, a⟩ (w.length : Int)).getD i 0 = (d.drop p.toNat).getD i 0 := by
      intro i hi
      rw [hm, List.getD_eq_getElem?_getD, List.getD_eq_getElem?_getD, List.getElem?_take, if_pos hi]
    generalize takeU ⟨d, p, e, a⟩ (w.length : Int) = m at *
    unfold LoopI
    refine loop_rule (fun i : Nat => hX41 d p e a w y m (Cu.d (advU ⟨d, p, e, a⟩ (w.length : Int))) (Cu.p (advU ⟨d, p, e, a⟩ (w.length : Int))) (Cu.e (advU ⟨d, p, e, a⟩ (w.length : Int))) (Cu.a (advU ⟨d, p, e, a⟩ (w.length : Int))) i)
      (fun i => i ≤ w.length ∧ ∀ j, j < i → (d.drop p.toNat).getD j 0 = w.getD j 0) (fun i => w.length - i) (fun i hP K' hnorm hexit => ?_) rfl 0 pX41 _ ⟨Nat.zero_le _, fun j h => by omega⟩ (by kernel_rfl)
    obtain ⟨hi, ht⟩ := hP
    rw [g41_lp]
    refine brn_intro (fun h1 => ?_) (fun h1 => ?_)
    · simp only [decide_eq_true_eq] at h1
      have e1 : IntKind.wrap IntKind.i64 (p + (i : Int)) = p + (i : Int) := wrap64 (by omega) (by omega)
      have e2 : IntKind.wrap .i64 ((i : Int) + 1) = ((i + 1 : Nat) : Int) := by rw [wrap64 (by omega) (by omega)]; rfl
      simp only [e1, e2]
      have hg := hmg i (by omega)
      refine ⟨by omega, by omega, by omega, by omega, brn_intro (fun h2 => ?_) (fun h2 => ?_)⟩
      · have hm' : misI (d.drop p.toNat) w = some i := misI_some (by omega) ht (by
          rw [← hg]
          intro e
          rw [Int.toNat_natCast, e] at h2
          simp at h2)
        have : expU ⟨d, p, e, a⟩ w y = failU ⟨d, p, e, a⟩ y (p + i) := by
          unfold expU
          rw [if_pos hok]
          simp only [hm']
        rw [this] at hK
        exact hexit _ _ (by simp) (Eq.mp (by kernel_rfl) hK)
      · have e3 : (d.drop p.toNat).getD i 0 = w.getD i 0 := by
          rw [← hg]
          simp only [bne_eq_false_iff_eq, Int.toNat_natCast] at h2
          exact UInt8.toNat_inj.1 (by omega)
        refine hnorm (i + 1) pX41 _ ⟨by omega, fun j hj => ?_⟩ (by omega) (by kernel_rfl)
        by_cases hji : j = i
        · rw [hji]; exact e3
        · exact ht j (by omega)
    · simp only [decide_eq_false_iff_not] at h1
      have hil : i = w.length := by omega
      have : expU ⟨d, p, e, a⟩ w y = advU ⟨d, p, e, a⟩ (w.length : Int) := by
        unfold expU
        rw [if_pos hok, misI_none (fun j hj => ht j (by omega))]
      rw [this] at hK
      exact hexit _ _ (by simp) (Eq.mp (by kernel_rfl) hK)
def sUintC : List AV → Option (List Prop × List AV)
  | [.agg [.imm (.bytes d), .imm (.int .i64 p), .imm (.int .i64 e), .imm (.int .i64 a)], .imm (.int .i64 n)] => some ([okU ⟨d, p, e, a⟩, 1 ≤ n, n ≤ 8], [.imm (.int .u64 (uintP (takeU ⟨d, p, e, a⟩ n) 0 n.toNat : Int)), (advU ⟨d, p, e, a⟩ n).av])
  | _ => none
theorem take_len {d : List UInt8} {p e a n : Int} (h : okU ⟨d, p, e, a⟩) : ((takeU ⟨d, p, e, a⟩ n).length : Int) ≤ big := by
  obtain ⟨hp0, hp1, hd⟩ := h
  simp only at hp0 hp1 hd
  have hbig : big = 4611686018427387904 := rfl
  unfold takeU
  split
  · show ((List.take n.toNat (List.drop p.toNat d)).length : Int) ≤ big
    rw [List.length_take, List.length_drop]; omega
  · show ((0 : Nat) : Int) ≤ big
    omega
theorem g42_ev (d : List UInt8) (p e a n : Int) (hu : okU ⟨d, p, e, a⟩) (n1 : 1 ≤ n) (n8 : n ≤ 8) (K : List AV → Prop) (hK : K [.imm (.int .u64 (uintP (takeU ⟨d, p, e, a⟩ n) 0 n.toNat : Int)), (advU ⟨d, p, e, a⟩ n).av]) : evSpec L1 Tryz.f42 [curAV d p e a, i64 n] K := by
  rw [g42_in]
  exact ⟨hu, take_len hu, by decide, by decide, by omega, n8, hK⟩
theorem ok53e : ∀ args pres res, sExp args = some (pres, res) → SpecOK Tryz.prog G16 53 args pres res := by
  intro args pres res h
  unfold sExp at h
  split at h
  case h_2 => cases h
  cases h
  exact spec_ok (C := L1) okF5 noCall_ok Tryz.func53 (by kernel_rfl) (by kernel_rfl) (fun hp => g53_ev _ _ _ _ _ _ (hp _ (by simp)) (hp _ (by simp)) _ rfl)
theorem ok41e : ∀ args pres res, sExp args = some (pres, res) → SpecOK Tryz.prog G16 41 args pres res := by
  intro args pres res h
  unfold sExp at h
  split at h
  case h_2 => cases h
  cases h
  exact spec_ok (C := L1) okF5 noCall_ok Tryz.func41 (by kernel_rfl) (by kernel_rfl) (fun hp => g41_ev _ _ _ _ _ _ (hp _ (by simp)) (hp _ (by simp)) _ rfl)
theorem ok42e : ∀ args pres res, sUintC args = some (pres, res) → SpecOK Tryz.prog G16 42 args pres res := by
  intro args pres res h
  unfold sUintC at h
  split at h
  case h_2 => cases h
  cases h
  exact spec_ok (C := L1) okF5 noCall_ok Tryz.func42 (by kernel_rfl) (by kernel_rfl) (fun hp => g42_ev _ _ _ _ _ (hp _ (by simp)) (hp _ (by simp)) (hp _ (by simp)) _ rfl)
end Y27
set_option maxRecDepth 100000
namespace Y27
open Go Go.AE Go.Proofs E6
noncomputable def IC : FuncId → Option Func := fun f => bif Nat.beq f 104 then some Tryz.f104 else none
noncomputable def L2 : Cx := ⟨Tryz.prog, F5, inl IC Tryz.prog F5 G16 0 3, G16, 0⟩
section
attribute [local irreducible] loopK evCode evSpec loopB norm
theorem g77_in (d : List UInt8) (p : Int) (e : Int) (a : Int) (n : Int) (K : List AV → Prop) : evSpec L2 Tryz.f77 [curAV d p e a, i64 n] K = (((0 : Int) ≤ Cu.p (Cu.mk d p e a) ∧ Cu.p (Cu.mk d p e a) ≤ (↑(Cu.d (Cu.mk d p e a)).length : Int) ∧ (↑(Cu.d (Cu.mk d p e a)).length : Int) ≤ 1000000000000) ∧ brn (!advOk (Cu.mk d p e a) n) (K [.imm (.int IntKind.u64 (0 : Int)), .agg [by' (Cu.d (advU (Cu.mk d p e a) n)), i64 (Cu.p (advU (Cu.mk d p e a) n)), i64 (Cu.e (advU (Cu.mk d p e a) n)), i64 (Cu.a (advU (Cu.mk d p e a) n))]]) ((d.length : Int) ≤ big ∧ (0 : Int) ≤ p ∧ p ≤ big ∧ (0 : Int) ≤ n ∧ n ≤ 8 ∧ K [.imm (.int IntKind.u64 (↑(uintP d p.toNat n.toNat) : Int)), .agg [by' (Cu.d (advU (Cu.mk d p e a) n)), i64 (Cu.p (advU (Cu.mk d p e a) n)), i64 (Cu.e (advU (Cu.mk d p e a) n)), i64 (Cu.a (advU (Cu.mk d p e a) n))]])) := by kernel_rfl
theorem IC_ok : ∀ f fn, IC f = some fn → Tryz.prog.funcs[f]? = some fn ∧ (fn.name == "runtime.NumGoroutine") = false := by
  intro f fn h
  unfold IC at h
  cases h1 : Nat.beq f 104 with
  | true => rw [h1, cond_true] at h; cases h; obtain rfl := nbeq h1; exact ⟨Tryz.func104, by kernel_rfl⟩
  | false => rw [h1, cond_false] at h; cases h
theorem uint_take {d : List UInt8} {p e a n : Int} (hp : 0 ≤ p) (n0 : 1 ≤ n) (h : advOk ⟨d, p, e, a⟩ n = true) : uintP (takeU ⟨d, p, e, a⟩ n) 0 n.toNat = uintP d p.toNat n.toNat := by
  have ht : takeU ⟨d, p, e, a⟩ n = (d.drop p.toNat).take n.toNat := by
    unfold takeU
    rw [if_pos h]
  have hl : n ≤ (d.length : Int) - p := by
    unfold advOk restU at h
    simp only [decide_eq_true_eq] at h
    obtain ⟨h1, _, h3⟩ := h
    rw [if_pos h1] at h3
    exact h3
  rw [ht]
  unfold uintP okR
  have hlen : ((d.drop p.toNat).take n.toNat).length = n.toNat := by
    rw [List.length_take, List.length_drop]; omega
  rw [if_pos (by simp only [decide_eq_true_eq, hlen]; omega), if_pos (by simp only [decide_eq_true_eq]; omega), List.drop_zero, List.take_take, Nat.min_self]
theorem uint_none {d : List UInt8} {p e a n : Int} (n0 : 1 ≤ n) (h : advOk ⟨d, p, e, a⟩ n = false) : uintP (takeU ⟨d, p, e, a⟩ n) 0 n.toNat = 0 := by
  have ht : takeU ⟨d, p, e, a⟩ n = [] := by
    unfold takeU
    rw [if_neg (by rw [h]; decide)]
  rw [ht]
  unfold uintP okR
  rw [if_neg (by simp only [decide_eq_true_eq, List.length_nil]; omega)]
theorem g77_ev (d : List UInt8) (p e a n : Int) (hu : okU ⟨d, p, e, a⟩) (n1 : 1 ≤ n) (n8 : n ≤ 8) (K : List AV → Prop) (hK : K [.imm (.int .u64 (uintP (takeU ⟨d, p, e, a⟩ n) 0 n.toNat : Int)), (advU ⟨d, p, e, a⟩ n).av]) : evSpec L2 Tryz.f77 [curAV d p e a, i64 n] K := by
  rw [g77_in]
  obtain ⟨hp0, hp1, hd⟩ := hu
  simp only at hp0 hp1 hd
  have hbig : big = 4611686018427387904 := rfl
  refine ⟨⟨hp0, hp1, hd⟩, brn_intro (fun h => ?_) (fun h => ?_)⟩
  · rw [uint_none n1 (by simpa using h)] at hK
    exact hK
  · rw [uint_take hp0 n1 (by simpa using h)] at hK
    exact ⟨by omega, hp0, by omega, by omega, n8, hK⟩
theorem ok77e : ∀ args pres res, sUintC args = some (pres, res) → SpecOK Tryz.prog G16 77 args pres res := by
  intro args pres res h
  unfold sUintC at h
  split at h
  case h_2 => cases h
  cases h
  exact spec_ok (C := L2) okF5 (inl_ok okF5 IC_ok 3) Tryz.func77 (by kernel_rfl) (by kernel_rfl) (fun hp => g77_ev _ _ _ _ _ (hp _ (by simp)) (hp _ (by simp)) (hp _ (by simp)) _ rfl)
end
def F6 := addE (addE (addE (addE F5 53 sExp) 41 sExp) 42 sUintC) 77 sUintC
theorem okF6 : EOK Tryz.prog F6 G16 := addE_ok (addE_ok (addE_ok (addE_ok okF5 ok53e) ok41e) ok42e) ok77e
end Y27
set_option maxRecDepth 100000
namespace Y27
open Go Go.AE Go.Proofs E6
def verB (x : Int) : Int := if x = 0 then 1 else if x = 50 then 2 else if x = 51 then 3 else if x = 52 then 4 else 0
def verU (c : Cu) : Int × Cu := if Cu.e (advU c 1) ≠ 0 then (0, advU c 1) else if verB (uintP (takeU c 1) 0 1) = 0 then (0, failU c 4 c.p) else (verB (uintP (takeU c 1) 0 1), advU c 1)
def sVer : List AV → Option (List Prop × List AV)
  | [.agg [.imm (.bytes d), .imm (.int .i64 p), .imm (.int .i64 e), .imm (.int .i64 a)]] => some ([okU ⟨d, p, e, a⟩], [i64 (verU ⟨d, p, e, a⟩).1, (verU ⟨d, p, e, a⟩).2.av])
  | _ => none
def sByte : List AV → Option (List Prop × List AV)
  | [.imm (.int .i64 k)] => some ([1 ≤ k, k ≤ 4], [.imm (.int .u8 (if k = 1 then 0 else 48 + k))])
  | _ => none
noncomputable def L3 : Cx := ⟨Tryz.prog, F6, noCall, G16, 9⟩
section
attribute [local irreducible] loopK evCode evSpec loopB norm
theorem g75_in (d : List UInt8) (p : Int) (e : Int) (a : Int) (K : List AV → Prop) : evSpec L3 Tryz.f75 [curAV d p e a] K = (((0 : Int) ≤ Cu.p (Cu.mk d p e a) ∧ Cu.p (Cu.mk d p e a) ≤ (↑(Cu.d (Cu.mk d p e a)).length : Int) ∧ (↑(Cu.d (Cu.mk d p e a)).length : Int) ≤ 1000000000000) ∧ (1 : Int) ≤ 1 ∧ (1 : Int) ≤ 8 ∧ brn (Cu.e (advU (Cu.mk d p e a) (1 : Int)) != 0) (K [i64 0, .agg [by' (Cu.d (advU (Cu.mk d p e a) (1 : Int))), i64 (Cu.p (advU (Cu.mk d p e a) (1 : Int))), i64 (Cu.e (advU (Cu.mk d p e a) (1 : Int))), i64 (Cu.a (advU (Cu.mk d p e a) (1 : Int)))]]) (brn (IntKind.wrap IntKind.u64 (0 : Int) == (↑(uintP (takeU (Cu.mk d p e a) (1 : Int)) (0 : Nat) (1 : Int).toNat) : Int)) (K [i64 1, .agg [by' (Cu.d (advU (Cu.mk d p e a) (1 : Int))), i64 (Cu.p (advU (Cu.mk d p e a) (1 : Int))), i64 (Cu.e (advU (Cu.mk d p e a) (1 : Int))), i64 (Cu.a (advU (Cu.mk d p e a) (1 : Int)))]]) (brn (IntKind.wrap IntKind.u64 (50 : Int) == (↑(uintP (takeU (Cu.mk d p e a) (1 : Int)) (0 : Nat) (1 : Int).toNat) : Int)) (K [i64 2, .agg [by' (Cu.d (advU (Cu.mk d p e a) (1 : Int))), i64 (Cu.p (advU (Cu.mk d p e a) (1 : Int))), i64 (Cu.e (advU (Cu.mk d p e a) (1 : Int))), i64 (Cu.a (advU (Cu.mk d p e a) (1 :
 Int)))]]) (brn (IntKind.wrap IntKind.u64 (51 : Int) == (↑(uintP (takeU (Cu.mk d p e a) (1 : Int)) (0 : Nat) (1 : Int).toNat) : Int)) (K [i64 3, .agg [by' (Cu.d (advU (Cu.mk d p e a) (1 : Int))), i64 (Cu.p (advU (Cu.mk d p e a) (1 : Int))), i64 (Cu.e (advU (Cu.mk d p e a) (1 : Int))), i64 (Cu.a (advU (Cu.mk d p e a) (1 : Int)))]]) (brn (IntKind.wrap IntKind.u64 (52 : Int) == (↑(uintP (takeU (Cu.mk d p e a) (1 : Int)) (0 : Nat) (1 : Int).toNat) : Int)) (K [i64 4, .agg [by' (Cu.d (advU (Cu.mk d p e a) (1 : Int))), i64 (Cu.p (advU (Cu.mk d p e a) (1 : Int))), i64 (Cu.e (advU (Cu.mk d p e a) (1 : Int))), i64 (Cu.a (advU (Cu.mk d p e a) (1 : Int)))]]) (K [i64 0, .agg [by' (Cu.d (failU (Cu.mk d p e a) (4 : Int) p)), i64 (Cu.p (failU (Cu.mk d p e a) (4 : Int) p)), i64 (Cu.e (failU (Cu.mk d p e a) (4 : Int) p)), i64 (Cu.a (failU (Cu.mk d p e a) (4 : Int) p))]])))))) := by kernel_rfl
theorem g30_in (k : Int) (K : List AV → Prop) : evSpec L3 Tryz.f30 [i64 k] K = (brn (k == 1) (K [.imm (.int .u8 0)]) (K [.imm (.int .u8 (IntKind.wrap IntKind.u8 (IntKind.wrap .i64 ((48 : Int) + k))))])) := by kernel_rfl
theorem g75_ev (d : List UInt8) (p e a : Int) (hu : okU ⟨d, p, e, a⟩) (K : List AV → Prop) (hK : K [i64 (verU ⟨d, p, e, a⟩).1, (verU ⟨d, p, e, a⟩).2.av]) : evSpec L3 Tryz.f75 [curAV d p e a] K := by
  rw [g75_in]
  have w0 : IntKind.wrap IntKind.u64 (0 : Int) = 0 := wrapU (by decide) (by decide)
  have w1 : IntKind.wrap IntKind.u64 (50 : Int) = 50 := wrapU (by decide) (by decide)
  have w2 : IntKind.wrap IntKind.u64 (51 : Int) = 51 := wrapU (by decide) (by decide)
  have w3 : IntKind.wrap IntKind.u64 (52 : Int) = 52 := wrapU (by decide) (by decide)
  rw [w0, w1, w2, w3]
  have t1 : Int.toNat (1 : Int) = 1 := rfl
  rw [t1]
  refine ⟨hu, by decide, by decide, brn_intro (fun h => ?_) (fun h => ?_)⟩
  · have : verU ⟨d, p, e, a⟩ = (0, advU ⟨d, p, e, a⟩ 1) := by
      unfold verU
      rw [if_pos (by simpa using h)]
    rw [this] at hK
    exact hK
  · have he : ¬ (Cu.e (advU ⟨d, p, e, a⟩ 1) ≠ 0) := by simpa using h
    generalize hv : ((uintP (takeU ⟨d, p, e, a⟩ 1) 0 1 : Nat) : Int) = v
    have hver : verU ⟨d, p, e, a⟩ = if verB v = 0 then (0, failU ⟨d, p, e, a⟩ 4 p) else (verB v, advU ⟨d, p, e, a⟩ 1) := by
      unfold verU
      rw [if_neg he, hv]
    have go : ∀ k : Int, k ≠ 0 → verB v = k → K [i64 k, (advU ⟨d, p, e, a⟩ 1).av] := fun k hk hb => by
      rw [hver, if_neg (by rw [hb]; exact hk), hb] at hK
      exact hK
    refine brn_intro (fun h0 => go 1 (by decide) ?_) (fun h0 => brn_intro (fun h1 => go 2 (by decide) ?_) (fun h1 => brn_intro (fun h2 => go 3 (by decide) ?_) (fun h2 => brn_intro (fun h3 => go 4 (by decide) ?_) (fun h3 => ?_))))
    · simp only [beq_iff_eq] at h0
      rw [← h0]; rfl
    · simp only [beq_iff_eq] at h1
      rw [← h1]; rfl
    · simp only [beq_iff_eq] at h2
      rw [← h2]; rfl
    · simp only [beq_iff_eq] at h3
      rw [← h3]; rfl
    · simp only [beq_eq_false_iff_ne, ne_eq] at h0 h1 h2 h3
      have : verB v = 0 := by
        unfold verB
        rw [if_neg (fun x => h0 x.symm), if_neg (fun x => h1 x.symm), if_neg (fun x => h2 x.symm), if_neg (fun x => h3 x.symm)]
      rw [hver, if_pos this] at hK
      exact hK
theorem g30_ev (k : Int) (k1 : 1 ≤ k) (k4 : k ≤ 4) (K : List AV → Prop) (hK : K [.imm (.int .u8 (if k = 1 then 0 else 48 + k))]) : evSpec L3 Tryz.f30 [i64 k] K := by
  rw [g30_in]
  refine brn_intro (fun h => ?_) (fun h => ?_)
  · rw [if_pos (by simpa using h)] at hK
    exact hK
  · rw [if_neg (by simpa using h)] at hK
    rw [wrap64 (n := 48 + k) (by omega) (by omega), wrapU8 (n := 48 + k) (by omega) (by omega)]
    exact hK
theorem ok75e : ∀ args pres res, sVer args = some (pres, res) → SpecOK Tryz.prog G16 75 args pres res := by
  intro args pres res h
  unfold sVer at h
  split at h
  case h_2 => cases h
  cases h
  exact spec_ok (C := L3) okF6 noCall_ok Tryz.func75 (by kernel_rfl) (by kernel_rfl) (fun hp => g75_ev _ _ _ _ (hp _ (by simp)) _ rfl)
theorem ok30e : ∀ args pres res, sByte args = some (pres, res) → SpecOK Tryz.prog G16 30 args pres res := by
  intro args pres res h
  unfold sByte at h
  split at h
  case h_2 => cases h
  cases h
  exact spec_ok (C := L3) okF6 noCall_ok Tryz.func30 (by kernel_rfl) (by kernel_rfl) (fun hp => g30_ev _ (hp _ (by simp)) (hp _ (by simp)) _ rfl)
end
def F7 := addE (addE F6 75 sVer) 30 sByte
theorem okF7 : EOK Tryz.prog F7 G16 := addE_ok (addE_ok okF6 ok75e) ok30e
end Y27
set_option maxRecDepth 100000
namespace Y27
open Go Go.AE Go.Proofs E6
def hd0 (v : Int) : List UInt8 := List.map u8 [84, 90, 105, 102, if v = 1 then 0 else 48 + v, 0, 0, 0, 0, 0, 0, 0, 0, 0, 0, 0, 0, 0, 0, 0]
def hdB (h : Hd) : List UInt8 := hd0 h.v ++ be 4 h.iu.toNat ++ be 4 h.is.toNat ++ be 4 h.l.toNat ++ be 4 h.t.toNat ++ be 4 h.ty.toNat ++ be 4 h.c.toNat
def sHdE : List AV → Option (List Prop × List AV)
  | [.agg [.imm (.int .i64 v), .imm (.int .u32 iu), .imm (.int .u32 is), .imm (.int .u32 l), .imm (.int .u32 t), .imm (.int .u32 ty), .imm (.int .u32 c)]] => some ([1 ≤ v, v ≤ 4, okH ⟨v, iu, is, l, t, ty, c⟩], [.new (.bytes (hdB ⟨v, iu, is, l, t, ty, c⟩))])
  | _ => none
noncomputable def L5 : Cx := ⟨Tryz.prog, F7, noCall, G16, 9⟩
section
attribute [local irreducible] loopK evCode evSpec loopB norm
theorem g16_in (v : Int) (iu : Int) (is : Int) (l : Int) (t : Int) (ty : Int) (c : Int) (K : List AV → Prop) : evSpec L5 Tryz.f16 [hdAV v iu is l t ty c] K = ((1 : Int) ≤ v ∧ v ≤ 4 ∧ (0 : Int) ≤ 0 ∧ (0 : Int) < (↑(List.length [iu, is, l, t, ty, c]) : Int) ∧ (↑(List.map u8 [(84 : Int), (90 : Int), (105 : Int), (102 : Int), if v = 1 then (0 : Int) else (48 : Int) + v, (0 : Int), (0 : Int), (0 : Int), (0 : Int), (0 : Int), (0 : Int), (0 : Int), (0 : Int), (0 : Int), (0 : Int), (0 : Int), (0 : Int), (0 : Int), (0 : Int), (0 : Int)]).length : Int) ≤ 1000000000000 ∧ (0 : Int) ≤ 4 ∧ (4 : Int) ≤ 8 ∧ (0 : Int) ≤ IntKind.wrap IntKind.u64 (List.getD [iu, is, l, t, ty, c] (0 : Int).toNat (0 : Int)) ∧ IntKind.wrap IntKind.u64 (List.getD [iu, is, l, t, ty, c] (0 : Int).toNat (0 : Int)) < 18446744073709551616 ∧ (0 : Int) ≤ IntKind.wrap .i64 ((0 : Int) + 1) ∧ IntKind.wrap .i64 ((0 : Int) + 1) < (↑(List.length [iu, is, l, t, ty, c]) : Int) ∧ (↑(List.map u8 [(84 : Int), (90 : Int), (105 : Int), (102 : Int), if v = 1 then (0 : Int) else (48 : Int) + v, (0 : Int), (0 : Int), (0 : Int), (0 : Int), (0 : Int), (0 : Int), (0 : Int), (0 : Int), (0 : Int), (0 : Int), (0 : Int), (0 : Int), (0 : Int), (0 :
 Int), (0 : Int)] ++ be (4 : Int).toNat (IntKind.wrap IntKind.u64 (List.getD [iu, is, l, t, ty, c] (0 : Int).toNat (0 : Int))).toNat).length : Int) ≤ 1000000000000 ∧ (0 : Int) ≤ 4 ∧ (4 : Int) ≤ 8 ∧ (0 : Int) ≤ IntKind.wrap IntKind.u64 (List.getD [iu, is, l, t, ty, c] (IntKind.wrap .i64 ((0 : Int) + 1)).toNat (0 : Int)) ∧ IntKind.wrap IntKind.u64 (List.getD [iu, is, l, t, ty, c] (IntKind.wrap .i64 ((0 : Int) + 1)).toNat (0 : Int)) < 18446744073709551616 ∧ (0 : Int) ≤ IntKind.wrap .i64 (IntKind.wrap .i64 ((0 : Int) + 1) + 1) ∧ IntKind.wrap .i64 (IntKind.wrap .i64 ((0 : Int) + 1) + 1) < (↑(List.length [iu, is, l, t, ty, c]) : Int) ∧ (↑(List.map u8 [(84 : Int), (90 : Int), (105 : Int), (102 : Int), if v = 1 then (0 : Int) else (48 : Int) + v, (0 : Int), (0 : Int), (0 : Int), (0 : Int), (0 : Int), (0 : Int), (0 : Int), (0 : Int), (0 : Int), (0 : Int), (0 : Int), (0 : Int), (0 : Int), (0 : Int), (0 : Int)] ++ be (4 : Int).toNat (IntKind.wrap IntKind.u64 (List.getD [iu, is, l, t, ty, c] (0 : Int).toNat (0 : Int))).toNat ++ be (4 : Int).toNat (IntKind.wrap IntKind.u64 (List.getD [iu, is, l, t, ty, c] (IntKind.wrap .i64 ((0 : Int) + 1)).toNat (0 : Int))).toNat).length : Int) ≤ 1000000000000 ∧
 (0 : Int) ≤ 4 ∧ (4 : Int) ≤ 8 ∧ (0 : Int) ≤ IntKind.wrap IntKind.u64 (List.getD [iu, is, l, t, ty, c] (IntKind.wrap .i64 (IntKind.wrap .i64 ((0 : Int) + 1) + 1)).toNat (0 : Int)) ∧ IntKind.wrap IntKind.u64 (List.getD [iu, is, l, t, ty, c] (IntKind.wrap .i64 (IntKind.wrap .i64 ((0 : Int) + 1) + 1)).toNat (0 : Int)) < 18446744073709551616 ∧ (0 : Int) ≤ IntKind.wrap .i64 (IntKind.wrap .i64 (IntKind.wrap .i64 ((0 : Int) + 1) + 1) + 1) ∧ IntKind.wrap .i64 (IntKind.wrap .i64 (IntKind.wrap .i64 ((0 : Int) + 1) + 1) + 1) < (↑(List.length [iu, is, l, t, ty, c]) : Int) ∧ (↑(List.map u8 [(84 : Int), (90 : Int), (105 : Int), (102 : Int), if v = 1 then (0 : Int) else (48 : Int) + v, (0 : Int), (0 : Int), (0 : Int), (0 : Int), (0 : Int), (0 : Int), (0 : Int), (0 : Int), (0 : Int), (0 : Int), (0 : Int), (0 : Int), (0 : Int), (0 : Int), (0 : Int)] ++ be (4 : Int).toNat (IntKind.wrap IntKind.u64 (List.getD [iu, is, l, t, ty, c] (0 : Int).toNat (0 : Int))).toNat ++ be (4 : Int).toNat (IntKind.wrap IntKind.u64 (List.getD [iu, is, l, t, ty, c] (IntKind.wrap .i64 ((0 : Int) + 1)).toNat (0 : Int))).toNat ++ be (4 : Int).toNat (IntKind.wrap IntKind.u64 (List.getD [iu, is, l, t, ty, c] (IntKind.wrap .i64
 (IntKind.wrap .i64 ((0 : Int) + 1) + 1)).toNat (0 : Int))).toNat).length : Int) ≤ 1000000000000 ∧ (0 : Int) ≤ 4 ∧ (4 : Int) ≤ 8 ∧ (0 : Int) ≤ IntKind.wrap IntKind.u64 (List.getD [iu, is, l, t, ty, c] (IntKind.wrap .i64 (IntKind.wrap .i64 (IntKind.wrap .i64 ((0 : Int) + 1) + 1) + 1)).toNat (0 : Int)) ∧ IntKind.wrap IntKind.u64 (List.getD [iu, is, l, t, ty, c] (IntKind.wrap .i64 (IntKind.wrap .i64 (IntKind.wrap .i64 ((0 : Int) + 1) + 1) + 1)).toNat (0 : Int)) < 18446744073709551616 ∧ (0 : Int) ≤ IntKind.wrap .i64 (IntKind.wrap .i64 (IntKind.wrap .i64 (IntKind.wrap .i64 ((0 : Int) + 1) + 1) + 1) + 1) ∧ IntKind.wrap .i64 (IntKind.wrap .i64 (IntKind.wrap .i64 (IntKind.wrap .i64 ((0 : Int) + 1) + 1) + 1) + 1) < (↑(List.length [iu, is, l, t, ty, c]) : Int) ∧ (↑(List.map u8 [(84 : Int), (90 : Int), (105 : Int), (102 : Int), if v = 1 then (0 : Int) else (48 : Int) + v, (0 : Int), (0 : Int), (0 : Int), (0 : Int), (0 : Int), (0 : Int), (0 : Int), (0 : Int), (0 : Int), (0 : Int), (0 : Int), (0 : Int), (0 : Int), (0 : Int), (0 : Int)] ++ be (4 : Int).toNat (IntKind.wrap IntKind.u64 (List.getD [iu, is, l, t, ty, c] (0 : Int).toNat (0 : Int))).toNat ++ be (4 : Int).toNat (IntKind.wrap IntKind.u64
 (List.getD [iu, is, l, t, ty, c] (IntKind.wrap .i64 ((0 : Int) + 1)).toNat (0 : Int))).toNat ++ be (4 : Int).toNat (IntKind.wrap IntKind.u64 (List.getD [iu, is, l, t, ty, c] (IntKind.wrap .i64 (IntKind.wrap .i64 ((0 : Int) + 1) + 1)).toNat (0 : Int))).toNat ++ be (4 : Int).toNat (IntKind.wrap IntKind.u64 (List.getD [iu, is, l, t, ty, c] (IntKind.wrap .i64 (IntKind.wrap .i64 (IntKind.wrap .i64 ((0 : Int) + 1) + 1) + 1)).toNat (0 : Int))).toNat).length : Int) ≤ 1000000000000 ∧ (0 : Int) ≤ 4 ∧ (4 : Int) ≤ 8 ∧ (0 : Int) ≤ IntKind.wrap IntKind.u64 (List.getD [iu, is, l, t, ty, c] (IntKind.wrap .i64 (IntKind.wrap .i64 (IntKind.wrap .i64 (IntKind.wrap .i64 ((0 : Int) + 1) + 1) + 1) + 1)).toNat (0 : Int)) ∧ IntKind.wrap IntKind.u64 (List.getD [iu, is, l, t, ty, c] (IntKind.wrap .i64 (IntKind.wrap .i64 (IntKind.wrap .i64 (IntKind.wrap .i64 ((0 : Int) + 1) + 1) + 1) + 1)).toNat (0 : Int)) < 18446744073709551616 ∧ (0 : Int) ≤ IntKind.wrap .i64 (IntKind.wrap .i64 (IntKind.wrap .i64 (IntKind.wrap .i64 (IntKind.wrap .i64 ((0 : Int) + 1) + 1) + 1) + 1) + 1) ∧ IntKind.wrap .i64 (IntKind.wrap .i64 (IntKind.wrap .i64 (IntKind.wrap .i64 (IntKind.wrap .i64 ((0 : Int) + 1) + 1) + 1) + 1) + 1) <
 (↑(List.length [iu, is, l, t, ty, c]) : Int) ∧ (↑(List.map u8 [(84 : Int), (90 : Int), (105 : Int), (102 : Int), if v = 1 then (0 : Int) else (48 : Int) + v, (0 : Int), (0 : Int), (0 : Int), (0 : Int), (0 : Int), (0 : Int), (0 : Int), (0 : Int), (0 : Int), (0 : Int), (0 : Int), (0 : Int), (0 : Int), (0 : Int), (0 : Int)] ++ be (4 : Int).toNat (IntKind.wrap IntKind.u64 (List.getD [iu, is, l, t, ty, c] (0 : Int).toNat (0 : Int))).toNat ++ be (4 : Int).toNat (IntKind.wrap IntKind.u64 (List.getD [iu, is, l, t, ty, c] (IntKind.wrap .i64 ((0 : Int) + 1)).toNat (0 : Int))).toNat ++ be (4 : Int).toNat (IntKind.wrap IntKind.u64 (List.getD [iu, is, l, t, ty, c] (IntKind.wrap .i64 (IntKind.wrap .i64 ((0 : Int) + 1) + 1)).toNat (0 : Int))).toNat ++ be (4 : Int).toNat (IntKind.wrap IntKind.u64 (List.getD [iu, is, l, t, ty, c] (IntKind.wrap .i64 (IntKind.wrap .i64 (IntKind.wrap .i64 ((0 : Int) + 1) + 1) + 1)).toNat (0 : Int))).toNat ++ be (4 : Int).toNat (IntKind.wrap IntKind.u64 (List.getD [iu, is, l, t, ty, c] (IntKind.wrap .i64 (IntKind.wrap .i64 (IntKind.wrap .i64 (IntKind.wrap .i64 ((0 : Int) + 1) + 1) + 1) + 1)).toNat (0 : Int))).toNat).length : Int) ≤ 1000000000000 ∧ (0 : Int) ≤ 4 ∧ (4 :
 Int) ≤ 8 ∧ (0 : Int) ≤ IntKind.wrap IntKind.u64 (List.getD [iu, is, l, t, ty, c] (IntKind.wrap .i64 (IntKind.wrap .i64 (IntKind.wrap .i64 (IntKind.wrap .i64 (IntKind.wrap .i64 ((0 : Int) + 1) + 1) + 1) + 1) + 1)).toNat (0 : Int)) ∧ IntKind.wrap IntKind.u64 (List.getD [iu, is, l, t, ty, c] (IntKind.wrap .i64 (IntKind.wrap .i64 (IntKind.wrap .i64 (IntKind.wrap .i64 (IntKind.wrap .i64 ((0 : Int) + 1) + 1) + 1) + 1) + 1)).toNat (0 : Int)) < 18446744073709551616 ∧ K [AV.new (IV.bytes (List.map u8 [(84 : Int), (90 : Int), (105 : Int), (102 : Int), if v = 1 then (0 : Int) else (48 : Int) + v, (0 : Int), (0 : Int), (0 : Int), (0 : Int), (0 : Int), (0 : Int), (0 : Int), (0 : Int), (0 : Int), (0 : Int), (0 : Int), (0 : Int), (0 : Int), (0 : Int), (0 : Int)] ++ be (4 : Int).toNat (IntKind.wrap IntKind.u64 (List.getD [iu, is, l, t, ty, c] (0 : Int).toNat (0 : Int))).toNat ++ be (4 : Int).toNat (IntKind.wrap IntKind.u64 (List.getD [iu, is, l, t, ty, c] (IntKind.wrap .i64 ((0 : Int) + 1)).toNat (0 : Int))).toNat ++ be (4 : Int).toNat (IntKind.wrap IntKind.u64 (List.getD [iu, is, l, t, ty, c] (IntKind.wrap .i64 (IntKind.wrap .i64 ((0 : Int) + 1) + 1)).toNat (0 : Int))).toNat ++ be (4 : Int).toNat
 (IntKind.wrap IntKind.u64 (List.getD [iu, is, l, t, ty, c] (IntKind.wrap .i64 (IntKind.wrap .i64 (IntKind.wrap .i64 ((0 : Int) + 1) + 1) + 1)).toNat (0 : Int))).toNat ++ be (4 : Int).toNat (IntKind.wrap IntKind.u64 (List.getD [iu, is, l, t, ty, c] (IntKind.wrap .i64 (IntKind.wrap .i64 (IntKind.wrap .i64 (IntKind.wrap .i64 ((0 : Int) + 1) + 1) + 1) + 1)).toNat (0 : Int))).toNat ++ be (4 : Int).toNat (IntKind.wrap IntKind.u64 (List.getD [iu, is, l, t, ty, c] (IntKind.wrap .i64 (IntKind.wrap .i64 (IntKind.wrap .i64 (IntKind.wrap .i64 (IntKind.wrap .i64 ((0 : Int) + 1) + 1) + 1) + 1) + 1)).toNat (0 : Int))).toNat))]) := by kernel_rfl
set_option maxHeartbeats 2000000 in
theorem g16_ev (v iu is l t ty c : Int) (v1 : 1 ≤ v) (v4 : v ≤ 4) (hh : okH ⟨v, iu, is, l, t, ty, c⟩) (K : List AV → Prop) (hK : K [.new (.bytes (hdB ⟨v, iu, is, l, t, ty, c⟩))]) : evSpec L5 Tryz.f16 [hdAV v iu is l t ty c] K := by
  refine Eq.mpr (g16_in v iu is l t ty c K) ?_
  obtain ⟨⟨a1, a2⟩, ⟨b1, b2⟩, ⟨c1, c2⟩, ⟨d1, d2⟩, ⟨e1, e2⟩, ⟨f1, f2⟩⟩ := hh
  simp only at a1 a2 b1 b2 c1 c2 d1 d2 e1 e2 f1 f2
  have w1 : IntKind.wrap IntKind.i64 ((0 : Int) + (1 : Int)) = 1 := by decide
  have w2 : IntKind.wrap IntKind.i64 ((1 : Int) + (1 : Int)) = 2 := by decide
  have w3 : IntKind.wrap IntKind.i64 ((2 : Int) + (1 : Int)) = 3 := by decide
  have w4 : IntKind.wrap IntKind.i64 ((3 : Int) + (1 : Int)) = 4 := by decide
  have w5 : IntKind.wrap IntKind.i64 ((4 : Int) + (1 : Int)) = 5 := by decide
  rw [w1, w2, w3, w4, w5]
  have g0 : List.getD [iu, is, l, t, ty, c] (Int.toNat (0 : Int)) (0 : Int) = iu := rfl
  have g1 : List.getD [iu, is, l, t, ty, c] (Int.toNat (1 : Int)) (0 : Int) = is := rfl
  have g2 : List.getD [iu, is, l, t, ty, c] (Int.toNat (2 : Int)) (0 : Int) = l := rfl
  have g3 : List.getD [iu, is, l, t, ty, c] (Int.toNat (3 : Int)) (0 : Int) = t := rfl
  have g4 : List.getD [iu, is, l, t, ty, c] (Int.toNat (4 : Int)) (0 : Int) = ty := rfl
  have g5 : List.getD [iu, is, l, t, ty, c] (Int.toNat (5 : Int)) (0 : Int) = c := rfl
  have t4 : Int.toNat (4 : Int) = 4 := rfl
  rw [g0, g1, g2, g3, g4, g5, wrapU (n := iu) (by omega) (by omega), wrapU (n := is) (by omega) (by omega), wrapU (n := l) (by omega) (by omega), wrapU (n := t) (by omega) (by omega), wrapU (n := ty) (by omega) (by omega), wrapU (n := c) (by omega) (by omega), t4]
  have hl : ((List.length [iu, is, l, t, ty, c] : Nat) : Int) = 6 := rfl
  rw [hl]
  have hm : ∀ x : Int, (List.map u8 [84, 90, 105, 102, x, 0, 0, 0, 0, 0, 0, 0, 0, 0, 0, 0, 0, 0, 0, 0]).length = 20 := fun x => rfl
  have hK' : K [.new (.bytes (List.map u8 [84, 90, 105, 102, if v = 1 then 0 else 48 + v, 0, 0, 0, 0, 0, 0, 0, 0, 0, 0, 0, 0, 0, 0, 0] ++ be 4 iu.toNat ++ be 4 is.toNat ++ be 4 l.toNat ++ be 4 t.toNat ++ be 4 ty.toNat ++ be 4 c.toNat))] := hK
  clear hK
  generalize hx : (if v = 1 then (0 : Int) else 48 + v) = x at hK' ⊢
  generalize hy : List.map u8 [84, 90, 105, 102, x, 0, 0, 0, 0, 0, 0, 0, 0, 0, 0, 0, 0, 0, 0, 0] = y at hK' ⊢
  have hm' : y.length = 20 := by rw [← hy]; exact hm x
  repeat' (first | assumption | apply And.intro | omega | (simp only [List.length_append, hm', be_len]; omega))
theorem ok16h : ∀ args pres res, sHdE args = some (pres, res) → SpecOK Tryz.prog G16 16 args pres res := by
  intro args pres res h
  unfold sHdE at h
  split at h
  case h_2 => cases h
  cases h
  exact spec_ok (C := L5) okF7 noCall_ok Tryz.func16 (by kernel_rfl) (by kernel_rfl) (fun hp => g16_ev _ _ _ _ _ _ _ (hp _ (by simp)) (hp _ (by simp)) (hp _ (by simp)) _ rfl)
end
def F8 := addE F7 16 sHdE
theorem okF8 : EOK Tryz.prog F8 G16 := addE_ok okF7 ok16h
end Y27
namespace Y27
open Go Go.AE Go.Proofs E6
noncomputable def IH : FuncId → Option Func := fun f => bif Nat.beq f 76 then some Tryz.f76 else none
noncomputable def L4 : Cx := ⟨Tryz.prog, F7, inl IH Tryz.prog F7 G16 999 3, G16, 999⟩
theorem IH_ok : ∀ f fn, IH f = some fn → Tryz.prog.funcs[f]? = some fn ∧ (fn.name == "runtime.NumGoroutine") = false := by
  intro f fn h
  unfold IH at h
  cases h1 : Nat.beq f 76 with
  | true => rw [h1, cond_true] at h; cases h; obtain rfl := nbeq h1; exact ⟨Tryz.func76, by kernel_rfl⟩
  | false => rw [h1, cond_false] at h; cases h
end Y27
set_option maxRecDepth 100000
namespace Y27
open Go Go.AE Go.Proofs E6
attribute [local irreducible] loopK evCode evSpec loopB norm
theorem g49_in (d : List UInt8) (p : Int) (e : Int) (a : Int) (K : List AV → Prop) : evSpec L4 Tryz.f49 [curAV d p e a] K = (let Q1 : Cu := (expU (Cu.mk d p e a) (List.map u8 [(84 : Int), (90 : Int), (105 : Int), (102 : Int)]) (3 : Int)); let Q2 : Int × Cu := (verU (Cu.mk (Cu.d Q1) (Cu.p Q1) (Cu.e Q1) (Cu.a Q1))); let Q3 : Cu := (expU (Cu.mk (Cu.d (Prod.snd Q2)) (Cu.p (Prod.snd Q2)) (Cu.e (Prod.snd Q2)) (Cu.a (Prod.snd Q2))) (List.replicate (15 : Int).toNat (0 : UInt8)) (5 : Int)); let Q4 : Cu := (advU (Cu.mk (Cu.d Q3) (Cu.p Q3) (Cu.e Q3) (Cu.a Q3)) (4 : Int)); let Q5 : Cu := (advU (Cu.mk (Cu.d Q4) (Cu.p Q4) (Cu.e Q4) (Cu.a Q4)) (4 : Int)); let Q6 : Cu := (advU (Cu.mk (Cu.d Q5) (Cu.p Q5) (Cu.e Q5) (Cu.a Q5)) (4 : Int)); let Q7 : Cu := (advU (Cu.mk (Cu.d Q6) (Cu.p Q6) (Cu.e Q6) (Cu.a Q6)) (4 : Int)); let Q8 : Cu := (advU (Cu.mk (Cu.d Q7) (Cu.p Q7) (Cu.e Q7) (Cu.a Q7)) (4 : Int)); let Q9 : Cu := (advU (Cu.mk (Cu.d Q8) (Cu.p Q8) (Cu.e Q8) (Cu.a Q8)) (4 : Int)); let R1 : Prop := (brn (Cu.e (failU (Cu.mk (Cu.d Q9) (Cu.p Q9) (Cu.e Q9) (Cu.a Q9)) (6 : Int) p) != 0) ((K [.agg [i64 0, u32 (0 : Int), u32 (0 : Int), u32 (0 : Int), u32 (0 : Int), u32 (0 : Int), u32 (0 : Int)], .agg [by' (Cu.d
 (failU (Cu.mk (Cu.d Q9) (Cu.p Q9) (Cu.e Q9) (Cu.a Q9)) (6 : Int) p)), i64 (Cu.p (failU (Cu.mk (Cu.d Q9) (Cu.p Q9) (Cu.e Q9) (Cu.a Q9)) (6 : Int) p)), i64 (Cu.e (failU (Cu.mk (Cu.d Q9) (Cu.p Q9) (Cu.e Q9) (Cu.a Q9)) (6 : Int) p)), i64 (Cu.a (failU (Cu.mk (Cu.d Q9) (Cu.p Q9) (Cu.e Q9) (Cu.a Q9)) (6 : Int) p))]] ∧ K [.agg [i64 0, u32 (0 : Int), u32 (0 : Int), u32 (0 : Int), u32 (0 : Int), u32 (0 : Int), u32 (0 : Int)], .agg [by' (Cu.d (failU (Cu.mk (Cu.d Q9) (Cu.p Q9) (Cu.e Q9) (Cu.a Q9)) (6 : Int) p)), i64 (Cu.p (failU (Cu.mk (Cu.d Q9) (Cu.p Q9) (Cu.e Q9) (Cu.a Q9)) (6 : Int) p)), i64 (Cu.e (failU (Cu.mk (Cu.d Q9) (Cu.p Q9) (Cu.e Q9) (Cu.a Q9)) (6 : Int) p)), i64 (Cu.a (failU (Cu.mk (Cu.d Q9) (Cu.p Q9) (Cu.e Q9) (Cu.a Q9)) (6 : Int) p))]]) ∧ K [.agg [i64 0, u32 (0 : Int), u32 (0 : Int), u32 (0 : Int), u32 (0 : Int), u32 (0 : Int), u32 (0 : Int)], .agg [by' (Cu.d (failU (Cu.mk (Cu.d Q9) (Cu.p Q9) (Cu.e Q9) (Cu.a Q9)) (6 : Int) p)), i64 (Cu.p (failU (Cu.mk (Cu.d Q9) (Cu.p Q9) (Cu.e Q9) (Cu.a Q9)) (6 : Int) p)), i64 (Cu.e (failU (Cu.mk (Cu.d Q9) (Cu.p Q9) (Cu.e Q9) (Cu.a Q9)) (6 : Int) p)), i64 (Cu.a (failU (Cu.mk (Cu.d Q9) (Cu.p Q9) (Cu.e Q9) (Cu.a Q9)) (6 : Int) p))]]) (K [.agg [i64
 (Prod.fst Q2), u32 (IntKind.wrap IntKind.u32 (↑(uintP (takeU (Cu.mk (Cu.d Q3) (Cu.p Q3) (Cu.e Q3) (Cu.a Q3)) (4 : Int)) (0 : Nat) (4 : Int).toNat) : Int)), u32 (IntKind.wrap IntKind.u32 (↑(uintP (takeU (Cu.mk (Cu.d Q4) (Cu.p Q4) (Cu.e Q4) (Cu.a Q4)) (4 : Int)) (0 : Nat) (4 : Int).toNat) : Int)), u32 (IntKind.wrap IntKind.u32 (↑(uintP (takeU (Cu.mk (Cu.d Q5) (Cu.p Q5) (Cu.e Q5) (Cu.a Q5)) (4 : Int)) (0 : Nat) (4 : Int).toNat) : Int)), u32 (IntKind.wrap IntKind.u32 (↑(uintP (takeU (Cu.mk (Cu.d Q6) (Cu.p Q6) (Cu.e Q6) (Cu.a Q6)) (4 : Int)) (0 : Nat) (4 : Int).toNat) : Int)), u32 (IntKind.wrap IntKind.u32 (↑(uintP (takeU (Cu.mk (Cu.d Q7) (Cu.p Q7) (Cu.e Q7) (Cu.a Q7)) (4 : Int)) (0 : Nat) (4 : Int).toNat) : Int)), u32 (IntKind.wrap IntKind.u32 (↑(uintP (takeU (Cu.mk (Cu.d Q8) (Cu.p Q8) (Cu.e Q8) (Cu.a Q8)) (4 : Int)) (0 : Nat) (4 : Int).toNat) : Int))], .agg [by' (Cu.d (failU (Cu.mk (Cu.d Q9) (Cu.p Q9) (Cu.e Q9) (Cu.a Q9)) (6 : Int) p)), i64 (Cu.p (failU (Cu.mk (Cu.d Q9) (Cu.p Q9) (Cu.e Q9) (Cu.a Q9)) (6 : Int) p)), i64 (Cu.e (failU (Cu.mk (Cu.d Q9) (Cu.p Q9) (Cu.e Q9) (Cu.a Q9)) (6 : Int) p)), i64 (Cu.a (failU (Cu.mk (Cu.d Q9) (Cu.p Q9) (Cu.e Q9) (Cu.a Q9)) (6 : Int) p))]] ∧ K [.agg
 [i64 (Prod.fst Q2), u32 (IntKind.wrap IntKind.u32 (↑(uintP (takeU (Cu.mk (Cu.d Q3) (Cu.p Q3) (Cu.e Q3) (Cu.a Q3)) (4 : Int)) (0 : Nat) (4 : Int).toNat) : Int)), u32 (IntKind.wrap IntKind.u32 (↑(uintP (takeU (Cu.mk (Cu.d Q4) (Cu.p Q4) (Cu.e Q4) (Cu.a Q4)) (4 : Int)) (0 : Nat) (4 : Int).toNat) : Int)), u32 (IntKind.wrap IntKind.u32 (↑(uintP (takeU (Cu.mk (Cu.d Q5) (Cu.p Q5) (Cu.e Q5) (Cu.a Q5)) (4 : Int)) (0 : Nat) (4 : Int).toNat) : Int)), u32 (IntKind.wrap IntKind.u32 (↑(uintP (takeU (Cu.mk (Cu.d Q6) (Cu.p Q6) (Cu.e Q6) (Cu.a Q6)) (4 : Int)) (0 : Nat) (4 : Int).toNat) : Int)), u32 (IntKind.wrap IntKind.u32 (↑(uintP (takeU (Cu.mk (Cu.d Q7) (Cu.p Q7) (Cu.e Q7) (Cu.a Q7)) (4 : Int)) (0 : Nat) (4 : Int).toNat) : Int)), u32 (IntKind.wrap IntKind.u32 (↑(uintP (takeU (Cu.mk (Cu.d Q8) (Cu.p Q8) (Cu.e Q8) (Cu.a Q8)) (4 : Int)) (0 : Nat) (4 : Int).toNat) : Int))], .agg [by' (Cu.d (failU (Cu.mk (Cu.d Q9) (Cu.p Q9) (Cu.e Q9) (Cu.a Q9)) (6 : Int) p)), i64 (Cu.p (failU (Cu.mk (Cu.d Q9) (Cu.p Q9) (Cu.e Q9) (Cu.a Q9)) (6 : Int) p)), i64 (Cu.e (failU (Cu.mk (Cu.d Q9) (Cu.p Q9) (Cu.e Q9) (Cu.a Q9)) (6 : Int) p)), i64 (Cu.a (failU (Cu.mk (Cu.d Q9) (Cu.p Q9) (Cu.e Q9) (Cu.a Q9)) (6 : Int) p))]])); let
 R2 : Prop := (brn (Cu.e Q9 != 0) ((K [.agg [i64 0, u32 (0 : Int), u32 (0 : Int), u32 (0 : Int), u32 (0 : Int), u32 (0 : Int), u32 (0 : Int)], .agg [by' (Cu.d Q9), i64 (Cu.p Q9), i64 (Cu.e Q9), i64 (Cu.a Q9)]] ∧ K [.agg [i64 0, u32 (0 : Int), u32 (0 : Int), u32 (0 : Int), u32 (0 : Int), u32 (0 : Int), u32 (0 : Int)], .agg [by' (Cu.d Q9), i64 (Cu.p Q9), i64 (Cu.e Q9), i64 (Cu.a Q9)]]) ∧ K [.agg [i64 0, u32 (0 : Int), u32 (0 : Int), u32 (0 : Int), u32 (0 : Int), u32 (0 : Int), u32 (0 : Int)], .agg [by' (Cu.d Q9), i64 (Cu.p Q9), i64 (Cu.e Q9), i64 (Cu.a Q9)]]) (K [.agg [i64 (Prod.fst Q2), u32 (IntKind.wrap IntKind.u32 (↑(uintP (takeU (Cu.mk (Cu.d Q3) (Cu.p Q3) (Cu.e Q3) (Cu.a Q3)) (4 : Int)) (0 : Nat) (4 : Int).toNat) : Int)), u32 (IntKind.wrap IntKind.u32 (↑(uintP (takeU (Cu.mk (Cu.d Q4) (Cu.p Q4) (Cu.e Q4) (Cu.a Q4)) (4 : Int)) (0 : Nat) (4 : Int).toNat) : Int)), u32 (IntKind.wrap IntKind.u32 (↑(uintP (takeU (Cu.mk (Cu.d Q5) (Cu.p Q5) (Cu.e Q5) (Cu.a Q5)) (4 : Int)) (0 : Nat) (4 : Int).toNat) : Int)), u32 (IntKind.wrap IntKind.u32 (↑(uintP (takeU (Cu.mk (Cu.d Q6) (Cu.p Q6) (Cu.e Q6) (Cu.a Q6)) (4 : Int)) (0 : Nat) (4 : Int).toNat) : Int)), u32 (IntKind.wrap IntKind.u32 (↑(uintP (takeU
 (Cu.mk (Cu.d Q7) (Cu.p Q7) (Cu.e Q7) (Cu.a Q7)) (4 : Int)) (0 : Nat) (4 : Int).toNat) : Int)), u32 (IntKind.wrap IntKind.u32 (↑(uintP (takeU (Cu.mk (Cu.d Q8) (Cu.p Q8) (Cu.e Q8) (Cu.a Q8)) (4 : Int)) (0 : Nat) (4 : Int).toNat) : Int))], .agg [by' (Cu.d Q9), i64 (Cu.p Q9), i64 (Cu.e Q9), i64 (Cu.a Q9)]] ∧ K [.agg [i64 (Prod.fst Q2), u32 (IntKind.wrap IntKind.u32 (↑(uintP (takeU (Cu.mk (Cu.d Q3) (Cu.p Q3) (Cu.e Q3) (Cu.a Q3)) (4 : Int)) (0 : Nat) (4 : Int).toNat) : Int)), u32 (IntKind.wrap IntKind.u32 (↑(uintP (takeU (Cu.mk (Cu.d Q4) (Cu.p Q4) (Cu.e Q4) (Cu.a Q4)) (4 : Int)) (0 : Nat) (4 : Int).toNat) : Int)), u32 (IntKind.wrap IntKind.u32 (↑(uintP (takeU (Cu.mk (Cu.d Q5) (Cu.p Q5) (Cu.e Q5) (Cu.a Q5)) (4 : Int)) (0 : Nat) (4 : Int).toNat) : Int)), u32 (IntKind.wrap IntKind.u32 (↑(uintP (takeU (Cu.mk (Cu.d Q6) (Cu.p Q6) (Cu.e Q6) (Cu.a Q6)) (4 : Int)) (0 : Nat) (4 : Int).toNat) : Int)), u32 (IntKind.wrap IntKind.u32 (↑(uintP (takeU (Cu.mk (Cu.d Q7) (Cu.p Q7) (Cu.e Q7) (Cu.a Q7)) (4 : Int)) (0 : Nat) (4 : Int).toNat) : Int)), u32 (IntKind.wrap IntKind.u32 (↑(uintP (takeU (Cu.mk (Cu.d Q8) (Cu.p Q8) (Cu.e Q8) (Cu.a Q8)) (4 : Int)) (0 : Nat) (4 : Int).toNat) : Int))], .agg [by' (Cu.d Q9),
 i64 (Cu.p Q9), i64 (Cu.e Q9), i64 (Cu.a Q9)]])); ((0 : Int) ≤ Cu.p (Cu.mk d p e a) ∧ Cu.p (Cu.mk d p e a) ≤ (↑(Cu.d (Cu.mk d p e a)).length : Int) ∧ (↑(Cu.d (Cu.mk d p e a)).length : Int) ≤ 1000000000000) ∧ (↑(List.map u8 [(84 : Int), (90 : Int), (105 : Int), (102 : Int)]).length : Int) ≤ 1000 ∧ ((0 : Int) ≤ Cu.p (Cu.mk (Cu.d Q1) (Cu.p Q1) (Cu.e Q1) (Cu.a Q1)) ∧ Cu.p (Cu.mk (Cu.d Q1) (Cu.p Q1) (Cu.e Q1) (Cu.a Q1)) ≤ (↑(Cu.d (Cu.mk (Cu.d Q1) (Cu.p Q1) (Cu.e Q1) (Cu.a Q1))).length : Int) ∧ (↑(Cu.d (Cu.mk (Cu.d Q1) (Cu.p Q1) (Cu.e Q1) (Cu.a Q1))).length : Int) ≤ 1000000000000) ∧ ((0 : Int) ≤ 15 ∧ (15 : Int) ≤ 15 ∧ (↑(1 : Nat) : Int) * 15 ≤ 140737488355328 ∧ (15 : Int) ≤ 140737488355328 ∧ ((0 : Int) ≤ Cu.p (Cu.mk (Cu.d (Prod.snd Q2)) (Cu.p (Prod.snd Q2)) (Cu.e (Prod.snd Q2)) (Cu.a (Prod.snd Q2))) ∧ Cu.p (Cu.mk (Cu.d (Prod.snd Q2)) (Cu.p (Prod.snd Q2)) (Cu.e (Prod.snd Q2)) (Cu.a (Prod.snd Q2))) ≤ (↑(Cu.d (Cu.mk (Cu.d (Prod.snd Q2)) (Cu.p (Prod.snd Q2)) (Cu.e (Prod.snd Q2)) (Cu.a (Prod.snd Q2)))).length : Int) ∧ (↑(Cu.d (Cu.mk (Cu.d (Prod.snd Q2)) (Cu.p (Prod.snd Q2)) (Cu.e (Prod.snd Q2)) (Cu.a (Prod.snd Q2)))).length : Int) ≤ 1000000000000) ∧ (↑(List.replicate (15 : Int).toNat (0 :
 UInt8)).length : Int) ≤ 1000 ∧ ((0 : Int) ≤ Cu.p (Cu.mk (Cu.d Q3) (Cu.p Q3) (Cu.e Q3) (Cu.a Q3)) ∧ Cu.p (Cu.mk (Cu.d Q3) (Cu.p Q3) (Cu.e Q3) (Cu.a Q3)) ≤ (↑(Cu.d (Cu.mk (Cu.d Q3) (Cu.p Q3) (Cu.e Q3) (Cu.a Q3))).length : Int) ∧ (↑(Cu.d (Cu.mk (Cu.d Q3) (Cu.p Q3) (Cu.e Q3) (Cu.a Q3))).length : Int) ≤ 1000000000000) ∧ (1 : Int) ≤ 4 ∧ (4 : Int) ≤ 8 ∧ ((0 : Int) ≤ Cu.p (Cu.mk (Cu.d Q4) (Cu.p Q4) (Cu.e Q4) (Cu.a Q4)) ∧ Cu.p (Cu.mk (Cu.d Q4) (Cu.p Q4) (Cu.e Q4) (Cu.a Q4)) ≤ (↑(Cu.d (Cu.mk (Cu.d Q4) (Cu.p Q4) (Cu.e Q4) (Cu.a Q4))).length : Int) ∧ (↑(Cu.d (Cu.mk (Cu.d Q4) (Cu.p Q4) (Cu.e Q4) (Cu.a Q4))).length : Int) ≤ 1000000000000) ∧ (1 : Int) ≤ 4 ∧ (4 : Int) ≤ 8 ∧ ((0 : Int) ≤ Cu.p (Cu.mk (Cu.d Q5) (Cu.p Q5) (Cu.e Q5) (Cu.a Q5)) ∧ Cu.p (Cu.mk (Cu.d Q5) (Cu.p Q5) (Cu.e Q5) (Cu.a Q5)) ≤ (↑(Cu.d (Cu.mk (Cu.d Q5) (Cu.p Q5) (Cu.e Q5) (Cu.a Q5))).length : Int) ∧ (↑(Cu.d (Cu.mk (Cu.d Q5) (Cu.p Q5) (Cu.e Q5) (Cu.a Q5))).length : Int) ≤ 1000000000000) ∧ (1 : Int) ≤ 4 ∧ (4 : Int) ≤ 8 ∧ ((0 : Int) ≤ Cu.p (Cu.mk (Cu.d Q6) (Cu.p Q6) (Cu.e Q6) (Cu.a Q6)) ∧ Cu.p (Cu.mk (Cu.d Q6) (Cu.p Q6) (Cu.e Q6) (Cu.a Q6)) ≤ (↑(Cu.d (Cu.mk (Cu.d Q6) (Cu.p Q6) (Cu.e Q6) (Cu.a Q6))).length : Int) ∧ (↑(Cu.d (Cu.mk (Cu.d
 Q6) (Cu.p Q6) (Cu.e Q6) (Cu.a Q6))).length : Int) ≤ 1000000000000) ∧ (1 : Int) ≤ 4 ∧ (4 : Int) ≤ 8 ∧ ((0 : Int) ≤ Cu.p (Cu.mk (Cu.d Q7) (Cu.p Q7) (Cu.e Q7) (Cu.a Q7)) ∧ Cu.p (Cu.mk (Cu.d Q7) (Cu.p Q7) (Cu.e Q7) (Cu.a Q7)) ≤ (↑(Cu.d (Cu.mk (Cu.d Q7) (Cu.p Q7) (Cu.e Q7) (Cu.a Q7))).length : Int) ∧ (↑(Cu.d (Cu.mk (Cu.d Q7) (Cu.p Q7) (Cu.e Q7) (Cu.a Q7))).length : Int) ≤ 1000000000000) ∧ (1 : Int) ≤ 4 ∧ (4 : Int) ≤ 8 ∧ ((0 : Int) ≤ Cu.p (Cu.mk (Cu.d Q8) (Cu.p Q8) (Cu.e Q8) (Cu.a Q8)) ∧ Cu.p (Cu.mk (Cu.d Q8) (Cu.p Q8) (Cu.e Q8) (Cu.a Q8)) ≤ (↑(Cu.d (Cu.mk (Cu.d Q8) (Cu.p Q8) (Cu.e Q8) (Cu.a Q8))).length : Int) ∧ (↑(Cu.d (Cu.mk (Cu.d Q8) (Cu.p Q8) (Cu.e Q8) (Cu.a Q8))).length : Int) ≤ 1000000000000) ∧ (1 : Int) ≤ 4 ∧ (4 : Int) ≤ 8 ∧ brn (Cu.e Q9 == 0 && !consH (Hd.mk (Prod.fst Q2) (IntKind.wrap IntKind.u32 (↑(uintP (takeU (Cu.mk (Cu.d Q3) (Cu.p Q3) (Cu.e Q3) (Cu.a Q3)) (4 : Int)) (0 : Nat) (4 : Int).toNat) : Int)) (IntKind.wrap IntKind.u32 (↑(uintP (takeU (Cu.mk (Cu.d Q4) (Cu.p Q4) (Cu.e Q4) (Cu.a Q4)) (4 : Int)) (0 : Nat) (4 : Int).toNat) : Int)) (IntKind.wrap IntKind.u32 (↑(uintP (takeU (Cu.mk (Cu.d Q5) (Cu.p Q5) (Cu.e Q5) (Cu.a Q5)) (4 : Int)) (0 : Nat) (4 : Int).toNat) : Int))
 (IntKind.wrap IntKind.u32 (↑(uintP (takeU (Cu.mk (Cu.d Q6) (Cu.p Q6) (Cu.e Q6) (Cu.a Q6)) (4 : Int)) (0 : Nat) (4 : Int).toNat) : Int)) (IntKind.wrap IntKind.u32 (↑(uintP (takeU (Cu.mk (Cu.d Q7) (Cu.p Q7) (Cu.e Q7) (Cu.a Q7)) (4 : Int)) (0 : Nat) (4 : Int).toNat) : Int)) (IntKind.wrap IntKind.u32 (↑(uintP (takeU (Cu.mk (Cu.d Q8) (Cu.p Q8) (Cu.e Q8) (Cu.a Q8)) (4 : Int)) (0 : Nat) (4 : Int).toNat) : Int)))) R1 R2) ∧ (0 : Int) ≤ 15 ∧ (15 : Int) ≤ 15 ∧ (↑(1 : Nat) : Int) * 15 ≤ 140737488355328 ∧ (15 : Int) ≤ 140737488355328 ∧ ((0 : Int) ≤ Cu.p (Cu.mk (Cu.d (Prod.snd Q2)) (Cu.p (Prod.snd Q2)) (Cu.e (Prod.snd Q2)) (Cu.a (Prod.snd Q2))) ∧ Cu.p (Cu.mk (Cu.d (Prod.snd Q2)) (Cu.p (Prod.snd Q2)) (Cu.e (Prod.snd Q2)) (Cu.a (Prod.snd Q2))) ≤ (↑(Cu.d (Cu.mk (Cu.d (Prod.snd Q2)) (Cu.p (Prod.snd Q2)) (Cu.e (Prod.snd Q2)) (Cu.a (Prod.snd Q2)))).length : Int) ∧ (↑(Cu.d (Cu.mk (Cu.d (Prod.snd Q2)) (Cu.p (Prod.snd Q2)) (Cu.e (Prod.snd Q2)) (Cu.a (Prod.snd Q2)))).length : Int) ≤ 1000000000000) ∧ (↑(List.replicate (15 : Int).toNat (0 : UInt8)).length : Int) ≤ 1000 ∧ ((0 : Int) ≤ Cu.p (Cu.mk (Cu.d Q3) (Cu.p Q3) (Cu.e Q3) (Cu.a Q3)) ∧ Cu.p (Cu.mk (Cu.d Q3) (Cu.p Q3) (Cu.e Q3) (Cu.a Q3)) ≤ (↑(Cu.d (Cu.mk
 (Cu.d Q3) (Cu.p Q3) (Cu.e Q3) (Cu.a Q3))).length : Int) ∧ (↑(Cu.d (Cu.mk (Cu.d Q3) (Cu.p Q3) (Cu.e Q3) (Cu.a Q3))).length : Int) ≤ 1000000000000) ∧ (1 : Int) ≤ 4 ∧ (4 : Int) ≤ 8 ∧ ((0 : Int) ≤ Cu.p (Cu.mk (Cu.d Q4) (Cu.p Q4) (Cu.e Q4) (Cu.a Q4)) ∧ Cu.p (Cu.mk (Cu.d Q4) (Cu.p Q4) (Cu.e Q4) (Cu.a Q4)) ≤ (↑(Cu.d (Cu.mk (Cu.d Q4) (Cu.p Q4) (Cu.e Q4) (Cu.a Q4))).length : Int) ∧ (↑(Cu.d (Cu.mk (Cu.d Q4) (Cu.p Q4) (Cu.e Q4) (Cu.a Q4))).length : Int) ≤ 1000000000000) ∧ (1 : Int) ≤ 4 ∧ (4 : Int) ≤ 8 ∧ ((0 : Int) ≤ Cu.p (Cu.mk (Cu.d Q5) (Cu.p Q5) (Cu.e Q5) (Cu.a Q5)) ∧ Cu.p (Cu.mk (Cu.d Q5) (Cu.p Q5) (Cu.e Q5) (Cu.a Q5)) ≤ (↑(Cu.d (Cu.mk (Cu.d Q5) (Cu.p Q5) (Cu.e Q5) (Cu.a Q5))).length : Int) ∧ (↑(Cu.d (Cu.mk (Cu.d Q5) (Cu.p Q5) (Cu.e Q5) (Cu.a Q5))).length : Int) ≤ 1000000000000) ∧ (1 : Int) ≤ 4 ∧ (4 : Int) ≤ 8 ∧ ((0 : Int) ≤ Cu.p (Cu.mk (Cu.d Q6) (Cu.p Q6) (Cu.e Q6) (Cu.a Q6)) ∧ Cu.p (Cu.mk (Cu.d Q6) (Cu.p Q6) (Cu.e Q6) (Cu.a Q6)) ≤ (↑(Cu.d (Cu.mk (Cu.d Q6) (Cu.p Q6) (Cu.e Q6) (Cu.a Q6))).length : Int) ∧ (↑(Cu.d (Cu.mk (Cu.d Q6) (Cu.p Q6) (Cu.e Q6) (Cu.a Q6))).length : Int) ≤ 1000000000000) ∧ (1 : Int) ≤ 4 ∧ (4 : Int) ≤ 8 ∧ ((0 : Int) ≤ Cu.p (Cu.mk (Cu.d Q7) (Cu.p Q7) (Cu.e Q7) (Cu.a Q7)) ∧
 Cu.p (Cu.mk (Cu.d Q7) (Cu.p Q7) (Cu.e Q7) (Cu.a Q7)) ≤ (↑(Cu.d (Cu.mk (Cu.d Q7) (Cu.p Q7) (Cu.e Q7) (Cu.a Q7))).length : Int) ∧ (↑(Cu.d (Cu.mk (Cu.d Q7) (Cu.p Q7) (Cu.e Q7) (Cu.a Q7))).length : Int) ≤ 1000000000000) ∧ (1 : Int) ≤ 4 ∧ (4 : Int) ≤ 8 ∧ ((0 : Int) ≤ Cu.p (Cu.mk (Cu.d Q8) (Cu.p Q8) (Cu.e Q8) (Cu.a Q8)) ∧ Cu.p (Cu.mk (Cu.d Q8) (Cu.p Q8) (Cu.e Q8) (Cu.a Q8)) ≤ (↑(Cu.d (Cu.mk (Cu.d Q8) (Cu.p Q8) (Cu.e Q8) (Cu.a Q8))).length : Int) ∧ (↑(Cu.d (Cu.mk (Cu.d Q8) (Cu.p Q8) (Cu.e Q8) (Cu.a Q8))).length : Int) ≤ 1000000000000) ∧ (1 : Int) ≤ 4 ∧ (4 : Int) ≤ 8 ∧ brn (Cu.e Q9 == 0 && !consH (Hd.mk (Prod.fst Q2) (IntKind.wrap IntKind.u32 (↑(uintP (takeU (Cu.mk (Cu.d Q3) (Cu.p Q3) (Cu.e Q3) (Cu.a Q3)) (4 : Int)) (0 : Nat) (4 : Int).toNat) : Int)) (IntKind.wrap IntKind.u32 (↑(uintP (takeU (Cu.mk (Cu.d Q4) (Cu.p Q4) (Cu.e Q4) (Cu.a Q4)) (4 : Int)) (0 : Nat) (4 : Int).toNat) : Int)) (IntKind.wrap IntKind.u32 (↑(uintP (takeU (Cu.mk (Cu.d Q5) (Cu.p Q5) (Cu.e Q5) (Cu.a Q5)) (4 : Int)) (0 : Nat) (4 : Int).toNat) : Int)) (IntKind.wrap IntKind.u32 (↑(uintP (takeU (Cu.mk (Cu.d Q6) (Cu.p Q6) (Cu.e Q6) (Cu.a Q6)) (4 : Int)) (0 : Nat) (4 : Int).toNat) : Int)) (IntKind.wrap IntKind.u32 (↑(uintP
 (takeU (Cu.mk (Cu.d Q7) (Cu.p Q7) (Cu.e Q7) (Cu.a Q7)) (4 : Int)) (0 : Nat) (4 : Int).toNat) : Int)) (IntKind.wrap IntKind.u32 (↑(uintP (takeU (Cu.mk (Cu.d Q8) (Cu.p Q8) (Cu.e Q8) (Cu.a Q8)) (4 : Int)) (0 : Nat) (4 : Int).toNat) : Int)))) R1 R2) := by kernel_rfl
end Y27
set_option maxRecDepth 100000
namespace Y27
open Go Go.AE Go.Proofs E6
attribute [local irreducible] loopK evCode evSpec loopB norm
def magC : List UInt8 := [84, 90, 105, 102]
def z15 : List UInt8 := List.replicate 15 0
def num4 (c : Cu) : Int := IntKind.wrap .u32 (uintP (takeU c 4) 0 4 : Int)
def hq1 (c : Cu) : Cu := expU c magC 3
def hq2 (c : Cu) : Int × Cu := verU (hq1 c)
def hq3 (c : Cu) : Cu := expU (hq2 c).2 z15 5
def hq4 (c : Cu) : Cu := advU (hq3 c) 4
def hq5 (c : Cu) : Cu := advU (hq4 c) 4
def hq6 (c : Cu) : Cu := advU (hq5 c) 4
def hq7 (c : Cu) : Cu := advU (hq6 c) 4
def hq8 (c : Cu) : Cu := advU (hq7 c) 4
def hq9 (c : Cu) : Cu := advU (hq8 c) 4
def hdRd (c : Cu) : Hd := ⟨(hq2 c).1, num4 (hq3 c), num4 (hq4 c), num4 (hq5 c), num4 (hq6 c), num4 (hq7 c), num4 (hq8 c)⟩
def zH : Hd := ⟨0, 0, 0, 0, 0, 0, 0⟩
def hdU (c : Cu) : Hd × Cu := if (hq9 c).e = 0 then (if consH (hdRd c) then (hdRd c, hq9 c) else (zH, failU (hq9 c) 6 c.p)) else (zH, hq9 c)
def sHdD : List AV → Option (List Prop × List AV)
  | [.agg [.imm (.bytes d), .imm (.int .i64 p), .imm (.int .i64 e), .imm (.int .i64 a)]] => some ([okU ⟨d, p, e, a⟩], [(hdU ⟨d, p, e, a⟩).1.av, (hdU ⟨d, p, e, a⟩).2.av])
  | _ => none
theorem okU_fail {c : Cu} {y a : Int} (h : okU c) : okU (failU c y a) := by
  unfold failU
  split
  · exact h
  · exact h
theorem okU_adv {c : Cu} {n : Int} (h : okU c) : okU (advU c n) := by
  obtain ⟨h1, h2, h3⟩ := h
  unfold advU
  split
  · rename_i he
    split
    · rename_i hn
      unfold restU at hn
      rw [if_pos he] at hn
      exact ⟨by show 0 ≤ c.p + n; omega, by show c.p + n ≤ (c.d.length : Int); omega, h3⟩
    · exact ⟨h1, h2, h3⟩
  · exact ⟨h1, h2, h3⟩
theorem okU_exp {c : Cu} {w : List UInt8} {y : Int} (h : okU c) : okU (expU c w y) := by
  unfold expU
  split
  · split
    · exact okU_adv h
    · exact okU_fail h
  · exact okU_adv h
theorem okU_ver {c : Cu} (h : okU c) : okU (verU c).2 := by
  unfold verU
  split
  · exact okU_adv h
  · split
    · exact okU_fail h
    · exact okU_adv h
theorem fail_e6 {c : Cu} {p : Int} (he : c.e = 0) : Cu.e (failU c 6 p) = 6 := by
  unfold failU
  rw [if_pos ⟨he, by decide⟩]
attribute [local irreducible] expU verU advU uintP takeU failU consH okU
set_option maxHeartbeats 2000000 in
theorem g49_ev (d : List UInt8) (p e a : Int) (hu : okU ⟨d, p, e, a⟩) (K : List AV → Prop) (hK : K [(hdU ⟨d, p, e, a⟩).1.av, (hdU ⟨d, p, e, a⟩).2.av]) : evSpec L4 Tryz.f49 [curAV d p e a] K := by
  refine Eq.mpr (g49_in d p e a K) ?_
  intro Q1 Q2 Q3 Q4 Q5 Q6 Q7 Q8 Q9 R1 R2
  have h1 : Q1 = hq1 ⟨d, p, e, a⟩ := rfl
  have h2 : Q2 = hq2 ⟨d, p, e, a⟩ := congrArg verU h1
  have h3 : Q3 = hq3 ⟨d, p, e, a⟩ := congrArg (fun x : Int × Cu => expU x.2 z15 5) h2
  have h4 : Q4 = hq4 ⟨d, p, e, a⟩ := congrArg (fun x => advU x 4) h3
  have h5 : Q5 = hq5 ⟨d, p, e, a⟩ := congrArg (fun x => advU x 4) h4
  have h6 : Q6 = hq6 ⟨d, p, e, a⟩ := congrArg (fun x => advU x 4) h5
  have h7 : Q7 = hq7 ⟨d, p, e, a⟩ := congrArg (fun x => advU x 4) h6
  have h8 : Q8 = hq8 ⟨d, p, e, a⟩ := congrArg (fun x => advU x 4) h7
  have h9 : Q9 = hq9 ⟨d, p, e, a⟩ := congrArg (fun x => advU x 4) h8
  have o1 : okU Q1 := okU_exp hu
  have o2 : okU Q2.2 := okU_ver o1
  have o3 : okU Q3 := okU_exp o2
  have o4 : okU Q4 := okU_adv o3
  have o5 : okU Q5 := okU_adv o4
  have o6 : okU Q6 := okU_adv o5
  have o7 : okU Q7 := okU_adv o6
  have o8 : okU Q8 := okU_adv o7
  have hKK : K [(if Q9.e = 0 then (if consH ⟨Q2.1, num4 Q3, num4 Q4, num4 Q5, num4 Q6, num4 Q7, num4 Q8⟩ then ((⟨Q2.1, num4 Q3, num4 Q4, num4 Q5, num4 Q6, num4 Q7, num4 Q8⟩ : Hd), Q9) else (zH, failU Q9 6 p)) else (zH, Q9)).1.av,
      (if Q9.e = 0 then (if consH ⟨Q2.1, num4 Q3, num4 Q4, num4 Q5, num4 Q6, num4 Q7, num4 Q8⟩ then ((⟨Q2.1, num4 Q3, num4 Q4, num4 Q5, num4 Q6, num4 Q7, num4 Q8⟩ : Hd), Q9) else (zH, failU Q9 6 p)) else (zH, Q9)).2.av] := by
    rw [h9, h8, h7, h6, h5, h4, h3, h2]
    exact hK
  clear_value Q1 Q2 Q3 Q4 Q5 Q6 Q7 Q8 Q9
  have r1 : Q9.e = 0 → consH ⟨Q2.1, num4 Q3, num4 Q4, num4 Q5, num4 Q6, num4 Q7, num4 Q8⟩ = false → R1 := by
    intro he hc
    rw [if_pos he, hc] at hKK
    simp only [Bool.false_eq_true, if_false] at hKK
    have hf : Cu.e (failU Q9 6 p) = 6 := fail_e6 he
    refine brn_intro (fun _ => ⟨⟨hKK, hKK⟩, hKK⟩) (fun h => ?_)
    exfalso
    have h' : (Cu.e (failU Q9 6 p) != (0 : Int)) = false := h
    rw [hf] at h'
    cases h'
  have r2 : ((Q9.e == (0 : Int) && !consH ⟨Q2.1, num4 Q3, num4 Q4, num4 Q5, num4 Q6, num4 Q7, num4 Q8⟩) = false) → R2 := by
    intro hc
    refine brn_intro (fun he => ?_) (fun he => ?_)
    · have he' : ¬ (Q9.e = 0) := by simpa using he
      rw [if_neg he'] at hKK
      exact ⟨⟨hKK, hKK⟩, hKK⟩
    · have he' : Q9.e = 0 := by simpa using he
      have hc' : consH ⟨Q2.1, num4 Q3, num4 Q4, num4 Q5, num4 Q6, num4 Q7, num4 Q8⟩ = true := by
        rw [he'] at hc
        simpa using hc
      rw [if_pos he', if_pos hc'] at hKK
      exact ⟨hKK, hKK⟩
  have fin : brn (Q9.e == (0 : Int) && !consH ⟨Q2.1, num4 Q3, num4 Q4, num4 Q5, num4 Q6, num4 Q7, num4 Q8⟩) R1 R2 := by
    refine brn_intro (fun h => ?_) (fun h => r2 h)
    simp only [Bool.and_eq_true, Bool.not_eq_true', beq_iff_eq] at h
    exact r1 h.1 h.2
  have tail : ∀ X : Prop, X → (0 : Int) ≤ 15 ∧ (15 : Int) ≤ 15 ∧ ((1 : Nat) : Int) * 15 ≤ 140737488355328 ∧ (15 : Int) ≤ 140737488355328 ∧ X := fun X h => ⟨by decide, by decide, by decide, by decide, h⟩
  have body : okU Q2.2 ∧ ((List.length (List.replicate (Int.toNat (15 : Int)) (0 : UInt8)) : Nat) : Int) ≤ 1000 ∧ okU Q3 ∧ (1 : Int) ≤ 4 ∧ (4 : Int) ≤ 8 ∧ okU Q4 ∧ (1 : Int) ≤ 4 ∧ (4 : Int) ≤ 8 ∧ okU Q5 ∧ (1 : Int) ≤ 4 ∧ (4 : Int) ≤ 8 ∧ okU Q6 ∧ (1 : Int) ≤ 4 ∧ (4 : Int) ≤ 8 ∧
      okU Q7 ∧ (1 : Int) ≤ 4 ∧ (4 : Int) ≤ 8 ∧ okU Q8 ∧ (1 : Int) ≤ 4 ∧ (4 : Int) ≤ 8 ∧ brn (Q9.e == (0 : Int) && !consH ⟨Q2.1, num4 Q3, num4 Q4, num4 Q5, num4 Q6, num4 Q7, num4 Q8⟩) R1 R2 :=
    ⟨o2, by decide, o3, by decide, by decide, o4, by decide, by decide, o5, by decide, by decide, o6, by decide, by decide, o7, by decide, by decide, o8, by decide, by decide, fin⟩
  unfold okU at hu o1 body
  exact ⟨hu, by decide, o1, tail _ body, tail _ body⟩
theorem ok49h : ∀ args pres res, sHdD args = some (pres, res) → SpecOK Tryz.prog G16 49 args pres res := by
  intro args pres res h
  unfold sHdD at h
  split at h
  case h_2 => cases h
  cases h
  exact spec_ok (C := L4) okF7 (inl_ok okF7 IH_ok 3) Tryz.func49 (by kernel_rfl) (by kernel_rfl) (fun hp => g49_ev _ _ _ _ (hp _ (by simp)) _ rfl)
end Y27
namespace Y27
open Go Go.AE Go.Proofs E6
def F9 := addE F8 49 sHdD
theorem okF9 : EOK Tryz.prog F9 G16 := addE_ok okF8 ok49h
noncomputable def L6 : Cx := ⟨Tryz.prog, F9, noCall, G16, 4015⟩
end Y27
namespace Y27
open Go Go.AE Go.Proofs Go.RowKit E6
def ixB (l : List UInt8) (n : Int) : Int := Lib.indexByte l n.toNat.toUInt8
theorem bytesOf_nat (l : List UInt8) : Lib.bytesOf (l.map fun b => (b.toNat : Int)) = l := by
  unfold Lib.bytesOf
  rw [List.map_map]
  conv => rhs; rw [← List.map_id l]
  exact List.map_congr_left fun b _ => by
    show UInt8.ofNat ((b.toNat : Int)).toNat = b
    rw [Int.toNat_natCast]
    exact UInt8.ofNat_toNat
theorem run_ix {P : Program} {w : World} (a : Addr) (n c : Nat) (xs : List Int) (hx : xs.length = n) (hc : ∀ j x, xs[j]? = some x → w.cell? (a.add j) = some (.int .u8 x)) (cv : Int) :
    (Extern.BytealgIndexByte.indexByte #[.slice (some a) n c, .int .u8 cv]).run P w = .ok (.int .i64 (Lib.indexByte (Lib.bytesOf xs) cv.toNat.toUInt8)) w := by
  have hl := Lib.run_loadBytesX (P := P) w xs a .empty hc
  rw [hx] at hl
  have hs := Lib.run_indexByteString (P := P) ⟨(Lib.bytesOf xs).toArray⟩ cv w
  have he : (⟨ByteArray.empty.data ++ (Lib.bytesOf xs).toArray⟩ : ByteArray) = ⟨(Lib.bytesOf xs).toArray⟩ := by
    apply ByteArray.ext
    show (#[] : Array UInt8) ++ (Lib.bytesOf xs).toArray = (Lib.bytesOf xs).toArray
    simp
  rw [he] at hl
  change Sem.run P (do
    let b ← Extern.Bytes.bytesOf (.slice (some a) n c)
    let c ← Extern.Bytes.asByte (.int .u8 cv)
    match (List.range b.size).find? fun i => b[i]! == c with
    | some i => pure (goInt i)
    | none => pure (goInt (-1))) w = _
  change Sem.run P (do
    let b ← Extern.Bytes.bytesOf (.string ⟨(Lib.bytesOf xs).toArray⟩)
    let c ← Extern.Bytes.asByte (.int .u8 cv)
    match (List.range b.size).find? fun i => b[i]! == c with
    | some i => pure (goInt i)
    | none => pure (goInt (-1))) w = _ at hs
  simp only [Extern.Bytes.bytesOf, Sem.run_bind, Sem.run_pure, hl, Result.andThen] at hs ⊢
  exact hs
theorem ix_calls (a : Addr) (n c : Nat) (l : List UInt8) (hn : l.length = n) (w : World) (hc : ∀ j b, l[j]? = some b → w.cell? (a.add j) = some (.int .u8 (b.toNat : Int))) (cv : Int) :
    Calls Tryz.prog 54 #[.slice (some a) n c, .int .u8 cv] w fun e w' => e = .returned (.int .i64 (ixB l cv)) ∧ w' = w := by
  have h90 := @run_callFunc_extern Tryz.prog 90 _ Extern.BytealgIndexByte.indexByte Tryz.func90 (by kernel_rfl) (by kernel_rfl) (by kernel_rfl) (by kernel_rfl)
  have hr := run_ix (P := Tryz.prog) (w := w) a n c (l.map fun b => (b.toNat : Int)) (by rw [List.length_map, hn]) (fun j x hj => by
    rw [List.getElem?_map] at hj
    obtain ⟨b, hb, rfl⟩ := Option.map_eq_some_iff.1 hj
    exact hc j b hb) cv
  rw [bytesOf_nat] at hr
  go_enter Tryz.func54, Tryz.ntmps54
  go_wp2
  go_ret
  exact ⟨rfl, rfl⟩
theorem ix_calls_nil (cv : Int) (w : World) :
    Calls Tryz.prog 54 #[.slice none 0 0, .int .u8 cv] w fun e w' => e = .returned (.int .i64 (-1)) ∧ w' = w := by
  have h90 := @run_callFunc_extern Tryz.prog 90 _ Extern.BytealgIndexByte.indexByte Tryz.func90 (by kernel_rfl) (by kernel_rfl) (by kernel_rfl) (by kernel_rfl)
  have hr := Lib.run_indexByteNil (P := Tryz.prog) w 0 0 cv
  go_enter Tryz.func54, Tryz.ntmps54
  go_wp2
  go_ret
  exact ⟨rfl, rfl⟩
theorem ixB_rng (l : List UInt8) (n : Int) : -1 ≤ ixB l n ∧ ixB l n < (l.length : Int) ∨ ixB l n = -1 := by
  unfold ixB
  generalize n.toNat.toUInt8 = c
  induction l with
  | nil => exact .inr rfl
  | cons b l ih =>
    unfold Lib.indexByte
    have := Lib.indexByte_ge l c
    simp only [List.length_cons]
    split
    · left; constructor <;> omega
    · split
      · exact .inr rfl
      · rename_i h
        simp only [beq_iff_eq] at h
        left
        rcases ih with ih | ih
        · omega
        · exact absurd ih h
def sIdx : List AV → Option (List Prop × List AV)
  | [.imm (.bytes l), .imm (.int .u8 n)] => some ([(l.length : Int) ≤ big'], [i64 (ixB l n)])
  | _ => none
theorem ok54 : ∀ args pres res, sIdx args = some (pres, res) → SpecOK Tryz.prog G16 54 args pres res := by
  intro args pres res h
  unfold sIdx at h
  split at h
  case h_2 => cases h
  cases h
  rename_i l n
  refine ⟨⟨_, Tryz.func54, by kernel_rfl, by kernel_rfl⟩, fun hp w own vals hown hs ha hG => ?_⟩
  obtain ⟨X, Y, rfl⟩ : ∃ X Y, vals = #[X, Y] := by
    have hs' : vals.size = 2 := hs
    match vals, hs' with
    | ⟨[X, Y]⟩, _ => exact ⟨X, Y, rfl⟩
  have rX : ARep (zeroGh w own) (.imm (.bytes l)) X := ha 0 _ rfl
  have rY : ARep (zeroGh w own) (.imm (.int .u8 n)) Y := ha 1 _ rfl
  obtain ⟨rfl, _⟩ := arep_int rY
  have hl : (l.length : Int) ≤ big' := hp _ (by simp)
  have hb' : big' = 1000000000000 := rfl
  have done : ∀ r : Int, r = ixB l n → Calls Tryz.prog 54 #[X, .int .u8 n] w (fun e w' => e = .returned (.int .i64 r) ∧ w' = w) →
      Calls Tryz.prog 54 #[X, .int .u8 n] w fun e w' => ∃ Vs bs, e = .returned (resV Vs) ∧ Below w.heap.size w w' ∧ RRes w w' (fun b => own b ∨ b ∈ bs) [i64 (ixB l n)] Vs bs ∧ ∀ b, b ∈ bs → b < w'.heap.size := by
    intro r hr hc
    refine hc.mono ?_
    rintro e w' ⟨rfl, rfl⟩
    refine ⟨[.int .i64 r], [], rfl, Below.refl _ _, ?_, fun b hb => by cases hb⟩
    rw [hr]
    refine .one (bs := []) (bs' := []) (fun cs e => by cases e) (.imm (.int ?_) .nil) (fun b hb => by cases hb) .nil
    have := ixB_rng l n
    show (-9223372036854775808 : Int) ≤ _ ∧ _ ≤ (9223372036854775807 : Int)
    omega
  cases rX.imm_inv with
  | nilSlice h1 h2 =>
    have : l = [] := by
      have : l.length = 0 := by simpa [IV.len] using h2
      exact List.length_eq_zero_iff.1 this
    subst this
    exact done (-1) rfl (ix_calls_nil n w)
  | slice vs h1 h2 h3 h4 h5 h6 h7 h8 h9 =>
    rename_i a k cap
    have hk : l.length = k := by simpa [IV.len] using h2
    refine done _ rfl (ix_calls a k cap l hk w (fun j b hj => ?_) n)
    have hc : (IV.bytes l).cellAt j 0 = some (.int .u8 (b.toNat : Int)) := by
      show (l[j]?).map _ = _
      rw [hj]; rfl
    have e1 := h8 j 0 _ hc
    have e2 := h9 j 0 _ hc
    have e3 : j * (IV.bytes l).esize + 0 = j := by show j * 1 + 0 = j; omega
    rw [e3] at e1
    have e1' : w.cell? (a.add j) = some (vs j 0) := e1
    rw [e1']
    have inv : ∀ V : Value, Rep (zeroGh w own).w (zeroGh w own).own (.int .u8 (b.toNat : Int)) V → V = .int .u8 (b.toNat : Int) := fun V h => (arep_int (.imm h)).1
    rw [inv _ e2]
end Y27
namespace Y27
open Go Go.AE Go.Proofs E6
def nlC : List UInt8 := [10]
def cntU (h : Hd) (c : Cu) (s : Int) : Int := if sumU h s ≤ restU c then elems h else 0
def footU (c : Cu) : Int := if (expU c nlC 14).e ≠ 0 then 0 else if 0 ≤ ixB ((expU c nlC 14).d.drop (expU c nlC 14).p.toNat) 10 then ixB ((expU c nlC 14).d.drop (expU c nlC 14).p.toNat) 10 else 0
def cntP (c : Cu) (s : Int) : Int := cntU (hdU c).1 (hdU c).2 s
def nextP (c : Cu) (s : Int) : Cu := (decU (hdU c).2 (hdU c).1 s 0).2
def measB (A L : Int) (c : Cu) : Int × Int := if (hdU c).2.e ≠ 0 then (A, L) else (A + cntP c 8 + footU (nextP c 8), L + 6 + cntP c 8 + footU (nextP c 8))
def measA (c : Cu) : Int × Int := if (hdU c).2.e ≠ 0 then (0, 0) else if (nextP c 4).e ≠ 0 ∨ (hdU c).1.v < 2 then (cntP c 4, 6 + cntP c 4) else measB (cntP c 4) (6 + cntP c 4) (nextP c 4)
def measU (b : List UInt8) : Int × Int := measA ⟨b, 0, 0, 0⟩
def sMeas : List AV → Option (List Prop × List AV)
  | [.imm (.bytes b)] => some ([(b.length : Int) ≤ big'], [.agg [i64 (measU b).1, i64 (measU b).2]])
  | _ => none
def wbU (b : List UInt8) : Bool := decide ((measU b).1 ≤ 4 * b.length + 64) && decide ((measU b).2 ≤ 16 * b.length + 64)
def sWB : List AV → Option (List Prop × List AV)
  | [.imm (.bytes b)] => some ([(b.length : Int) ≤ big'], [bo (wbU b)])
  | _ => none
def F10 := addE (addE F9 23 sHdD) 54 sIdx
noncomputable def IM : FuncId → Option Func := fun f => bif Nat.beq f 25 then some Tryz.f25 else bif Nat.beq f 26 then some Tryz.f26 else bif Nat.beq f 28 then some Tryz.f28 else bif Nat.beq f 29 then some Tryz.f29 else none
noncomputable def L7 : Cx := ⟨Tryz.prog, F10, inl IM Tryz.prog F10 G16 5013 3, G16, 5013⟩
noncomputable def L8 : Cx := ⟨Tryz.prog, F10, noCall, G16, 4013⟩
def hdC (v iu is l t ty c : Int) : List AV := [i64 v, u32 iu, u32 is, u32 l, u32 t, u32 ty, u32 c]
def cells (l : List AV) : Ob := ⟨true, 0, .cells l⟩
def hV23 (d : List UInt8) (p e a : Int) (q1 : Cu) (x : Int) (q2 : Cu) (v k : Int) : St :=
  ⟨spr [(1, .ptr 0 0), (2, .ptr 1 0), (3, .ptr 2 0), (4, .ptr 3 0), (5, .ptr 4 0), (6, i64 p), (7, .ptr 5 0), (8, u6 x), (9, .ptr 6 0), (10, i64 k)] 0 110,
   [(0, cuC d p e a), (1, cells (hdC 0 0 0 0 0 0 0)), (2, cells zCur), (3, cells (hdC 0 0 0 0 0 0 0)), (4, cells (hdC v 0 0 0 0 0 0)), (5, cuC q1.d q1.p q1.e q1.a), (6, cuC q2.d q2.p q2.e q2.a)], 7, []⟩
def pV23 : Plan := ⟨[], msk [1, 2, 3, 4, 5, 6, 7, 8, 9, 10] 0 110, [0, 1, 2, 3, 4, 5, 6]⟩
def oV23 (d : List UInt8) (p e a : Int) (q1 : Cu) (x : Int) (q2 : Cu) (v k : Int) : St :=
  ⟨spr [(1, .ptr 0 0), (2, .ptr 1 0), (3, .ptr 2 0), (4, .ptr 3 0), (5, .ptr 4 0), (6, i64 p), (7, .ptr 5 0), (8, u6 x), (9, .ptr 6 0), (10, i64 k), (35, i64 k), (36, bo (decide (k ≤ 4)))] 0 110,
   [(0, cuC d p e a), (1, cells (hdC 0 0 0 0 0 0 0)), (2, cells zCur), (3, cells (hdC 0 0 0 0 0 0 0)), (4, cells (hdC v 0 0 0 0 0 0)), (5, cuC q1.d q1.p q1.e q1.a), (6, cuC q2.d q2.p q2.e q2.a)], 7, []⟩
def hN23 (d : List UInt8) (p e a : Int) (v : Int) (q : Cu) (l : List Int) (i : Int) : St :=
  ⟨spr [(1, .ptr 0 0), (2, .ptr 1 0), (3, .ptr 2 0), (4, .ptr 3 0), (5, .ptr 4 0), (6, i64 p), (7, .ptr 5 0), (11, .row 6 0), (12, i64 i)] 0 110,
   [(0, cuC d p e a), (1, cells (hdC 0 0 0 0 0 0 0)), (2, cells zCur), (3, cells (hdC 0 0 0 0 0 0 0)), (4, cells (hdC v 0 0 0 0 0 0)), (5, cuC q.d q.p q.e q.a), (6, ⟨true, 0, .row (.ints .u32 l)⟩)], 7, []⟩
def pN23i : Plan := ⟨[.tmp 11 (.ints .u32 [])], msk [1, 2, 3, 4, 5, 6, 7, 11, 12] 0 110, [0, 1, 2, 3, 4, 5, 7]⟩
def pN23 : Plan := ⟨[], msk [1, 2, 3, 4, 5, 6, 7, 11, 12] 0 110, [0, 1, 2, 3, 4, 5, 6]⟩
def hM9 (b : List UInt8) (A L : Int) (c : Cu) (k : Int) : St :=
  ⟨spr [(0, by' b), (2, .ptr 0 0), (3, .ptr 1 0), (4, .ptr 2 0), (5, i64 k)] 0 128, [(0, cells [i64 0, i64 0]), (1, cells [i64 A, i64 L]), (2, cuC c.d c.p c.e c.a)], 3, []⟩
def pM9 : Plan := ⟨[], msk [0, 2, 3, 4, 5] 0 128, [0, 1, 2]⟩
def hF9 (b : List UInt8) (A L : Int) (c : Cu) (i : Int) : St :=
  ⟨spr [(0, by' b), (2, .ptr 0 0), (3, .ptr 1 0), (4, .ptr 2 0), (12, i64 i)] 0 128, [(0, cells [i64 0, i64 0]), (1, cells [i64 A, i64 L]), (2, cuC c.d c.p c.e c.a)], 3, []⟩
def pF9 : Plan := ⟨[], msk [0, 2, 3, 4, 12] 0 128, [0, 1, 2]⟩
def oN23 (d : List UInt8) (p e a : Int) (v : Int) (q : Cu) (l : List Int) (i : Int) : St :=
  ⟨spr [(1, .ptr 0 0), (2, .ptr 1 0), (3, .ptr 2 0), (4, .ptr 3 0), (5, .ptr 4 0), (6, i64 p), (7, .ptr 5 0), (11, .row 6 0), (12, i64 i), (57, i64 i), (58, bo (decide (i < 6)))] 0 110,
   [(0, cuC d p e a), (1, cells (hdC 0 0 0 0 0 0 0)), (2, cells zCur), (3, cells (hdC 0 0 0 0 0 0 0)), (4, cells (hdC v 0 0 0 0 0 0)), (5, cuC q.d q.p q.e q.a), (6, ⟨true, 0, .row (.ints .u32 l)⟩)], 7, []⟩
def oM9 (b : List UInt8) (A L : Int) (c : Cu) (k : Int) : St :=
  ⟨spr [(0, by' b), (2, .ptr 0 0), (3, .ptr 1 0), (4, .ptr 2 0), (5, i64 k), (15, i64 k), (16, bo (decide (k < 2)))] 0 128, [(0, cells [i64 0, i64 0]), (1, cells [i64 A, i64 L]), (2, cuC c.d c.p c.e c.a)], 3, []⟩
end Y27
set_option maxRecDepth 100000
namespace Y27
open Go Go.AE Go.Proofs E6
attribute [local irreducible] loopK evCode evSpec loopB norm
theorem g23_in (d : List UInt8) (p : Int) (e : Int) (a : Int) (K : List AV → Prop) : evSpec L6 Tryz.f23 [curAV d p e a] K = (let Q1 : Cu := (expU (Cu.mk d p e a) (List.map u8 [(84 : Int), (90 : Int), (105 : Int), (102 : Int)]) (3 : Int)); let Q2 : Cu := (advU (Cu.mk (Cu.d Q1) (Cu.p Q1) (Cu.e Q1) (Cu.a Q1)) (1 : Int)); let E1 : Prop := ((sm (St.mk (lapp [.agg [by' d, i64 p, i64 e, i64 a], .ptr 0 0, .ptr 1 0, .ptr 2 0, .ptr 3 0, .ptr 4 0, i64 p, .ptr 5 0] (lapp (dN 15) (lapp [.agg [i64 0, u32 (0 : Int), u32 (0 : Int), u32 (0 : Int), u32 (0 : Int), u32 (0 : Int), u32 (0 : Int)], .agg [by' (Cu.d Q1), i64 (Cu.p Q1), i64 (Cu.e Q1), i64 (Cu.a Q1)]] (dN 85)))) [(0, Ob.mk true 0 (AObj.cells [by' d, i64 p, i64 e, i64 a])), (1, Ob.mk true 0 (AObj.cells [i64 0, u32 (0 : Int), u32 (0 : Int), u32 (0 : Int), u32 (0 : Int), u32 (0 : Int), u32 (0 : Int)])), (2, Ob.mk true 0 (AObj.cells [by' (Cu.d Q1), i64 (Cu.p Q1), i64 (Cu.e Q1), i64 (Cu.a Q1)])), (3, Ob.mk true 0 (AObj.cells [i64 0, u32 (0 : Int), u32 (0 : Int), u32 (0 : Int), u32 (0 : Int), u32 (0 : Int), u32 (0 : Int)])), (4, Ob.mk true 0 (AObj.cells [i64 0, u32 (0 : Int), u32 (0 : Int), u32 (0 : Int), u32 (0 : Int), u32 (0 : Int), u32 (0 :
 Int)])), (5, Ob.mk true 0 (AObj.cells [by' (Cu.d Q1), i64 (Cu.p Q1), i64 (Cu.e Q1), i64 (Cu.a Q1)]))] (6 : Nat) []))); let E2 : Prop := ((sm (St.mk (lapp [.agg [by' d, i64 p, i64 e, i64 a], .ptr 0 0, .ptr 1 0, .ptr 2 0, .ptr 3 0, .ptr 4 0, i64 p, .ptr 5 0, .imm (.int IntKind.u64 (↑(uintP (takeU (Cu.mk (Cu.d Q1) (Cu.p Q1) (Cu.e Q1) (Cu.a Q1)) (1 : Int)) (0 : Nat) (1 : Int).toNat) : Int)), .ptr 6 0] (lapp (dN 23) (lapp [.agg [i64 0, u32 (0 : Int), u32 (0 : Int), u32 (0 : Int), u32 (0 : Int), u32 (0 : Int), u32 (0 : Int)], .agg [by' (Cu.d Q2), i64 (Cu.p Q2), i64 (Cu.e Q2), i64 (Cu.a Q2)]] (dN 75)))) [(0, Ob.mk true 0 (AObj.cells [by' d, i64 p, i64 e, i64 a])), (1, Ob.mk true 0 (AObj.cells [i64 0, u32 (0 : Int), u32 (0 : Int), u32 (0 : Int), u32 (0 : Int), u32 (0 : Int), u32 (0 : Int)])), (2, Ob.mk true 0 (AObj.cells [by' (Cu.d Q2), i64 (Cu.p Q2), i64 (Cu.e Q2), i64 (Cu.a Q2)])), (3, Ob.mk true 0 (AObj.cells [i64 0, u32 (0 : Int), u32 (0 : Int), u32 (0 : Int), u32 (0 : Int), u32 (0 : Int), u32 (0 : Int)])), (4, Ob.mk true 0 (AObj.cells [i64 0, u32 (0 : Int), u32 (0 : Int), u32 (0 : Int), u32 (0 : Int), u32 (0 : Int), u32 (0 : Int)])), (5, Ob.mk true 0 (AObj.cells [by' (Cu.d Q1), i64
 (Cu.p Q1), i64 (Cu.e Q1), i64 (Cu.a Q1)])), (6, Ob.mk true 0 (AObj.cells [by' (Cu.d Q2), i64 (Cu.p Q2), i64 (Cu.e Q2), i64 (Cu.a Q2)]))] (7 : Nat) []))); okU (Cu.mk d p e a) ∧ (↑(List.map u8 [(84 : Int), (90 : Int), (105 : Int), (102 : Int)]).length : Int) ≤ 1000 ∧ brn (Cu.e Q1 != 0) (E1 ∧ K [.agg [i64 0, u32 (0 : Int), u32 (0 : Int), u32 (0 : Int), u32 (0 : Int), u32 (0 : Int), u32 (0 : Int)], .agg [by' (Cu.d Q1), i64 (Cu.p Q1), i64 (Cu.e Q1), i64 (Cu.a Q1)]]) (okU (Cu.mk (Cu.d Q1) (Cu.p Q1) (Cu.e Q1) (Cu.a Q1)) ∧ (1 : Int) ≤ 1 ∧ (1 : Int) ≤ 8 ∧ brn (Cu.e Q2 != 0) (E2 ∧ K [.agg [i64 0, u32 (0 : Int), u32 (0 : Int), u32 (0 : Int), u32 (0 : Int), u32 (0 : Int), u32 (0 : Int)], .agg [by' (Cu.d Q2), i64 (Cu.p Q2), i64 (Cu.e Q2), i64 (Cu.a Q2)]]) (LoopI L6 (bodyOf Tryz.f23) (0 : Nat) (St.mk (lapp [.agg [by' d, i64 p, i64 e, i64 a], .ptr 0 0, .ptr 1 0, .ptr 2 0, .ptr 3 0, .ptr 4 0, i64 p, .ptr 5 0, .imm (.int IntKind.u64 (↑(uintP (takeU (Cu.mk (Cu.d Q1) (Cu.p Q1) (Cu.e Q1) (Cu.a Q1)) (1 : Int)) (0 : Nat) (1 : Int).toNat) : Int)), .ptr 6 0, i64 1] (dN 99)) [(0, Ob.mk true 0 (AObj.cells [by' d, i64 p, i64 e, i64 a])), (1, Ob.mk true 0 (AObj.cells [i64 0, u32 (0 : Int), u32 (0 : Int), u32
 (0 : Int), u32 (0 : Int), u32 (0 : Int), u32 (0 : Int)])), (2, Ob.mk true 0 (AObj.cells [.imm (.val (Value.slice none (0 : Nat) (0 : Nat))), i64 0, i64 0, i64 0])), (3, Ob.mk true 0 (AObj.cells [i64 0, u32 (0 : Int), u32 (0 : Int), u32 (0 : Int), u32 (0 : Int), u32 (0 : Int), u32 (0 : Int)])), (4, Ob.mk true 0 (AObj.cells [i64 0, u32 (0 : Int), u32 (0 : Int), u32 (0 : Int), u32 (0 : Int), u32 (0 : Int), u32 (0 : Int)])), (5, Ob.mk true 0 (AObj.cells [by' (Cu.d Q1), i64 (Cu.p Q1), i64 (Cu.e Q1), i64 (Cu.a Q1)])), (6, Ob.mk true 0 (AObj.cells [by' (Cu.d Q2), i64 (Cu.p Q2), i64 (Cu.e Q2), i64 (Cu.a Q2)]))] (7 : Nat) []) (finK L6 Tryz.f23 K)))) := by kernel_rfl
end Y27
set_option maxRecDepth 100000
namespace Y27
open Go Go.AE Go.Proofs E6
attribute [local irreducible] loopK evCode evSpec loopB norm
theorem g23_lp (d : List UInt8) (p : Int) (e : Int) (a : Int) (q1 : Cu) (x : Int) (q2 : Cu) (v : Int) (kk : Int) (k : AX → St → Prop) : evCode L6 (loopB (bodyOf Tryz.f23) (0 : Nat)) (hV23 d p e a q1 x q2 v kk) k = (brn (decide (kk ≤ 4)) ((1 : Int) ≤ kk ∧ kk ≤ 4 ∧ brn (IntKind.wrap IntKind.u64 (if kk = 1 then (0 : Int) else (48 : Int) + kk) == x) (k AX.normal (St.mk (lapp [.dead, .ptr 0 0, .ptr 1 0, .ptr 2 0, .ptr 3 0, .ptr 4 0, i64 p, .ptr 5 0, .imm (.int IntKind.u64 x), .ptr 6 0, i64 (IntKind.wrap .i64 (kk + 1))] (lapp (dN 26) (lapp [i64 kk, i64 (IntKind.wrap .i64 (kk + 1))] (dN 71)))) [(0, Ob.mk true 0 (AObj.cells [by' d, i64 p, i64 e, i64 a])), (1, Ob.mk true 0 (AObj.cells [i64 0, u32 (0 : Int), u32 (0 : Int), u32 (0 : Int), u32 (0 : Int), u32 (0 : Int), u32 (0 : Int)])), (2, Ob.mk true 0 (AObj.cells [.imm (.val (Value.slice none (0 : Nat) (0 : Nat))), i64 0, i64 0, i64 0])), (3, Ob.mk true 0 (AObj.cells [i64 0, u32 (0 : Int), u32 (0 : Int), u32 (0 : Int), u32 (0 : Int), u32 (0 : Int), u32 (0 : Int)])), (4, Ob.mk true 0 (AObj.cells [i64 kk, u32 (0 : Int), u32 (0 : Int), u32 (0 : Int), u32 (0 : Int), u32 (0 : Int), u32 (0 : Int)])), (5, Ob.mk true 0 (AObj.cells [by' (Cu.d q1), i64
 (Cu.p q1), i64 (Cu.e q1), i64 (Cu.a q1)])), (6, Ob.mk true 0 (AObj.cells [by' (Cu.d q2), i64 (Cu.p q2), i64 (Cu.e q2), i64 (Cu.a q2)]))] (7 : Nat) [])) (k AX.normal (St.mk (lapp [.dead, .ptr 0 0, .ptr 1 0, .ptr 2 0, .ptr 3 0, .ptr 4 0, i64 p, .ptr 5 0, .imm (.int IntKind.u64 x), .ptr 6 0, i64 (IntKind.wrap .i64 (kk + 1))] (lapp (dN 26) (lapp [i64 kk, i64 (IntKind.wrap .i64 (kk + 1))] (dN 71)))) [(0, Ob.mk true 0 (AObj.cells [by' d, i64 p, i64 e, i64 a])), (1, Ob.mk true 0 (AObj.cells [i64 0, u32 (0 : Int), u32 (0 : Int), u32 (0 : Int), u32 (0 : Int), u32 (0 : Int), u32 (0 : Int)])), (2, Ob.mk true 0 (AObj.cells [.imm (.val (Value.slice none (0 : Nat) (0 : Nat))), i64 0, i64 0, i64 0])), (3, Ob.mk true 0 (AObj.cells [i64 0, u32 (0 : Int), u32 (0 : Int), u32 (0 : Int), u32 (0 : Int), u32 (0 : Int), u32 (0 : Int)])), (4, Ob.mk true 0 (AObj.cells [i64 v, u32 (0 : Int), u32 (0 : Int), u32 (0 : Int), u32 (0 : Int), u32 (0 : Int), u32 (0 : Int)])), (5, Ob.mk true 0 (AObj.cells [by' (Cu.d q1), i64 (Cu.p q1), i64 (Cu.e q1), i64 (Cu.a q1)])), (6, Ob.mk true 0 (AObj.cells [by' (Cu.d q2), i64 (Cu.p q2), i64 (Cu.e q2), i64 (Cu.a q2)]))] (7 : Nat) []))) (k (AX.exit (0 : Nat)) (St.mk (lapp [.dead,
 .ptr 0 0, .ptr 1 0, .ptr 2 0, .ptr 3 0, .ptr 4 0, i64 p, .ptr 5 0, .imm (.int IntKind.u64 x), .ptr 6 0, i64 kk] (lapp (dN 24) (lapp [i64 kk, bo (decide (kk ≤ 4))] (dN 73)))) [(0, Ob.mk true 0 (AObj.cells [by' d, i64 p, i64 e, i64 a])), (1, Ob.mk true 0 (AObj.cells [i64 0, u32 (0 : Int), u32 (0 : Int), u32 (0 : Int), u32 (0 : Int), u32 (0 : Int), u32 (0 : Int)])), (2, Ob.mk true 0 (AObj.cells [.imm (.val (Value.slice none (0 : Nat) (0 : Nat))), i64 0, i64 0, i64 0])), (3, Ob.mk true 0 (AObj.cells [i64 0, u32 (0 : Int), u32 (0 : Int), u32 (0 : Int), u32 (0 : Int), u32 (0 : Int), u32 (0 : Int)])), (4, Ob.mk true 0 (AObj.cells [i64 v, u32 (0 : Int), u32 (0 : Int), u32 (0 : Int), u32 (0 : Int), u32 (0 : Int), u32 (0 : Int)])), (5, Ob.mk true 0 (AObj.cells [by' (Cu.d q1), i64 (Cu.p q1), i64 (Cu.e q1), i64 (Cu.a q1)])), (6, Ob.mk true 0 (AObj.cells [by' (Cu.d q2), i64 (Cu.p q2), i64 (Cu.e q2), i64 (Cu.a q2)]))] (7 : Nat) []))) := by kernel_rfl
end Y27
set_option maxRecDepth 100000
namespace Y27
open Go Go.AE Go.Proofs E6
attribute [local irreducible] loopK evCode evSpec loopB norm
theorem g23_out (d : List UInt8) (p : Int) (e : Int) (a : Int) (q1 : Cu) (x : Int) (q2 : Cu) (v : Int) (kk : Int) (K : List AV → Prop) : loopK L6 (bodyOf Tryz.f23) (0 : Nat) (finK L6 Tryz.f23 K) (AX.exit (0 : Nat)) (oV23 d p e a q1 x q2 v kk) = (let Q1 : Cu := (expU (Cu.mk (Cu.d q2) (Cu.p q2) (Cu.e q2) (Cu.a q2)) (List.replicate (15 : Int).toNat (0 : UInt8)) (5 : Int)); let E1 : Prop := ((sm (St.mk (lapp [.dead, .ptr 0 0, .ptr 1 0, .ptr 2 0, .ptr 3 0, .ptr 4 0, i64 p, .ptr 5 0, .imm (.int IntKind.u64 x), .ptr 6 0, i64 kk] (lapp (dN 38) (lapp [.agg [i64 0, u32 (0 : Int), u32 (0 : Int), u32 (0 : Int), u32 (0 : Int), u32 (0 : Int), u32 (0 : Int)], .agg [by' (Cu.d q1), i64 (Cu.p q1), i64 (Cu.e q1), i64 (Cu.a q1)], .ptr 5 1, i64 (Cu.p q1), .agg [by' (Cu.d (failU (Cu.mk (Cu.d q1) (Cu.p q1) (Cu.e q1) (Cu.a q1)) (4 : Int) (Cu.p q1))), i64 (Cu.p (failU (Cu.mk (Cu.d q1) (Cu.p q1) (Cu.e q1) (Cu.a q1)) (4 : Int) (Cu.p q1))), i64 (Cu.e (failU (Cu.mk (Cu.d q1) (Cu.p q1) (Cu.e q1) (Cu.a q1)) (4 : Int) (Cu.p q1))), i64 (Cu.a (failU (Cu.mk (Cu.d q1) (Cu.p q1) (Cu.e q1) (Cu.a q1)) (4 : Int) (Cu.p q1)))]] (dN 56)))) [(0, Ob.mk true 0 (AObj.cells [by' d, i64 p, i64 e, i64 a])), (1, Ob.mk true 0
 (AObj.cells [i64 0, u32 (0 : Int), u32 (0 : Int), u32 (0 : Int), u32 (0 : Int), u32 (0 : Int), u32 (0 : Int)])), (2, Ob.mk true 0 (AObj.cells [by' (Cu.d (failU (Cu.mk (Cu.d q1) (Cu.p q1) (Cu.e q1) (Cu.a q1)) (4 : Int) (Cu.p q1))), i64 (Cu.p (failU (Cu.mk (Cu.d q1) (Cu.p q1) (Cu.e q1) (Cu.a q1)) (4 : Int) (Cu.p q1))), i64 (Cu.e (failU (Cu.mk (Cu.d q1) (Cu.p q1) (Cu.e q1) (Cu.a q1)) (4 : Int) (Cu.p q1))), i64 (Cu.a (failU (Cu.mk (Cu.d q1) (Cu.p q1) (Cu.e q1) (Cu.a q1)) (4 : Int) (Cu.p q1)))])), (3, Ob.mk true 0 (AObj.cells [i64 0, u32 (0 : Int), u32 (0 : Int), u32 (0 : Int), u32 (0 : Int), u32 (0 : Int), u32 (0 : Int)])), (4, Ob.mk true 0 (AObj.cells [i64 v, u32 (0 : Int), u32 (0 : Int), u32 (0 : Int), u32 (0 : Int), u32 (0 : Int), u32 (0 : Int)])), (5, Ob.mk true 0 (AObj.cells [by' (Cu.d q1), i64 (Cu.p q1), i64 (Cu.e q1), i64 (Cu.a q1)])), (6, Ob.mk true 0 (AObj.cells [by' (Cu.d q2), i64 (Cu.p q2), i64 (Cu.e q2), i64 (Cu.a q2)]))] (7 : Nat) []))); let E2 : Prop := ((sm (St.mk (lapp [.dead, .ptr 0 0, .ptr 1 0, .ptr 2 0, .ptr 3 0, .ptr 4 0, i64 p, .ptr 5 0, .imm (.int IntKind.u64 x), .ptr 6 0, i64 kk] (lapp (dN 43) (lapp [.agg [by' (Cu.d q2), i64 (Cu.p q2), i64 (Cu.e q2), i64 (Cu.a
 q2)], AV.row (7 : Nat) (0 : Nat), .agg [by' (Cu.d Q1), i64 (Cu.p Q1), i64 (Cu.e Q1), i64 (Cu.a Q1)]] (dN 53)))) [(0, Ob.mk true 0 (AObj.cells [by' d, i64 p, i64 e, i64 a])), (1, Ob.mk true 0 (AObj.cells [i64 0, u32 (0 : Int), u32 (0 : Int), u32 (0 : Int), u32 (0 : Int), u32 (0 : Int), u32 (0 : Int)])), (2, Ob.mk true 0 (AObj.cells [.imm (.val (Value.slice none (0 : Nat) (0 : Nat))), i64 0, i64 0, i64 0])), (3, Ob.mk true 0 (AObj.cells [i64 0, u32 (0 : Int), u32 (0 : Int), u32 (0 : Int), u32 (0 : Int), u32 (0 : Int), u32 (0 : Int)])), (4, Ob.mk true 0 (AObj.cells [i64 v, u32 (0 : Int), u32 (0 : Int), u32 (0 : Int), u32 (0 : Int), u32 (0 : Int), u32 (0 : Int)])), (5, Ob.mk true 0 (AObj.cells [by' (Cu.d Q1), i64 (Cu.p Q1), i64 (Cu.e Q1), i64 (Cu.a Q1)])), (6, Ob.mk true 0 (AObj.cells [by' (Cu.d q2), i64 (Cu.p q2), i64 (Cu.e q2), i64 (Cu.a q2)])), (7, Ob.mk false 0 (AObj.row (IV.bytes (List.replicate (15 : Int).toNat (0 : UInt8)))))] (8 : Nat) []))); brn (v == 0) (E1 ∧ K [.agg [i64 0, u32 (0 : Int), u32 (0 : Int), u32 (0 : Int), u32 (0 : Int), u32 (0 : Int), u32 (0 : Int)], .agg [by' (Cu.d (failU (Cu.mk (Cu.d q1) (Cu.p q1) (Cu.e q1) (Cu.a q1)) (4 : Int) (Cu.p q1))), i64 (Cu.p (failU
 (Cu.mk (Cu.d q1) (Cu.p q1) (Cu.e q1) (Cu.a q1)) (4 : Int) (Cu.p q1))), i64 (Cu.e (failU (Cu.mk (Cu.d q1) (Cu.p q1) (Cu.e q1) (Cu.a q1)) (4 : Int) (Cu.p q1))), i64 (Cu.a (failU (Cu.mk (Cu.d q1) (Cu.p q1) (Cu.e q1) (Cu.a q1)) (4 : Int) (Cu.p q1)))]]) (((0 : Int) ≤ 15 ∧ (15 : Int) ≤ 15 ∧ (↑(1 : Nat) : Int) * 15 ≤ 140737488355328 ∧ (15 : Int) ≤ 140737488355328 ∧ okU (Cu.mk (Cu.d q2) (Cu.p q2) (Cu.e q2) (Cu.a q2)) ∧ (↑(List.replicate (15 : Int).toNat (0 : UInt8)).length : Int) ≤ 1000 ∧ E2) ∧ LoopI L6 (bodyOf Tryz.f23) (1 : Nat) (St.mk (lapp [.dead, .ptr 0 0, .ptr 1 0, .ptr 2 0, .ptr 3 0, .ptr 4 0, i64 p, .ptr 5 0, .imm (.int IntKind.u64 x), .ptr 6 0, i64 kk, .full (IV.ints IntKind.u32 []), i64 0] (dN 97)) [(0, Ob.mk true 0 (AObj.cells [by' d, i64 p, i64 e, i64 a])), (1, Ob.mk true 0 (AObj.cells [i64 0, u32 (0 : Int), u32 (0 : Int), u32 (0 : Int), u32 (0 : Int), u32 (0 : Int), u32 (0 : Int)])), (2, Ob.mk true 0 (AObj.cells [.imm (.val (Value.slice none (0 : Nat) (0 : Nat))), i64 0, i64 0, i64 0])), (3, Ob.mk true 0 (AObj.cells [i64 0, u32 (0 : Int), u32 (0 : Int), u32 (0 : Int), u32 (0 : Int), u32 (0 : Int), u32 (0 : Int)])), (4, Ob.mk true 0 (AObj.cells [i64 v, u32 (0 : Int), u32 (0 :
 Int), u32 (0 : Int), u32 (0 : Int), u32 (0 : Int), u32 (0 : Int)])), (5, Ob.mk true 0 (AObj.cells [by' (Cu.d Q1), i64 (Cu.p Q1), i64 (Cu.e Q1), i64 (Cu.a Q1)])), (6, Ob.mk true 0 (AObj.cells [by' (Cu.d q2), i64 (Cu.p q2), i64 (Cu.e q2), i64 (Cu.a q2)]))] (7 : Nat) []) (finK L6 Tryz.f23 K))) := by kernel_rfl
end Y27
set_option maxRecDepth 100000
namespace Y27
open Go Go.AE Go.Proofs E6
attribute [local irreducible] loopK evCode evSpec loopB norm
theorem g23_lp2 (d : List UInt8) (p : Int) (e : Int) (a : Int) (v : Int) (q : Cu) (l : List Int) (i : Int) (k : AX → St → Prop) : evCode L6 (loopB (bodyOf Tryz.f23) (1 : Nat)) (hN23 d p e a v q l i) k = (let Q1 : Cu := (advU (Cu.mk (Cu.d q) (Cu.p q) (Cu.e q) (Cu.a q)) (4 : Int)); brn (decide (i < 6)) (okU (Cu.mk (Cu.d q) (Cu.p q) (Cu.e q) (Cu.a q)) ∧ (1 : Int) ≤ 4 ∧ (4 : Int) ≤ 8 ∧ (l.length + List.length [IntKind.wrap IntKind.u32 (↑(uintP (takeU (Cu.mk (Cu.d q) (Cu.p q) (Cu.e q) (Cu.a q)) (4 : Int)) (0 : Nat) (4 : Int).toNat) : Int)]) * 4 ≤ 140737488355328 ∧ l.length + List.length [IntKind.wrap IntKind.u32 (↑(uintP (takeU (Cu.mk (Cu.d q) (Cu.p q) (Cu.e q) (Cu.a q)) (4 : Int)) (0 : Nat) (4 : Int).toNat) : Int)] ≤ 140737488355328 ∧ k AX.normal (St.mk (lapp [.dead, .ptr 0 0, .ptr 1 0, .ptr 2 0, .ptr 3 0, .ptr 4 0, i64 p, .ptr 5 0, .dead, .dead, .dead, AV.row (6 : Nat) (0 : Nat), i64 (IntKind.wrap .i64 (i + 1)), .imm (.int IntKind.u64 (↑(uintP (takeU (Cu.mk (Cu.d q) (Cu.p q) (Cu.e q) (Cu.a q)) (4 : Int)) (0 : Nat) (4 : Int).toNat) : Int)), .ptr 7 0] (lapp (dN 44) (lapp [i64 i, i64 (IntKind.wrap .i64 (i + 1))] (dN 49)))) [(0, Ob.mk true 0 (AObj.cells [by' d, i64 p, i64 e, i64 a])), (1,
 Ob.mk true 0 (AObj.cells [i64 0, u32 (0 : Int), u32 (0 : Int), u32 (0 : Int), u32 (0 : Int), u32 (0 : Int), u32 (0 : Int)])), (2, Ob.mk true 0 (AObj.cells [.imm (.val (Value.slice none (0 : Nat) (0 : Nat))), i64 0, i64 0, i64 0])), (3, Ob.mk true 0 (AObj.cells [i64 0, u32 (0 : Int), u32 (0 : Int), u32 (0 : Int), u32 (0 : Int), u32 (0 : Int), u32 (0 : Int)])), (4, Ob.mk true 0 (AObj.cells [i64 v, u32 (0 : Int), u32 (0 : Int), u32 (0 : Int), u32 (0 : Int), u32 (0 : Int), u32 (0 : Int)])), (5, Ob.mk true 0 (AObj.cells [by' (Cu.d Q1), i64 (Cu.p Q1), i64 (Cu.e Q1), i64 (Cu.a Q1)])), (6, Ob.mk true 0 (AObj.row (IV.ints IntKind.u32 (l ++ [IntKind.wrap IntKind.u32 (↑(uintP (takeU (Cu.mk (Cu.d q) (Cu.p q) (Cu.e q) (Cu.a q)) (4 : Int)) (0 : Nat) (4 : Int).toNat) : Int)])))), (7, Ob.mk true 0 (AObj.cells [by' (Cu.d Q1), i64 (Cu.p Q1), i64 (Cu.e Q1), i64 (Cu.a Q1)]))] (8 : Nat) [])) (k (AX.exit (2 : Nat)) (St.mk (lapp [.dead, .ptr 0 0, .ptr 1 0, .ptr 2 0, .ptr 3 0, .ptr 4 0, i64 p, .ptr 5 0, .dead, .dead, .dead, AV.row (6 : Nat) (0 : Nat), i64 i] (lapp (dN 44) (lapp [i64 i, bo (decide (i < 6))] (dN 51)))) [(0, Ob.mk true 0 (AObj.cells [by' d, i64 p, i64 e, i64 a])), (1, Ob.mk true 0 (AObj.cells
 [i64 0, u32 (0 : Int), u32 (0 : Int), u32 (0 : Int), u32 (0 : Int), u32 (0 : Int), u32 (0 : Int)])), (2, Ob.mk true 0 (AObj.cells [.imm (.val (Value.slice none (0 : Nat) (0 : Nat))), i64 0, i64 0, i64 0])), (3, Ob.mk true 0 (AObj.cells [i64 0, u32 (0 : Int), u32 (0 : Int), u32 (0 : Int), u32 (0 : Int), u32 (0 : Int), u32 (0 : Int)])), (4, Ob.mk true 0 (AObj.cells [i64 v, u32 (0 : Int), u32 (0 : Int), u32 (0 : Int), u32 (0 : Int), u32 (0 : Int), u32 (0 : Int)])), (5, Ob.mk true 0 (AObj.cells [by' (Cu.d q), i64 (Cu.p q), i64 (Cu.e q), i64 (Cu.a q)])), (6, Ob.mk true 0 (AObj.row (IV.ints IntKind.u32 l)))] (7 : Nat) []))) := by kernel_rfl
theorem g23_out2 (d : List UInt8) (p : Int) (e : Int) (a : Int) (v : Int) (q : Cu) (l : List Int) (i : Int) (K : List AV → Prop) : loopK L6 (bodyOf Tryz.f23) (1 : Nat) (finK L6 Tryz.f23 K) (AX.exit (2 : Nat)) (oN23 d p e a v q l i) = (let E1 : Prop := ((sm (St.mk (lapp [.dead, .ptr 0 0, .ptr 1 0, .ptr 2 0, .ptr 3 0, .ptr 4 0, i64 p, .ptr 5 0, .dead, .dead, .dead, AV.row (6 : Nat) (0 : Nat), i64 i] (lapp (dN 62) (lapp [.agg [i64 0, u32 (0 : Int), u32 (0 : Int), u32 (0 : Int), u32 (0 : Int), u32 (0 : Int), u32 (0 : Int)], .agg [by' (Cu.d q), i64 (Cu.p q), i64 (Cu.e q), i64 (Cu.a q)]] (dN 33)))) [(0, Ob.mk true 0 (AObj.cells [by' d, i64 p, i64 e, i64 a])), (1, Ob.mk true 0 (AObj.cells [i64 0, u32 (0 : Int), u32 (0 : Int), u32 (0 : Int), u32 (0 : Int), u32 (0 : Int), u32 (0 : Int)])), (2, Ob.mk true 0 (AObj.cells [by' (Cu.d q), i64 (Cu.p q), i64 (Cu.e q), i64 (Cu.a q)])), (3, Ob.mk true 0 (AObj.cells [i64 0, u32 (0 : Int), u32 (0 : Int), u32 (0 : Int), u32 (0 : Int), u32 (0 : Int), u32 (0 : Int)])), (4, Ob.mk true 0 (AObj.cells [i64 v, u32 (0 : Int), u32 (0 : Int), u32 (0 : Int), u32 (0 : Int), u32 (0 : Int), u32 (0 : Int)])), (5, Ob.mk true 0 (AObj.cells [by' (Cu.d q), i64 (Cu.p q),
 i64 (Cu.e q), i64 (Cu.a q)])), (6, Ob.mk true 0 (AObj.row (IV.ints IntKind.u32 l)))] (7 : Nat) []))); let E2 : Prop := ((sm (St.mk (lapp [.dead, .ptr 0 0, .ptr 1 0, .ptr 2 0, .ptr 3 0, .ptr 4 0, i64 p, .ptr 5 0, .dead, .dead, .dead, AV.row (6 : Nat) (0 : Nat), i64 i] (lapp (dN 91) [.agg [i64 0, u32 (0 : Int), u32 (0 : Int), u32 (0 : Int), u32 (0 : Int), u32 (0 : Int), u32 (0 : Int)], .agg [by' (Cu.d q), i64 (Cu.p q), i64 (Cu.e q), i64 (Cu.a q)], i64 p, .agg [by' (Cu.d (failU (Cu.mk (Cu.d q) (Cu.p q) (Cu.e q) (Cu.a q)) (6 : Int) p)), i64 (Cu.p (failU (Cu.mk (Cu.d q) (Cu.p q) (Cu.e q) (Cu.a q)) (6 : Int) p)), i64 (Cu.e (failU (Cu.mk (Cu.d q) (Cu.p q) (Cu.e q) (Cu.a q)) (6 : Int) p)), i64 (Cu.a (failU (Cu.mk (Cu.d q) (Cu.p q) (Cu.e q) (Cu.a q)) (6 : Int) p))], .dead, .dead])) [(0, Ob.mk true 0 (AObj.cells [by' d, i64 p, i64 e, i64 a])), (1, Ob.mk true 0 (AObj.cells [i64 0, u32 (0 : Int), u32 (0 : Int), u32 (0 : Int), u32 (0 : Int), u32 (0 : Int), u32 (0 : Int)])), (2, Ob.mk true 0 (AObj.cells [by' (Cu.d (failU (Cu.mk (Cu.d q) (Cu.p q) (Cu.e q) (Cu.a q)) (6 : Int) p)), i64 (Cu.p (failU (Cu.mk (Cu.d q) (Cu.p q) (Cu.e q) (Cu.a q)) (6 : Int) p)), i64 (Cu.e (failU (Cu.mk (Cu.d q) (Cu.p q)
 (Cu.e q) (Cu.a q)) (6 : Int) p)), i64 (Cu.a (failU (Cu.mk (Cu.d q) (Cu.p q) (Cu.e q) (Cu.a q)) (6 : Int) p))])), (3, Ob.mk true 0 (AObj.cells [i64 0, u32 (0 : Int), u32 (0 : Int), u32 (0 : Int), u32 (0 : Int), u32 (0 : Int), u32 (0 : Int)])), (4, Ob.mk true 0 (AObj.cells [i64 v, u32 (List.getD l (0 : Int).toNat (0 : Int)), u32 (List.getD l (1 : Int).toNat (0 : Int)), u32 (List.getD l (2 : Int).toNat (0 : Int)), u32 (List.getD l (3 : Int).toNat (0 : Int)), u32 (List.getD l (4 : Int).toNat (0 : Int)), u32 (List.getD l (5 : Int).toNat (0 : Int))])), (5, Ob.mk true 0 (AObj.cells [by' (Cu.d q), i64 (Cu.p q), i64 (Cu.e q), i64 (Cu.a q)])), (6, Ob.mk true 0 (AObj.row (IV.ints IntKind.u32 l)))] (7 : Nat) []))); let E3 : Prop := ((sm (St.mk (lapp [.dead, .ptr 0 0, .ptr 1 0, .ptr 2 0, .ptr 3 0, .ptr 4 0, i64 p, .ptr 5 0, .dead, .dead, .dead, AV.row (6 : Nat) (0 : Nat), i64 i] (lapp (dN 95) [.agg [i64 v, u32 (List.getD l (0 : Int).toNat (0 : Int)), u32 (List.getD l (1 : Int).toNat (0 : Int)), u32 (List.getD l (2 : Int).toNat (0 : Int)), u32 (List.getD l (3 : Int).toNat (0 : Int)), u32 (List.getD l (4 : Int).toNat (0 : Int)), u32 (List.getD l (5 : Int).toNat (0 : Int))], .agg [by' (Cu.d q), i64
 (Cu.p q), i64 (Cu.e q), i64 (Cu.a q)]])) [(0, Ob.mk true 0 (AObj.cells [by' d, i64 p, i64 e, i64 a])), (1, Ob.mk true 0 (AObj.cells [i64 v, u32 (List.getD l (0 : Int).toNat (0 : Int)), u32 (List.getD l (1 : Int).toNat (0 : Int)), u32 (List.getD l (2 : Int).toNat (0 : Int)), u32 (List.getD l (3 : Int).toNat (0 : Int)), u32 (List.getD l (4 : Int).toNat (0 : Int)), u32 (List.getD l (5 : Int).toNat (0 : Int))])), (2, Ob.mk true 0 (AObj.cells [by' (Cu.d q), i64 (Cu.p q), i64 (Cu.e q), i64 (Cu.a q)])), (3, Ob.mk true 0 (AObj.cells [i64 0, u32 (0 : Int), u32 (0 : Int), u32 (0 : Int), u32 (0 : Int), u32 (0 : Int), u32 (0 : Int)])), (4, Ob.mk true 0 (AObj.cells [i64 v, u32 (List.getD l (0 : Int).toNat (0 : Int)), u32 (List.getD l (1 : Int).toNat (0 : Int)), u32 (List.getD l (2 : Int).toNat (0 : Int)), u32 (List.getD l (3 : Int).toNat (0 : Int)), u32 (List.getD l (4 : Int).toNat (0 : Int)), u32 (List.getD l (5 : Int).toNat (0 : Int))])), (5, Ob.mk true 0 (AObj.cells [by' (Cu.d q), i64 (Cu.p q), i64 (Cu.e q), i64 (Cu.a q)])), (6, Ob.mk true 0 (AObj.row (IV.ints IntKind.u32 l)))] (7 : Nat) []))); brn (Cu.e q != 0) (E1 ∧ K [.agg [i64 0, u32 (0 : Int), u32 (0 : Int), u32 (0 : Int), u32 (0 : Int),
 u32 (0 : Int), u32 (0 : Int)], .agg [by' (Cu.d q), i64 (Cu.p q), i64 (Cu.e q), i64 (Cu.a q)]]) ((0 : Int) ≤ 0 ∧ (0 : Int) < (l.length : Int) ∧ (0 : Int) ≤ 1 ∧ (1 : Int) < (l.length : Int) ∧ (0 : Int) ≤ 2 ∧ (2 : Int) < (l.length : Int) ∧ (0 : Int) ≤ 3 ∧ (3 : Int) < (l.length : Int) ∧ (0 : Int) ≤ 4 ∧ (4 : Int) < (l.length : Int) ∧ (0 : Int) ≤ 5 ∧ (5 : Int) < (l.length : Int) ∧ brn (!consH (Hd.mk v (List.getD l (0 : Int).toNat (0 : Int)) (List.getD l (1 : Int).toNat (0 : Int)) (List.getD l (2 : Int).toNat (0 : Int)) (List.getD l (3 : Int).toNat (0 : Int)) (List.getD l (4 : Int).toNat (0 : Int)) (List.getD l (5 : Int).toNat (0 : Int)))) (E2 ∧ K [.agg [i64 0, u32 (0 : Int), u32 (0 : Int), u32 (0 : Int), u32 (0 : Int), u32 (0 : Int), u32 (0 : Int)], .agg [by' (Cu.d (failU (Cu.mk (Cu.d q) (Cu.p q) (Cu.e q) (Cu.a q)) (6 : Int) p)), i64 (Cu.p (failU (Cu.mk (Cu.d q) (Cu.p q) (Cu.e q) (Cu.a q)) (6 : Int) p)), i64 (Cu.e (failU (Cu.mk (Cu.d q) (Cu.p q) (Cu.e q) (Cu.a q)) (6 : Int) p)), i64 (Cu.a (failU (Cu.mk (Cu.d q) (Cu.p q) (Cu.e q) (Cu.a q)) (6 : Int) p))]]) (E3 ∧ K [.agg [i64 v, u32 (List.getD l (0 : Int).toNat (0 : Int)), u32 (List.getD l (1 : Int).toNat (0 : Int)), u32 (List.getD l (2 :
 Int).toNat (0 : Int)), u32 (List.getD l (3 : Int).toNat (0 : Int)), u32 (List.getD l (4 : Int).toNat (0 : Int)), u32 (List.getD l (5 : Int).toNat (0 : Int))], .agg [by' (Cu.d q), i64 (Cu.p q), i64 (Cu.e q), i64 (Cu.a q)]]))) := by kernel_rfl
theorem g9_lp (b : List UInt8) (A : Int) (L : Int) (c : Cu) (kk : Int) (k : AX → St → Prop) : evCode L8 (loopB (bodyOf Tryz.f9) (0 : Nat)) (hM9 b A L c kk) k = (let Q1 : Hd × Cu := (hdU (Cu.mk (Cu.d c) (Cu.p c) (Cu.e c) (Cu.a c))); let Q2 : Bk × Cu := (decU (Cu.mk (Cu.d (Prod.snd Q1)) (Cu.p (Prod.snd Q1)) (Cu.e (Prod.snd Q1)) (Cu.a (Prod.snd Q1))) (Hd.mk (Hd.v (Prod.fst Q1)) (Hd.iu (Prod.fst Q1)) (Hd.is (Prod.fst Q1)) (Hd.l (Prod.fst Q1)) (Hd.t (Prod.fst Q1)) (Hd.ty (Prod.fst Q1)) (Hd.c (Prod.fst Q1))) (IntKind.wrap .i64 ((4 : Int) + IntKind.wrap .i64 ((4 : Int) * kk))) (0 : Int)); let E1 : Prop := ((sm (St.mk (lapp [by' b, .dead, .ptr 0 0, .ptr 1 0, .ptr 2 0, i64 kk, .ptr 3 0, .ptr 4 0, i64 (IntKind.wrap .i64 ((4 : Int) + IntKind.wrap .i64 ((4 : Int) * kk)))] (lapp (dN 26) (lapp [.agg [i64 (Hd.v (Prod.fst Q1)), u32 (Hd.iu (Prod.fst Q1)), u32 (Hd.is (Prod.fst Q1)), u32 (Hd.l (Prod.fst Q1)), u32 (Hd.t (Prod.fst Q1)), u32 (Hd.ty (Prod.fst Q1)), u32 (Hd.c (Prod.fst Q1))], i64 (IntKind.wrap .i64 ((4 : Int) + IntKind.wrap .i64 ((4 : Int) * kk))), .imm (.int IntKind.u64 (sumU (Hd.mk (Hd.v (Prod.fst Q1)) (Hd.iu (Prod.fst Q1)) (Hd.is (Prod.fst Q1)) (Hd.l (Prod.fst Q1)) (Hd.t (Prod.fst Q1))
 (Hd.ty (Prod.fst Q1)) (Hd.c (Prod.fst Q1))) (IntKind.wrap .i64 ((4 : Int) + IntKind.wrap .i64 ((4 : Int) * kk))))), by' b, i64 (b.length : Int), .ptr 4 1, i64 (Cu.p (Prod.snd Q1)), i64 (IntKind.wrap .i64 ((b.length : Int) - Cu.p (Prod.snd Q1))), .imm (.int IntKind.u64 (IntKind.wrap IntKind.u64 (IntKind.wrap .i64 ((b.length : Int) - Cu.p (Prod.snd Q1))))), bo (decide (sumU (Hd.mk (Hd.v (Prod.fst Q1)) (Hd.iu (Prod.fst Q1)) (Hd.is (Prod.fst Q1)) (Hd.l (Prod.fst Q1)) (Hd.t (Prod.fst Q1)) (Hd.ty (Prod.fst Q1)) (Hd.c (Prod.fst Q1))) (IntKind.wrap .i64 ((4 : Int) + IntKind.wrap .i64 ((4 : Int) * kk))) > IntKind.wrap IntKind.u64 (IntKind.wrap .i64 ((b.length : Int) - Cu.p (Prod.snd Q1)))))] (dN 83)))) [(0, Ob.mk true 0 (AObj.cells [i64 0, i64 0])), (1, Ob.mk true 0 (AObj.cells [i64 A, i64 (IntKind.wrap .i64 (L + 6))])), (2, Ob.mk true 0 (AObj.cells [by' (Cu.d c), i64 (Cu.p c), i64 (Cu.e c), i64 (Cu.a c)])), (3, Ob.mk true 0 (AObj.cells [i64 (Hd.v (Prod.fst Q1)), u32 (Hd.iu (Prod.fst Q1)), u32 (Hd.is (Prod.fst Q1)), u32 (Hd.l (Prod.fst Q1)), u32 (Hd.t (Prod.fst Q1)), u32 (Hd.ty (Prod.fst Q1)), u32 (Hd.c (Prod.fst Q1))])), (4, Ob.mk true 0 (AObj.cells [by' (Cu.d (Prod.snd Q1)), i64 (Cu.p
 (Prod.snd Q1)), i64 (Cu.e (Prod.snd Q1)), i64 (Cu.a (Prod.snd Q1))]))] (5 : Nat) []))); brn (decide (kk < 2)) (okU (Cu.mk (Cu.d c) (Cu.p c) (Cu.e c) (Cu.a c)) ∧ brn (Cu.e (Prod.snd Q1) != 0) (k AX.ret (St.mk (lapp [by' b, .dead, .ptr 0 0, .ptr 1 0, .ptr 2 0, i64 kk, .ptr 3 0, .ptr 4 0] (lapp (dN 19) (lapp [.agg [i64 A, i64 L]] (dN 100)))) [(0, Ob.mk true 0 (AObj.cells [i64 A, i64 L])), (1, Ob.mk true 0 (AObj.cells [i64 A, i64 L])), (2, Ob.mk true 0 (AObj.cells [by' (Cu.d c), i64 (Cu.p c), i64 (Cu.e c), i64 (Cu.a c)])), (3, Ob.mk true 0 (AObj.cells [i64 (Hd.v (Prod.fst Q1)), u32 (Hd.iu (Prod.fst Q1)), u32 (Hd.is (Prod.fst Q1)), u32 (Hd.l (Prod.fst Q1)), u32 (Hd.t (Prod.fst Q1)), u32 (Hd.ty (Prod.fst Q1)), u32 (Hd.c (Prod.fst Q1))])), (4, Ob.mk true 0 (AObj.cells [by' (Cu.d (Prod.snd Q1)), i64 (Cu.p (Prod.snd Q1)), i64 (Cu.e (Prod.snd Q1)), i64 (Cu.a (Prod.snd Q1))]))] (5 : Nat) [])) (((okH (Hd.mk (Hd.v (Prod.fst Q1)) (Hd.iu (Prod.fst Q1)) (Hd.is (Prod.fst Q1)) (Hd.l (Prod.fst Q1)) (Hd.t (Prod.fst Q1)) (Hd.ty (Prod.fst Q1)) (Hd.c (Prod.fst Q1))) ∧ sz48 (IntKind.wrap .i64 ((4 : Int) + IntKind.wrap .i64 ((4 : Int) * kk))) ∧ E1) ∧ okH (Hd.mk (Hd.v (Prod.fst Q1)) (Hd.iu (Prod.fst Q1))
 (Hd.is (Prod.fst Q1)) (Hd.l (Prod.fst Q1)) (Hd.t (Prod.fst Q1)) (Hd.ty (Prod.fst Q1)) (Hd.c (Prod.fst Q1))) ∧ sz48 (IntKind.wrap .i64 ((4 : Int) + IntKind.wrap .i64 ((4 : Int) * kk))) ∧ E1) ∧ brn (decide (sumU (Hd.mk (Hd.v (Prod.fst Q1)) (Hd.iu (Prod.fst Q1)) (Hd.is (Prod.fst Q1)) (Hd.l (Prod.fst Q1)) (Hd.t (Prod.fst Q1)) (Hd.ty (Prod.fst Q1)) (Hd.c (Prod.fst Q1))) (IntKind.wrap .i64 ((4 : Int) + IntKind.wrap .i64 ((4 : Int) * kk))) > IntKind.wrap IntKind.u64 (IntKind.wrap .i64 ((b.length : Int) - Cu.p (Prod.snd Q1))))) (k AX.ret (St.mk (lapp [by' b, .dead, .ptr 0 0, .ptr 1 0, .ptr 2 0, i64 kk, .ptr 3 0, .ptr 4 0, i64 (IntKind.wrap .i64 ((4 : Int) + IntKind.wrap .i64 ((4 : Int) * kk)))] (lapp (dN 36) (lapp [.agg [i64 A, i64 (IntKind.wrap .i64 (L + 6))]] (dN 82)))) [(0, Ob.mk true 0 (AObj.cells [i64 A, i64 (IntKind.wrap .i64 (L + 6))])), (1, Ob.mk true 0 (AObj.cells [i64 A, i64 (IntKind.wrap .i64 (L + 6))])), (2, Ob.mk true 0 (AObj.cells [by' (Cu.d c), i64 (Cu.p c), i64 (Cu.e c), i64 (Cu.a c)])), (3, Ob.mk true 0 (AObj.cells [i64 (Hd.v (Prod.fst Q1)), u32 (Hd.iu (Prod.fst Q1)), u32 (Hd.is (Prod.fst Q1)), u32 (Hd.l (Prod.fst Q1)), u32 (Hd.t (Prod.fst Q1)), u32 (Hd.ty (Prod.fst Q1)),
 u32 (Hd.c (Prod.fst Q1))])), (4, Ob.mk true 0 (AObj.cells [by' (Cu.d (Prod.snd Q1)), i64 (Cu.p (Prod.snd Q1)), i64 (Cu.e (Prod.snd Q1)), i64 (Cu.a (Prod.snd Q1))]))] (5 : Nat) [])) (okH (Hd.mk (Hd.v (Prod.fst Q1)) (Hd.iu (Prod.fst Q1)) (Hd.is (Prod.fst Q1)) (Hd.l (Prod.fst Q1)) (Hd.t (Prod.fst Q1)) (Hd.ty (Prod.fst Q1)) (Hd.c (Prod.fst Q1))) ∧ okU (Cu.mk (Cu.d (Prod.snd Q1)) (Cu.p (Prod.snd Q1)) (Cu.e (Prod.snd Q1)) (Cu.a (Prod.snd Q1))) ∧ okH (Hd.mk (Hd.v (Prod.fst Q1)) (Hd.iu (Prod.fst Q1)) (Hd.is (Prod.fst Q1)) (Hd.l (Prod.fst Q1)) (Hd.t (Prod.fst Q1)) (Hd.ty (Prod.fst Q1)) (Hd.c (Prod.fst Q1))) ∧ sz48 (IntKind.wrap .i64 ((4 : Int) + IntKind.wrap .i64 ((4 : Int) * kk))) ∧ brn (Cu.e (Prod.snd Q2) != 0 || kk == 0 && Hd.v (Prod.fst Q1) == 1) (k AX.ret (St.mk (lapp [by' b, .dead, .ptr 0 0, .ptr 1 0, .ptr 2 0, i64 kk, .ptr 3 0, .ptr 4 0, i64 (IntKind.wrap .i64 ((4 : Int) + IntKind.wrap .i64 ((4 : Int) * kk))), i64 (IntKind.wrap .i64 (elems (Hd.mk (Hd.v (Prod.fst Q1)) (Hd.iu (Prod.fst Q1)) (Hd.is (Prod.fst Q1)) (Hd.l (Prod.fst Q1)) (Hd.t (Prod.fst Q1)) (Hd.ty (Prod.fst Q1)) (Hd.c (Prod.fst Q1))))), .ptr 5 0, .ptr 6 0] (lapp (dN 66) (lapp [.agg [i64 (IntKind.wrap .i64 (A + IntKind.wrap
 .i64 (elems (Hd.mk (Hd.v (Prod.fst Q1)) (Hd.iu (Prod.fst Q1)) (Hd.is (Prod.fst Q1)) (Hd.l (Prod.fst Q1)) (Hd.t (Prod.fst Q1)) (Hd.ty (Prod.fst Q1)) (Hd.c (Prod.fst Q1)))))), i64 (IntKind.wrap .i64 (IntKind.wrap .i64 (L + 6) + IntKind.wrap .i64 (elems (Hd.mk (Hd.v (Prod.fst Q1)) (Hd.iu (Prod.fst Q1)) (Hd.is (Prod.fst Q1)) (Hd.l (Prod.fst Q1)) (Hd.t (Prod.fst Q1)) (Hd.ty (Prod.fst Q1)) (Hd.c (Prod.fst Q1))))))]] (dN 49)))) [(0, Ob.mk true 0 (AObj.cells [i64 (IntKind.wrap .i64 (A + IntKind.wrap .i64 (elems (Hd.mk (Hd.v (Prod.fst Q1)) (Hd.iu (Prod.fst Q1)) (Hd.is (Prod.fst Q1)) (Hd.l (Prod.fst Q1)) (Hd.t (Prod.fst Q1)) (Hd.ty (Prod.fst Q1)) (Hd.c (Prod.fst Q1)))))), i64 (IntKind.wrap .i64 (IntKind.wrap .i64 (L + 6) + IntKind.wrap .i64 (elems (Hd.mk (Hd.v (Prod.fst Q1)) (Hd.iu (Prod.fst Q1)) (Hd.is (Prod.fst Q1)) (Hd.l (Prod.fst Q1)) (Hd.t (Prod.fst Q1)) (Hd.ty (Prod.fst Q1)) (Hd.c (Prod.fst Q1))))))])), (1, Ob.mk true 0 (AObj.cells [i64 (IntKind.wrap .i64 (A + IntKind.wrap .i64 (elems (Hd.mk (Hd.v (Prod.fst Q1)) (Hd.iu (Prod.fst Q1)) (Hd.is (Prod.fst Q1)) (Hd.l (Prod.fst Q1)) (Hd.t (Prod.fst Q1)) (Hd.ty (Prod.fst Q1)) (Hd.c (Prod.fst Q1)))))), i64 (IntKind.wrap .i64 (IntKind.wrap .i64
 (L + 6) + IntKind.wrap .i64 (elems (Hd.mk (Hd.v (Prod.fst Q1)) (Hd.iu (Prod.fst Q1)) (Hd.is (Prod.fst Q1)) (Hd.l (Prod.fst Q1)) (Hd.t (Prod.fst Q1)) (Hd.ty (Prod.fst Q1)) (Hd.c (Prod.fst Q1))))))])), (2, Ob.mk true 0 (AObj.cells [by' (Cu.d c), i64 (Cu.p c), i64 (Cu.e c), i64 (Cu.a c)])), (3, Ob.mk true 0 (AObj.cells [i64 (Hd.v (Prod.fst Q1)), u32 (Hd.iu (Prod.fst Q1)), u32 (Hd.is (Prod.fst Q1)), u32 (Hd.l (Prod.fst Q1)), u32 (Hd.t (Prod.fst Q1)), u32 (Hd.ty (Prod.fst Q1)), u32 (Hd.c (Prod.fst Q1))])), (4, Ob.mk true 0 (AObj.cells [by' (Cu.d (Prod.snd Q1)), i64 (Cu.p (Prod.snd Q1)), i64 (Cu.e (Prod.snd Q1)), i64 (Cu.a (Prod.snd Q1))])), (5, Ob.mk true 0 (AObj.cells [.imm (.ints IntKind.i64 (Bk.T (Prod.fst Q2))), by' (Bk.I (Prod.fst Q2)), .imm (.sl (3 : Nat) (List.map cellsT (Bk.X (Prod.fst Q2)))), by' (Bk.C (Prod.fst Q2)), .imm (.sl (2 : Nat) (List.map cellsL (Bk.L (Prod.fst Q2)))), .imm (.bools (Bk.S (Prod.fst Q2))), .imm (.bools (Bk.U (Prod.fst Q2)))])), (6, Ob.mk true 0 (AObj.cells [by' (Cu.d (Prod.snd Q2)), i64 (Cu.p (Prod.snd Q2)), i64 (Cu.e (Prod.snd Q2)), i64 (Cu.a (Prod.snd Q2))]))] (7 : Nat) [])) (k AX.normal (St.mk (lapp [by' b, .dead, .ptr 0 0, .ptr 1 0, .ptr 2 0, i64
 (IntKind.wrap .i64 (kk + 1)), .ptr 3 0, .ptr 4 0, i64 (IntKind.wrap .i64 ((4 : Int) + IntKind.wrap .i64 ((4 : Int) * kk))), i64 (IntKind.wrap .i64 (elems (Hd.mk (Hd.v (Prod.fst Q1)) (Hd.iu (Prod.fst Q1)) (Hd.is (Prod.fst Q1)) (Hd.l (Prod.fst Q1)) (Hd.t (Prod.fst Q1)) (Hd.ty (Prod.fst Q1)) (Hd.c (Prod.fst Q1))))), .ptr 5 0, .ptr 6 0] (lapp (dN 5) (lapp [i64 kk, i64 (IntKind.wrap .i64 (kk + 1))] (dN 109)))) [(0, Ob.mk true 0 (AObj.cells [i64 0, i64 0])), (1, Ob.mk true 0 (AObj.cells [i64 (IntKind.wrap .i64 (A + IntKind.wrap .i64 (elems (Hd.mk (Hd.v (Prod.fst Q1)) (Hd.iu (Prod.fst Q1)) (Hd.is (Prod.fst Q1)) (Hd.l (Prod.fst Q1)) (Hd.t (Prod.fst Q1)) (Hd.ty (Prod.fst Q1)) (Hd.c (Prod.fst Q1)))))), i64 (IntKind.wrap .i64 (IntKind.wrap .i64 (L + 6) + IntKind.wrap .i64 (elems (Hd.mk (Hd.v (Prod.fst Q1)) (Hd.iu (Prod.fst Q1)) (Hd.is (Prod.fst Q1)) (Hd.l (Prod.fst Q1)) (Hd.t (Prod.fst Q1)) (Hd.ty (Prod.fst Q1)) (Hd.c (Prod.fst Q1))))))])), (2, Ob.mk true 0 (AObj.cells [by' (Cu.d (Prod.snd Q2)), i64 (Cu.p (Prod.snd Q2)), i64 (Cu.e (Prod.snd Q2)), i64 (Cu.a (Prod.snd Q2))])), (3, Ob.mk true 0 (AObj.cells [i64 (Hd.v (Prod.fst Q1)), u32 (Hd.iu (Prod.fst Q1)), u32 (Hd.is (Prod.fst Q1)), u32 (Hd.l
 (Prod.fst Q1)), u32 (Hd.t (Prod.fst Q1)), u32 (Hd.ty (Prod.fst Q1)), u32 (Hd.c (Prod.fst Q1))])), (4, Ob.mk true 0 (AObj.cells [by' (Cu.d (Prod.snd Q1)), i64 (Cu.p (Prod.snd Q1)), i64 (Cu.e (Prod.snd Q1)), i64 (Cu.a (Prod.snd Q1))])), (5, Ob.mk true 0 (AObj.cells [.imm (.ints IntKind.i64 (Bk.T (Prod.fst Q2))), by' (Bk.I (Prod.fst Q2)), .imm (.sl (3 : Nat) (List.map cellsT (Bk.X (Prod.fst Q2)))), by' (Bk.C (Prod.fst Q2)), .imm (.sl (2 : Nat) (List.map cellsL (Bk.L (Prod.fst Q2)))), .imm (.bools (Bk.S (Prod.fst Q2))), .imm (.bools (Bk.U (Prod.fst Q2)))])), (6, Ob.mk true 0 (AObj.cells [by' (Cu.d (Prod.snd Q2)), i64 (Cu.p (Prod.snd Q2)), i64 (Cu.e (Prod.snd Q2)), i64 (Cu.a (Prod.snd Q2))]))] (7 : Nat) []))))) (k (AX.exit (0 : Nat)) (St.mk (lapp [by' b, .dead, .ptr 0 0, .ptr 1 0, .ptr 2 0, i64 kk] (lapp (dN 9) (lapp [i64 kk, bo (decide (kk < 2))] (dN 111)))) [(0, Ob.mk true 0 (AObj.cells [i64 0, i64 0])), (1, Ob.mk true 0 (AObj.cells [i64 A, i64 L])), (2, Ob.mk true 0 (AObj.cells [by' (Cu.d c), i64 (Cu.p c), i64 (Cu.e c), i64 (Cu.a c)]))] (3 : Nat) []))) := by kernel_rfl
theorem g9_out (b : List UInt8) (A : Int) (L : Int) (c : Cu) (kk : Int) (K : List AV → Prop) : loopK L8 (bodyOf Tryz.f9) (0 : Nat) (finK L8 Tryz.f9 K) (AX.exit (0 : Nat)) (oM9 b A L c kk) = ((decide (Cu.p c ≥ (b.length : Int)) = false → (0 : Int) ≤ Cu.p c) ∧ (decide (Cu.p c ≥ (b.length : Int)) = false → Cu.p c < (b.length : Int)) ∧ brn (decide (Cu.p c ≥ (b.length : Int)) || (↑(UInt8.toNat (List.getD b (Cu.p c).toNat (0 : UInt8))) : Int) != 10) (K [.agg [i64 A, i64 L]]) (LoopI L8 (bodyOf Tryz.f9) (1 : Nat) (St.mk (lapp [by' b, .dead, .ptr 0 0, .ptr 1 0, .ptr 2 0, i64 kk] (lapp (dN 6) (lapp [i64 (IntKind.wrap .i64 (Cu.p c + 1))] (lapp (dN 81) (lapp [.ptr 2 1, i64 (Cu.p c), i64 (IntKind.wrap .i64 (Cu.p c + 1))] (dN 31)))))) [(0, Ob.mk true 0 (AObj.cells [i64 0, i64 0])), (1, Ob.mk true 0 (AObj.cells [i64 A, i64 L])), (2, Ob.mk true 0 (AObj.cells [by' (Cu.d c), i64 (Cu.p c), i64 (Cu.e c), i64 (Cu.a c)]))] (3 : Nat) []) (finK L8 Tryz.f9 K))) := by kernel_rfl
theorem g9_lp2 (b : List UInt8) (A : Int) (L : Int) (c : Cu) (i : Int) (k : AX → St → Prop) : evCode L8 (loopB (bodyOf Tryz.f9) (1 : Nat)) (hF9 b A L c i) k = (brn (decide (i < (b.length : Int))) ((0 : Int) ≤ i ∧ i < (b.length : Int) ∧ brn ((↑(UInt8.toNat (List.getD b i.toNat (0 : UInt8))) : Int) == 10) (k AX.ret (St.mk (lapp [by' b, .dead, .ptr 0 0, .ptr 1 0, .ptr 2 0] (lapp (dN 7) (lapp [i64 i] (lapp (dN 113) [.agg [i64 (IntKind.wrap .i64 (IntKind.wrap .i64 (IntKind.wrap .i64 (A + i) - Cu.p c) - 1)), i64 (IntKind.wrap .i64 (IntKind.wrap .i64 (IntKind.wrap .i64 (L + i) - Cu.p c) - 1))], .dead])))) [(0, Ob.mk true 0 (AObj.cells [i64 (IntKind.wrap .i64 (IntKind.wrap .i64 (IntKind.wrap .i64 (A + i) - Cu.p c) - 1)), i64 (IntKind.wrap .i64 (IntKind.wrap .i64 (IntKind.wrap .i64 (L + i) - Cu.p c) - 1))])), (1, Ob.mk true 0 (AObj.cells [i64 (IntKind.wrap .i64 (IntKind.wrap .i64 (IntKind.wrap .i64 (A + i) - Cu.p c) - 1)), i64 (IntKind.wrap .i64 (IntKind.wrap .i64 (IntKind.wrap .i64 (L + i) - Cu.p c) - 1))])), (2, Ob.mk true 0 (AObj.cells [by' (Cu.d c), i64 (Cu.p c), i64 (Cu.e c), i64 (Cu.a c)]))] (3 : Nat) [])) (k AX.normal (St.mk (lapp [by' b, .dead, .ptr 0 0, .ptr 1 0, .ptr 2 0] (lapp (dN
 7) (lapp [i64 (IntKind.wrap .i64 (i + 1))] (lapp (dN 88) (lapp [i64 i, i64 (IntKind.wrap .i64 (i + 1))] (dN 25)))))) [(0, Ob.mk true 0 (AObj.cells [i64 0, i64 0])), (1, Ob.mk true 0 (AObj.cells [i64 A, i64 L])), (2, Ob.mk true 0 (AObj.cells [by' (Cu.d c), i64 (Cu.p c), i64 (Cu.e c), i64 (Cu.a c)]))] (3 : Nat) []))) (k (AX.exit (2 : Nat)) (St.mk (lapp [by' b, .dead, .ptr 0 0, .ptr 1 0, .ptr 2 0] (lapp (dN 7) (lapp [i64 i] (lapp (dN 84) (lapp [i64 i, by' b, i64 (b.length : Int), bo (decide (i < (b.length : Int)))] (dN 27)))))) [(0, Ob.mk true 0 (AObj.cells [i64 0, i64 0])), (1, Ob.mk true 0 (AObj.cells [i64 A, i64 L])), (2, Ob.mk true 0 (AObj.cells [by' (Cu.d c), i64 (Cu.p c), i64 (Cu.e c), i64 (Cu.a c)]))] (3 : Nat) []))) := by kernel_rfl
end Y27
set_option maxRecDepth 100000
namespace Y27
open Go Go.AE Go.Proofs E6
attribute [local irreducible] loopK evCode evSpec loopB norm
theorem adv_stick {c : Cu} (h : c.e ≠ 0) (n : Int) : advU c n = c := by unfold advU; rw [if_neg h]
theorem advOk_stick {c : Cu} (h : c.e ≠ 0) (n : Int) : advOk c n = false := by
  unfold advOk
  exact decide_eq_false (fun x => h x.1)
theorem exp_stick {c : Cu} (h : c.e ≠ 0) (w : List UInt8) (y : Int) : expU c w y = c := by
  unfold expU
  rw [if_neg (by rw [advOk_stick h]; decide), adv_stick h]
theorem ver_stick {c : Cu} (h : c.e ≠ 0) : verU c = (0, c) := by
  unfold verU
  rw [adv_stick h, if_pos h]
theorem hd_err {c : Cu} (h : (hq9 c).e ≠ 0) : hdU c = (zH, hq9 c) := by
  unfold hdU
  rw [if_neg h]
theorem hq9_of3 {c : Cu} (h : (hq3 c).e ≠ 0) : hq9 c = hq3 c := by
  have h4 : hq4 c = hq3 c := adv_stick h 4
  have h5 : hq5 c = hq3 c := by unfold hq5; rw [h4]; exact adv_stick h 4
  have h6 : hq6 c = hq3 c := by unfold hq6; rw [h5]; exact adv_stick h 4
  have h7 : hq7 c = hq3 c := by unfold hq7; rw [h6]; exact adv_stick h 4
  have h8 : hq8 c = hq3 c := by unfold hq8; rw [h7]; exact adv_stick h 4
  unfold hq9; rw [h8]; exact adv_stick h 4
theorem hq9_of2 {c : Cu} (h : (hq2 c).2.e ≠ 0) : hq9 c = (hq2 c).2 := by
  have h3 : hq3 c = (hq2 c).2 := exp_stick h _ _
  rw [hq9_of3 (by rw [h3]; exact h), h3]
theorem hd_err2 {c : Cu} (h : (hq2 c).2.e ≠ 0) : hdU c = (zH, (hq2 c).2) := by
  rw [hd_err (by rw [hq9_of2 h]; exact h), hq9_of2 h]
theorem hd_err1 {c : Cu} (h : (hq1 c).e ≠ 0) : hdU c = (zH, hq1 c) := by
  have h2 : hq2 c = (0, hq1 c) := ver_stick h
  have h' : (hq2 c).2.e ≠ 0 := by rw [h2]; exact h
  rw [hd_err2 h', h2]
def verK (x k : Int) : Int := if verB x < k then verB x else 0
theorem verK_step {x k : Int} (k1 : 1 ≤ k) (k4 : k ≤ 4) : verK x (k + 1) = if IntKind.wrap IntKind.u64 (if k = 1 then 0 else 48 + k) = x then k else verK x k := by
  rw [wrapU (n := if k = 1 then 0 else 48 + k) (by split <;> omega) (by split <;> omega)]
  have hk : k = 1 ∨ k = 2 ∨ k = 3 ∨ k = 4 := by omega
  unfold verK verB
  rcases hk with rfl | rfl | rfl | rfl <;> (repeat' split) <;> omega
theorem verK_1 (x : Int) : verK x 1 = 0 := by
  unfold verK verB
  (repeat' split) <;> omega
theorem verK_5 (x : Int) : verK x 5 = verB x := by
  unfold verK verB
  (repeat' split) <;> omega
def qk (c : Cu) : Nat → Cu
  | 0 => hq3 c
  | n + 1 => advU (qk c n) 4
def nsK (c : Cu) : Nat → List Int
  | 0 => []
  | n + 1 => nsK c n ++ [num4 (qk c n)]
theorem nsK_len (c : Cu) : ∀ n, (nsK c n).length = n
  | 0 => rfl
  | n + 1 => by simp [nsK, nsK_len c n]
theorem qk_ok {c : Cu} (h : okU (hq3 c)) : ∀ n, okU (qk c n)
  | 0 => h
  | n + 1 => okU_adv (qk_ok h n)
theorem qk_6 (c : Cu) : qk c 6 = hq9 c := rfl
theorem ns_6 (c : Cu) : nsK c 6 = [num4 (hq3 c), num4 (hq4 c), num4 (hq5 c), num4 (hq6 c), num4 (hq7 c), num4 (hq8 c)] := rfl
set_option maxHeartbeats 4000000 in
theorem g23_ev2 (d : List UInt8) (p e a : Int) (c : Cu) (v : Int) (h3 : okU (hq3 c)) (K : List AV → Prop)
    (hK : K [(if (hq9 c).e = 0 then (if consH ⟨v, num4 (hq3 c), num4 (hq4 c), num4 (hq5 c), num4 (hq6 c), num4 (hq7 c), num4 (hq8 c)⟩ then ((⟨v, num4 (hq3 c), num4 (hq4 c), num4 (hq5 c), num4 (hq6 c), num4 (hq7 c), num4 (hq8 c)⟩ : Hd), hq9 c) else (zH, failU (hq9 c) 6 p)) else (zH, hq9 c)).1.av,
      (if (hq9 c).e = 0 then (if consH ⟨v, num4 (hq3 c), num4 (hq4 c), num4 (hq5 c), num4 (hq6 c), num4 (hq7 c), num4 (hq8 c)⟩ then ((⟨v, num4 (hq3 c), num4 (hq4 c), num4 (hq5 c), num4 (hq6 c), num4 (hq7 c), num4 (hq8 c)⟩ : Hd), hq9 c) else (zH, failU (hq9 c) 6 p)) else (zH, hq9 c)).2.av])
    (pl : Plan) (st : St) (hn : norm pl st = some (hN23 d p e a v (hq3 c) [] 0)) : LoopI L6 (bodyOf Tryz.f23) 1 st (finK L6 Tryz.f23 K) := by
  unfold LoopI
  refine loop_rule (fun i : Nat => hN23 d p e a v (qk c i) (nsK c i) i) (fun i => i ≤ 6) (fun i => 6 - i) (fun i hi K' hnorm hexit => ?_) rfl 0 pl _ (by omega) hn
  rw [g23_lp2]
  intro Q1
  refine brn_intro (fun h1 => ?_) (fun h1 => ?_)
  · simp only [decide_eq_true_eq] at h1
    have e2 : IntKind.wrap .i64 ((i : Int) + 1) = ((i + 1 : Nat) : Int) := by rw [wrap64 (by omega) (by omega)]; rfl
    simp only [e2]
    have hl : (nsK c i).length + 1 = i + 1 := by rw [nsK_len]
    refine ⟨qk_ok h3 i, by decide, by decide, ?_, ?_, hnorm (i + 1) pN23 _ (by omega) (by omega) (by kernel_rfl)⟩
    · show ((nsK c i).length + 1) * 4 ≤ _
      rw [hl]; omega
    · show (nsK c i).length + 1 ≤ _
      rw [hl]; omega
  · simp only [decide_eq_false_iff_not] at h1
    have hi6 : i = 6 := by omega
    subst hi6
    have key : loopK L6 (bodyOf Tryz.f23) 1 (finK L6 Tryz.f23 K) (AX.exit 2) (oN23 d p e a v (qk c 6) (nsK c 6) ((6 : Nat) : Int)) := by
      refine Eq.mpr (g23_out2 d p e a v (qk c 6) (nsK c 6) _ K) ?_
      intro E1 E2 E3
      rw [qk_6, ns_6]
      have l6 : (([num4 (hq3 c), num4 (hq4 c), num4 (hq5 c), num4 (hq6 c), num4 (hq7 c), num4 (hq8 c)] : List Int).length : Int) = 6 := rfl
      refine brn_intro (fun he => ?_) (fun he => ?_)
      · have he' : ¬ ((hq9 c).e = 0) := by simpa using he
        rw [if_neg he'] at hK
        exact ⟨rfl, hK⟩
      · have he' : (hq9 c).e = 0 := by simpa using he
        rw [if_pos he'] at hK
        refine ⟨by decide, by rw [l6]; decide, by decide, by rw [l6]; decide, by decide, by rw [l6]; decide, by decide, by rw [l6]; decide, by decide, by rw [l6]; decide, by decide, by rw [l6]; decide, brn_intro (fun hc => ?_) (fun hc => ?_)⟩
        · have hc' : consH ⟨v, num4 (hq3 c), num4 (hq4 c), num4 (hq5 c), num4 (hq6 c), num4 (hq7 c), num4 (hq8 c)⟩ = false := by simpa using hc
          rw [hc'] at hK
          exact ⟨rfl, hK⟩
        · have hc' : consH ⟨v, num4 (hq3 c), num4 (hq4 c), num4 (hq5 c), num4 (hq6 c), num4 (hq7 c), num4 (hq8 c)⟩ = true := by simpa using hc
          rw [if_pos hc'] at hK
          exact ⟨rfl, hK⟩
    exact hexit _ _ (by simp) (Eq.mp (by kernel_rfl) key)
set_option maxHeartbeats 4000000 in
theorem g23_ev (d : List UInt8) (p e a : Int) (hu : okU ⟨d, p, e, a⟩) (K : List AV → Prop) (hK : K [(hdU ⟨d, p, e, a⟩).1.av, (hdU ⟨d, p, e, a⟩).2.av]) : evSpec L6 Tryz.f23 [curAV d p e a] K := by
  refine Eq.mpr (g23_in d p e a K) ?_
  intro Q1 Q2 E1 E2
  have h1 : Q1 = hq1 ⟨d, p, e, a⟩ := rfl
  have o1 : okU Q1 := okU_exp hu
  have o2 : okU Q2 := okU_adv o1
  refine ⟨hu, by decide, brn_intro (fun he => ⟨rfl, ?_⟩) (fun he => ⟨o1, by decide, by decide, brn_intro (fun h2 => ⟨rfl, ?_⟩) (fun h2 => ?_)⟩)⟩
  · have he' : (hq1 ⟨d, p, e, a⟩).e ≠ 0 := by rw [← h1]; simpa using he
    rw [hd_err1 he'] at hK
    exact hK
  · have hv : hq2 ⟨d, p, e, a⟩ = (0, Q2) := by
      show verU (hq1 ⟨d, p, e, a⟩) = _
      unfold verU
      rw [← h1, if_pos (show Cu.e (advU Q1 1) ≠ 0 from by simpa using h2)]
    have h2' : (hq2 ⟨d, p, e, a⟩).2.e ≠ 0 := by rw [hv]; simpa using h2
    rw [hd_err2 h2', hv] at hK
    exact hK
  · have he1 : Q1.e = 0 := by simpa using he
    have he2 : ¬ (Cu.e (advU Q1 1) ≠ 0) := by simpa using h2
    have hv : hq2 ⟨d, p, e, a⟩ = if verB (uintP (takeU Q1 1) 0 1) = 0 then (0, failU Q1 4 Q1.p) else (verB (uintP (takeU Q1 1) 0 1), Q2) := by
      show verU (hq1 ⟨d, p, e, a⟩) = _
      unfold verU
      rw [← h1, if_neg he2]
    have hx0 : (0 : Int) ≤ ((uintP (takeU Q1 1) 0 1 : Nat) : Int) := by omega
    generalize hx : ((uintP (takeU Q1 1) 0 1 : Nat) : Int) = x at hv hx0
    have hst : ∀ y : Int, y = x → ∀ Z : Prop, (LoopI L6 (bodyOf Tryz.f23) 0 (hV23 d p e a Q1 x Q2 0 1) (finK L6 Tryz.f23 K)) → True := fun _ _ _ _ => trivial
    unfold LoopI
    refine loop_rule (fun s : Int × Int => hV23 d p e a Q1 x Q2 s.2 s.1) (fun s => 1 ≤ s.1 ∧ s.1 ≤ 5 ∧ s.2 = verK x s.1) (fun s => (5 - s.1).toNat) (fun s hP K' hnorm hexit => ?_) rfl (1, 0) pV23 _ ⟨by decide, by decide, (verK_1 x).symm⟩ (by rw [← hx]; kernel_rfl)
    obtain ⟨kk, v⟩ := s
    obtain ⟨k1, k5, hvv⟩ := hP
    simp only at k1 k5 hvv
    rw [g23_lp]
    refine brn_intro (fun h3 => ?_) (fun h3 => ?_)
    · simp only [decide_eq_true_eq] at h3
      have e2 : IntKind.wrap .i64 (kk + 1) = kk + 1 := wrap64 (by omega) (by omega)
      have hs := verK_step (x := x) k1 h3
      simp only [e2]
      refine ⟨k1, h3, brn_intro (fun h4 => ?_) (fun h4 => ?_)⟩
      · rw [if_pos (by simpa using h4)] at hs
        exact hnorm (kk + 1, kk) pV23 _ ⟨by show 1 ≤ kk + 1; omega, by show kk + 1 ≤ 5; omega, hs.symm⟩ (by show (5 - (kk + 1)).toNat < (5 - kk).toNat; omega) (by kernel_rfl)
      · rw [if_neg (by simpa using h4)] at hs
        exact hnorm (kk + 1, v) pV23 _ ⟨by show 1 ≤ kk + 1; omega, by show kk + 1 ≤ 5; omega, by show v = verK x (kk + 1); rw [hs, hvv]⟩ (by show (5 - (kk + 1)).toNat < (5 - kk).toNat; omega) (by kernel_rfl)
    · simp only [decide_eq_false_iff_not] at h3
      have hk5 : kk = 5 := by omega
      subst hk5
      have hv5 : v = verB x := by rw [hvv, verK_5]
      have key : loopK L6 (bodyOf Tryz.f23) 0 (finK L6 Tryz.f23 K) (AX.exit 0) (oV23 d p e a Q1 x Q2 v 5) := by
        refine Eq.mpr (g23_out d p e a Q1 x Q2 v 5 K) ?_
        intro Q3 E1 E2
        refine brn_intro (fun h0 => ⟨rfl, ?_⟩) (fun h0 => ⟨⟨by decide, by decide, by decide, by decide, o2, by decide, rfl⟩, ?_⟩)
        · have h0' : verB x = 0 := by rw [← hv5]; simpa using h0
          rw [if_pos h0'] at hv
          have hf : (failU Q1 4 Q1.p).e ≠ 0 := by
            unfold failU
            rw [if_pos ⟨he1, by decide⟩]
            show (4 : Int) ≠ 0
            decide
          have h2' : (hq2 ⟨d, p, e, a⟩).2.e ≠ 0 := by rw [hv]; exact hf
          rw [hd_err2 h2', hv] at hK
          exact hK
        · have h0' : ¬ (verB x = 0) := by rw [← hv5]; simpa using h0
          rw [if_neg h0'] at hv
          have h3' : Q3 = hq3 ⟨d, p, e, a⟩ := by
            show expU Q2 z15 5 = expU (hq2 ⟨d, p, e, a⟩).2 z15 5
            rw [hv]
          have o3 : okU (hq3 ⟨d, p, e, a⟩) := by rw [← h3']; exact okU_exp o2
          have hvv' : (hq2 ⟨d, p, e, a⟩).1 = v := by rw [hv, hv5]
          refine g23_ev2 d p e a ⟨d, p, e, a⟩ v o3 K ?_ pN23i _ (by rw [← h3']; kernel_rfl)
          have hh : hdRd ⟨d, p, e, a⟩ = ⟨v, num4 (hq3 ⟨d, p, e, a⟩), num4 (hq4 ⟨d, p, e, a⟩), num4 (hq5 ⟨d, p, e, a⟩), num4 (hq6 ⟨d, p, e, a⟩), num4 (hq7 ⟨d, p, e, a⟩), num4 (hq8 ⟨d, p, e, a⟩)⟩ := by
            unfold hdRd
            rw [hvv']
          unfold hdU at hK
          rw [hh] at hK
          exact hK
      exact hexit _ _ (by simp) (Eq.mp (by kernel_rfl) key)
theorem ok23h : ∀ args pres res, sHdD args = some (pres, res) → SpecOK Tryz.prog G16 23 args pres res := by
  intro args pres res h
  unfold sHdD at h
  split at h
  case h_2 => cases h
  cases h
  exact spec_ok (C := L6) okF9 noCall_ok Tryz.func23 (by kernel_rfl) (by kernel_rfl) (fun hp => g23_ev _ _ _ _ (hp _ (by simp)) _ rfl)
theorem okF10 : EOK Tryz.prog F10 G16 := addE_ok (addE_ok okF9 ok23h) ok54
end Y27
set_option maxRecDepth 100000
namespace Y27
open Go Go.AE Go.Proofs E6
theorem adv_d (c : Cu) (n : Int) : (advU c n).d = c.d := by
  unfold advU; split
  · split <;> rfl
  · rfl
theorem fail_d (c : Cu) (y a : Int) : (failU c y a).d = c.d := by
  unfold failU; split <;> rfl
theorem exp_d (c : Cu) (w : List UInt8) (y : Int) : (expU c w y).d = c.d := by
  unfold expU; split
  · split
    · exact adv_d ..
    · exact fail_d ..
  · exact adv_d ..
theorem ver_d (c : Cu) : (verU c).2.d = c.d := by
  unfold verU; split
  · exact adv_d ..
  · split
    · exact fail_d ..
    · exact adv_d ..
theorem hq1_d (c : Cu) : (hq1 c).d = c.d := exp_d ..
theorem hq2_d (c : Cu) : (hq2 c).2.d = c.d := (ver_d _).trans (hq1_d c)
theorem hq3_d (c : Cu) : (hq3 c).d = c.d := (exp_d ..).trans (hq2_d c)
theorem hq9_d (c : Cu) : (hq9 c).d = c.d := by
  show (advU (advU (advU (advU (advU (advU (hq3 c) 4) 4) 4) 4) 4) 4).d = _
  simp only [adv_d, hq3_d]
theorem hd_d (c : Cu) : (hdU c).2.d = c.d := by
  unfold hdU; split
  · split
    · exact hq9_d c
    · exact (fail_d ..).trans (hq9_d c)
  · exact hq9_d c
theorem hd_e (c : Cu) (h : (hdU c).2.e = 0) : (hq9 c).e = 0 ∧ consH (hdRd c) = true ∧ hdU c = (hdRd c, hq9 c) := by
  by_cases h9 : (hq9 c).e = 0
  · cases hc : consH (hdRd c) with
    | true =>
      refine ⟨h9, rfl, ?_⟩
      unfold hdU
      rw [if_pos h9, if_pos hc]
    | false =>
      exfalso
      unfold hdU at h
      rw [if_pos h9, hc] at h
      simp only [Bool.false_eq_true, if_false] at h
      rw [fail_e6 h9] at h
      cases h
  · rw [hd_err h9] at h
    exact absurd h h9
theorem adv_e0 {c : Cu} {n : Int} (h : (advU c n).e = 0) : c.e = 0 ∧ 0 ≤ n ∧ n ≤ restU c ∧ advU c n = ⟨c.d, c.p + n, 0, c.a⟩ := by
  by_cases he : c.e = 0
  · by_cases hn : 0 ≤ n ∧ n ≤ restU c
    · refine ⟨he, hn.1, hn.2, ?_⟩
      unfold advU
      rw [if_pos he, if_pos hn]
    · exfalso
      unfold advU at h
      rw [if_pos he, if_neg hn] at h
      cases h
  · rw [adv_stick he] at h
    exact absurd h he
theorem exp_e0 {c : Cu} {w : List UInt8} {y : Int} (hy : y ≠ 0) (h : (expU c w y).e = 0) : c.e = 0 ∧ (w.length : Int) ≤ restU c ∧ misI (c.d.drop c.p.toNat) w = none ∧ expU c w y = ⟨c.d, c.p + w.length, 0, c.a⟩ := by
  by_cases hok : advOk c w.length = true
  · have hok' : c.e = 0 ∧ 0 ≤ (w.length : Int) ∧ (w.length : Int) ≤ restU c := by
      unfold advOk at hok
      exact of_decide_eq_true hok
    unfold expU at h ⊢
    rw [if_pos hok] at h ⊢
    cases hm : misI (c.d.drop c.p.toNat) w with
    | none =>
      rw [hm] at h
      exact ⟨hok'.1, hok'.2.2, rfl, (adv_e0 h).2.2.2⟩
    | some i =>
      exfalso
      rw [hm] at h
      simp only at h
      unfold failU at h
      rw [if_pos ⟨hok'.1, hy⟩] at h
      exact hy h
  · unfold expU at h
    rw [if_neg hok] at h
    obtain ⟨a1, a2, a3, _⟩ := adv_e0 h
    exfalso
    apply hok
    unfold advOk
    exact decide_eq_true ⟨a1, a2, a3⟩
theorem ver_e0 {c : Cu} (h : (verU c).2.e = 0) : c.e = 0 ∧ 1 ≤ restU c ∧ verB (uintP (takeU c 1) 0 1) ≠ 0 ∧ verU c = (verB (uintP (takeU c 1) 0 1), ⟨c.d, c.p + 1, 0, c.a⟩) := by
  by_cases he : Cu.e (advU c 1) ≠ 0
  · unfold verU at h
    rw [if_pos he] at h
    exact absurd h he
  · have he' : Cu.e (advU c 1) = 0 := Classical.byContradiction he
    obtain ⟨a1, a2, a3, a4⟩ := adv_e0 he'
    by_cases hv : verB (uintP (takeU c 1) 0 1) = 0
    · exfalso
      unfold verU at h
      rw [if_neg he, if_pos hv] at h
      unfold failU at h
      rw [if_pos ⟨a1, by decide⟩] at h
      cases h
    · refine ⟨a1, a3, hv, ?_⟩
      unfold verU
      rw [if_neg he, if_neg hv, a4]
theorem num4_rng (c : Cu) : U32 (num4 c) := by
  unfold num4 U32
  have : ∀ n : Int, 0 ≤ IntKind.wrap .u32 n ∧ IntKind.wrap .u32 n ≤ 4294967295 := by
    intro n
    have : IntKind.wrap .u32 n = n % 4294967296 := by
      unfold IntKind.wrap
      simp only [IntKind.signed, IntKind.bits, Bool.false_and, Bool.false_eq_true, if_false]
      omega
    rw [this]; omega
  exact this _
theorem okH_rd (c : Cu) : okH (hdRd c) := ⟨num4_rng _, num4_rng _, num4_rng _, num4_rng _, num4_rng _, num4_rng _⟩
theorem okH_zero : okH zH := by
  have : U32 0 := by unfold U32; omega
  exact ⟨this, this, this, this, this, this⟩
theorem okH_hd (c : Cu) : okH (hdU c).1 := by
  unfold hdU; split
  · split
    · exact okH_rd c
    · exact okH_zero
  · exact okH_zero
theorem okU_9 {c : Cu} (h : okU c) : okU (hq9 c) :=
  okU_adv (okU_adv (okU_adv (okU_adv (okU_adv (okU_adv (okU_exp (okU_ver (okU_exp h))))))))
theorem okU_hd {c : Cu} (h : okU c) : okU (hdU c).2 := by
  unfold hdU; split
  · split
    · exact okU_9 h
    · exact okU_fail (okU_9 h)
  · exact okU_9 h
theorem restU_of {c : Cu} (h : c.e = 0) : restU c = (c.d.length : Int) - c.p := by unfold restU; rw [if_pos h]
theorem restU_rng {c : Cu} (h : okU c) : 0 ≤ restU c ∧ restU c ≤ 1000000000000 := by
  obtain ⟨h1, h2, h3⟩ := h
  unfold restU; split <;> omega
theorem hd_pos {c : Cu} (h : (hdU c).2.e = 0) : c.e = 0 ∧ (hdU c).2 = ⟨c.d, c.p + 44, 0, c.a⟩ ∧ c.p + 44 ≤ c.d.length ∧ (hdU c).1.v ≠ 0 ∧ (hdU c).1 = hdRd c := by
  obtain ⟨h9, hc, he⟩ := hd_e c h
  obtain ⟨a8, _, b8, c8⟩ := adv_e0 (c := hq8 c) h9
  obtain ⟨a7, _, b7, c7⟩ := adv_e0 (c := hq7 c) a8
  obtain ⟨a6, _, b6, c6⟩ := adv_e0 (c := hq6 c) a7
  obtain ⟨a5, _, b5, c5⟩ := adv_e0 (c := hq5 c) a6
  obtain ⟨a4, _, b4, c4⟩ := adv_e0 (c := hq4 c) a5
  obtain ⟨a3, _, b3, c3⟩ := adv_e0 (c := hq3 c) a4
  obtain ⟨a2, b2, m2, c2⟩ := exp_e0 (c := (hq2 c).2) (by decide) a3
  obtain ⟨a1, b1, m1, c1⟩ := ver_e0 (c := hq1 c) a2
  obtain ⟨a0, b0, m0, c0⟩ := exp_e0 (c := c) (by decide) a1
  have e1 : hq1 c = ⟨c.d, c.p + 4, 0, c.a⟩ := c0
  have e2 : (hq2 c).2 = ⟨c.d, c.p + 5, 0, c.a⟩ := by
    have : (hq2 c).2 = ⟨(hq1 c).d, (hq1 c).p + 1, 0, (hq1 c).a⟩ := congrArg Prod.snd c1
    rw [this, e1]
    simp only [Cu.mk.injEq, and_true, true_and]; omega
  have e3 : hq3 c = ⟨c.d, c.p + 20, 0, c.a⟩ := by
    have : hq3 c = ⟨(hq2 c).2.d, (hq2 c).2.p + 15, 0, (hq2 c).2.a⟩ := c2
    rw [this, e2]
    simp only [Cu.mk.injEq, and_true, true_and]; omega
  have st : ∀ (q : Cu) (n : Int) (q' : Cu), q = ⟨c.d, c.p + n, 0, c.a⟩ → q' = ⟨q.d, q.p + 4, 0, q.a⟩ → q' = ⟨c.d, c.p + (n + 4), 0, c.a⟩ := fun q n q' h1 h2 => by
    rw [h2, h1]
    simp only [Cu.mk.injEq, and_true, true_and]; omega
  have e9 : hq9 c = ⟨c.d, c.p + 44, 0, c.a⟩ := st _ _ _ (st _ _ _ (st _ _ _ (st _ _ _ (st _ _ _ (st _ _ _ e3 c3) c4) c5) c6) c7) c8
  refine ⟨a0, ?_, ?_, ?_, ?_⟩
  · rw [he]; exact e9
  · have e8 : hq8 c = ⟨c.d, c.p + 40, 0, c.a⟩ := st _ _ _ (st _ _ _ (st _ _ _ (st _ _ _ (st _ _ _ e3 c3) c4) c5) c6) c7
    rw [restU_of a8, e8] at b8
    simp only at b8
    omega
  · rw [he]
    show (hq2 c).1 ≠ 0
    rw [show (hq2 c).1 = _ from congrArg Prod.fst c1]
    exact m1
  · rw [he]
theorem verB_rng (x : Int) : 0 ≤ verB x ∧ verB x ≤ 4 := by
  unfold verB; repeat' split
  all_goals omega
theorem hd_v (c : Cu) : 0 ≤ (hdU c).1.v ∧ (hdU c).1.v ≤ 4 := by
  have hv : 0 ≤ (hq2 c).1 ∧ (hq2 c).1 ≤ 4 := by
    show 0 ≤ (verU (hq1 c)).1 ∧ (verU (hq1 c)).1 ≤ 4
    unfold verU
    split
    · exact ⟨Int.le_refl 0, (by decide : (0 : Int) ≤ 4)⟩
    · split
      · exact ⟨Int.le_refl 0, (by decide : (0 : Int) ≤ 4)⟩
      · exact verB_rng _
  unfold hdU; split
  · split
    · exact hv
    · exact ⟨Int.le_refl 0, (by decide : (0 : Int) ≤ 4)⟩
  · exact ⟨Int.le_refl 0, (by decide : (0 : Int) ≤ 4)⟩
theorem elems_rng {h : Hd} (hh : okH h) : 0 ≤ elems h ∧ elems h ≤ 30064771065 := by
  obtain ⟨⟨a1, a2⟩, ⟨b1, b2⟩, ⟨c1, c2⟩, ⟨d1, d2⟩, ⟨e1, e2⟩, ⟨f1, f2⟩⟩ := hh
  unfold elems
  omega
theorem dec_d {k : Cu} {h : Hd} {s a : Int} : (decU k h s a).2.d = k.d := by
  unfold decU
  split
  · split
    · split <;> rfl
    · rfl
  · rfl
theorem dec_stick {k : Cu} {h : Hd} {s a : Int} (he : k.e ≠ 0) : decU k h s a = (zB, k) := by
  unfold decU
  rw [if_neg he]
theorem dec_e0 {k : Cu} {h : Hd} {s a : Int} (he : (decU k h s a).2.e = 0) : k.e = 0 ∧ sumU h s ≤ restU k ∧ okD (k.d.drop k.p.toNat) h s = true ∧ decU k h s a = (decB (k.d.drop k.p.toNat) h s, ⟨k.d, k.p + sumU h s, 0, k.a⟩) := by
  by_cases h1 : k.e = 0
  · cases h2 : fitsD k h s with
    | true =>
      have h2' : sumU h s ≤ restU k := of_decide_eq_true h2
      cases h3 : okD (k.d.drop k.p.toNat) h s with
      | true =>
        refine ⟨h1, h2', rfl, ?_⟩
        unfold decU
        rw [if_pos h1, if_pos h2, if_pos h3]
      | false =>
        exfalso
        unfold decU at he
        rw [if_pos h1, if_pos h2, if_neg (by rw [h3]; decide)] at he
        cases he
    | false =>
      exfalso
      unfold decU at he
      rw [if_pos h1, if_neg (by rw [h2]; decide)] at he
      cases he
  · rw [dec_stick h1] at he
    exact absurd he h1
theorem okU_dec {k : Cu} {h : Hd} {s a : Int} (hk : okU k) (hh : okH h) (hs : sz48 s) : okU (decU k h s a).2 := by
  by_cases h1 : k.e = 0
  · have hr := restU_of h1
    obtain ⟨q0, q1, q2, q3, q4, q5, q6, q7⟩ := sum_pos hh hs
    have h0 : 0 ≤ sumU h s := by unfold sumU; omega
    obtain ⟨k1, k2, k3⟩ := hk
    unfold decU
    rw [if_pos h1]
    split
    · rename_i h2
      have h2' : sumU h s ≤ restU k := of_decide_eq_true h2
      have : okU ⟨k.d, k.p + sumU h s, 0, k.a⟩ := ⟨by show 0 ≤ k.p + _; omega, by show k.p + _ ≤ (k.d.length : Int); omega, k3⟩
      split
      · exact this
      · exact this
    · exact ⟨k1, k2, k3⟩
  · rw [dec_stick h1]; exact hk
theorem take_all {l : List UInt8} {n : Nat} : List.take (l.length - n) (l.drop n) = l.drop n := List.take_of_length_le (by rw [List.length_drop]; exact Nat.le_refl _)
end Y27
set_option maxRecDepth 100000
namespace Y27
open Go Go.AE Go.Proofs E6
attribute [local irreducible] loopK evCode evSpec loopB norm
theorem g10_in (b : List UInt8) (K : List AV → Prop) : evSpec L7 Tryz.f10 [by' b] K = (let Q1 : Hd × Cu := (hdU (Cu.mk b (0 : Int) (0 : Int) (0 : Int))); let Q2 : Hd × Cu := (hdU (Cu.mk (Cu.d (Prod.snd Q1)) (Cu.p (Prod.snd Q1)) (Cu.e (Prod.snd Q1)) (Cu.a (Prod.snd Q1)))); let Q3 : Bk × Cu := (decU (Cu.mk (Cu.d (Prod.snd Q2)) (Cu.p (Prod.snd Q2)) (Cu.e (Prod.snd Q2)) (Cu.a (Prod.snd Q2))) (Hd.mk (Hd.v (Prod.fst Q2)) (Hd.iu (Prod.fst Q2)) (Hd.is (Prod.fst Q2)) (Hd.l (Prod.fst Q2)) (Hd.t (Prod.fst Q2)) (Hd.ty (Prod.fst Q2)) (Hd.c (Prod.fst Q2))) (8 : Int) (0 : Int)); let Q4 : Cu := (expU (Cu.mk (Cu.d (Prod.snd Q3)) (Cu.p (Prod.snd Q3)) (Cu.e (Prod.snd Q3)) (Cu.a (Prod.snd Q3))) (List.map u8 [(10 : Int)]) (14 : Int)); let Q5 : Cu := (expU (Cu.mk (Cu.d (Prod.snd Q2)) (Cu.p (Prod.snd Q2)) (Cu.e (Prod.snd Q2)) (Cu.a (Prod.snd Q2))) (List.map u8 [(10 : Int)]) (14 : Int)); let Q6 : Bk × Cu := (decU (Cu.mk (Cu.d (Prod.snd Q1)) (Cu.p (Prod.snd Q1)) (Cu.e (Prod.snd Q1)) (Cu.a (Prod.snd Q1))) (Hd.mk (Hd.v (Prod.fst Q1)) (Hd.iu (Prod.fst Q1)) (Hd.is (Prod.fst Q1)) (Hd.l (Prod.fst Q1)) (Hd.t (Prod.fst Q1)) (Hd.ty (Prod.fst Q1)) (Hd.c (Prod.fst Q1))) (4 : Int) (0 : Int)); let Q7 : Hd × Cu := (hdU
 (Cu.mk (Cu.d (Prod.snd Q6)) (Cu.p (Prod.snd Q6)) (Cu.e (Prod.snd Q6)) (Cu.a (Prod.snd Q6)))); let Q8 : Bk × Cu := (decU (Cu.mk (Cu.d (Prod.snd Q7)) (Cu.p (Prod.snd Q7)) (Cu.e (Prod.snd Q7)) (Cu.a (Prod.snd Q7))) (Hd.mk (Hd.v (Prod.fst Q7)) (Hd.iu (Prod.fst Q7)) (Hd.is (Prod.fst Q7)) (Hd.l (Prod.fst Q7)) (Hd.t (Prod.fst Q7)) (Hd.ty (Prod.fst Q7)) (Hd.c (Prod.fst Q7))) (8 : Int) (0 : Int)); let Q9 : Cu := (expU (Cu.mk (Cu.d (Prod.snd Q8)) (Cu.p (Prod.snd Q8)) (Cu.e (Prod.snd Q8)) (Cu.a (Prod.snd Q8))) (List.map u8 [(10 : Int)]) (14 : Int)); let Q10 : Cu := (expU (Cu.mk (Cu.d (Prod.snd Q7)) (Cu.p (Prod.snd Q7)) (Cu.e (Prod.snd Q7)) (Cu.a (Prod.snd Q7))) (List.map u8 [(10 : Int)]) (14 : Int)); let A2 : Prop := ((K [.agg [i64 0, i64 0]])); let A17 : Prop := ((K [.agg [i64 (IntKind.wrap .i64 ((0 : Int) + IntKind.wrap .i64 (elems (Hd.mk (Hd.v (Prod.fst Q2)) (Hd.iu (Prod.fst Q2)) (Hd.is (Prod.fst Q2)) (Hd.l (Prod.fst Q2)) (Hd.t (Prod.fst Q2)) (Hd.ty (Prod.fst Q2)) (Hd.c (Prod.fst Q2)))))), i64 (IntKind.wrap .i64 ((6 : Int) + IntKind.wrap .i64 (elems (Hd.mk (Hd.v (Prod.fst Q2)) (Hd.iu (Prod.fst Q2)) (Hd.is (Prod.fst Q2)) (Hd.l (Prod.fst Q2)) (Hd.t (Prod.fst Q2)) (Hd.ty (Prod.fst Q2)) (Hd.c
 (Prod.fst Q2))))))]])); let A38 : Prop := ((K [.agg [i64 0, i64 6]])); let A63 : Prop := ((okH (Hd.mk (Hd.v (Prod.fst Q2)) (Hd.iu (Prod.fst Q2)) (Hd.is (Prod.fst Q2)) (Hd.l (Prod.fst Q2)) (Hd.t (Prod.fst Q2)) (Hd.ty (Prod.fst Q2)) (Hd.c (Prod.fst Q2))) ∧ sz48 (8 : Int) ∧ (0 : Int) ≤ IntKind.wrap IntKind.u64 (restU (Cu.mk (Cu.d (Prod.snd Q2)) (Cu.p (Prod.snd Q2)) (Cu.e (Prod.snd Q2)) (Cu.a (Prod.snd Q2)))) ∧ IntKind.wrap IntKind.u64 (restU (Cu.mk (Cu.d (Prod.snd Q2)) (Cu.p (Prod.snd Q2)) (Cu.e (Prod.snd Q2)) (Cu.a (Prod.snd Q2)))) ≤ 18446744073709551615 ∧ brn (decide (sumU (Hd.mk (Hd.v (Prod.fst Q2)) (Hd.iu (Prod.fst Q2)) (Hd.is (Prod.fst Q2)) (Hd.l (Prod.fst Q2)) (Hd.t (Prod.fst Q2)) (Hd.ty (Prod.fst Q2)) (Hd.c (Prod.fst Q2))) (8 : Int) ≤ IntKind.wrap IntKind.u64 (restU (Cu.mk (Cu.d (Prod.snd Q2)) (Cu.p (Prod.snd Q2)) (Cu.e (Prod.snd Q2)) (Cu.a (Prod.snd Q2)))))) (okH (Hd.mk (Hd.v (Prod.fst Q2)) (Hd.iu (Prod.fst Q2)) (Hd.is (Prod.fst Q2)) (Hd.l (Prod.fst Q2)) (Hd.t (Prod.fst Q2)) (Hd.ty (Prod.fst Q2)) (Hd.c (Prod.fst Q2))) ∧ okU (Cu.mk (Cu.d (Prod.snd Q2)) (Cu.p (Prod.snd Q2)) (Cu.e (Prod.snd Q2)) (Cu.a (Prod.snd Q2))) ∧ okH (Hd.mk (Hd.v (Prod.fst Q2)) (Hd.iu (Prod.fst Q2)) (Hd.is
 (Prod.fst Q2)) (Hd.l (Prod.fst Q2)) (Hd.t (Prod.fst Q2)) (Hd.ty (Prod.fst Q2)) (Hd.c (Prod.fst Q2))) ∧ sz48 (8 : Int) ∧ okU (Cu.mk (Cu.d (Prod.snd Q3)) (Cu.p (Prod.snd Q3)) (Cu.e (Prod.snd Q3)) (Cu.a (Prod.snd Q3))) ∧ (↑(List.map u8 [(10 : Int)]).length : Int) ≤ 1000 ∧ brn (Cu.e Q4 != 0) A17 ((0 : Int) ≤ Cu.p Q4 ∧ Cu.p Q4 ≤ (↑(Cu.d Q4).length : Int) ∧ (↑(List.take ((Cu.d Q4).length - (Cu.p Q4).toNat) (List.drop (Cu.p Q4).toNat (Cu.d Q4))).length : Int) ≤ big' ∧ brn (decide (ixB (List.take ((Cu.d Q4).length - (Cu.p Q4).toNat) (List.drop (Cu.p Q4).toNat (Cu.d Q4))) (10 : Int) ≥ 0)) (K [.agg [i64 (IntKind.wrap .i64 (IntKind.wrap .i64 ((0 : Int) + IntKind.wrap .i64 (elems (Hd.mk (Hd.v (Prod.fst Q2)) (Hd.iu (Prod.fst Q2)) (Hd.is (Prod.fst Q2)) (Hd.l (Prod.fst Q2)) (Hd.t (Prod.fst Q2)) (Hd.ty (Prod.fst Q2)) (Hd.c (Prod.fst Q2))))) + ixB (List.take ((Cu.d Q4).length - (Cu.p Q4).toNat) (List.drop (Cu.p Q4).toNat (Cu.d Q4))) (10 : Int))), i64 (IntKind.wrap .i64 (IntKind.wrap .i64 ((6 : Int) + IntKind.wrap .i64 (elems (Hd.mk (Hd.v (Prod.fst Q2)) (Hd.iu (Prod.fst Q2)) (Hd.is (Prod.fst Q2)) (Hd.l (Prod.fst Q2)) (Hd.t (Prod.fst Q2)) (Hd.ty (Prod.fst Q2)) (Hd.c (Prod.fst Q2))))) + ixB (List.take
 ((Cu.d Q4).length - (Cu.p Q4).toNat) (List.drop (Cu.p Q4).toNat (Cu.d Q4))) (10 : Int)))]]) A17)) (okU (Cu.mk (Cu.d (Prod.snd Q2)) (Cu.p (Prod.snd Q2)) (Cu.e (Prod.snd Q2)) (Cu.a (Prod.snd Q2))) ∧ okH (Hd.mk (Hd.v (Prod.fst Q2)) (Hd.iu (Prod.fst Q2)) (Hd.is (Prod.fst Q2)) (Hd.l (Prod.fst Q2)) (Hd.t (Prod.fst Q2)) (Hd.ty (Prod.fst Q2)) (Hd.c (Prod.fst Q2))) ∧ sz48 (8 : Int) ∧ okU (Cu.mk (Cu.d (Prod.snd Q3)) (Cu.p (Prod.snd Q3)) (Cu.e (Prod.snd Q3)) (Cu.a (Prod.snd Q3))) ∧ (↑(List.map u8 [(10 : Int)]).length : Int) ≤ 1000 ∧ brn (Cu.e Q4 != 0) A38 ((0 : Int) ≤ Cu.p Q4 ∧ Cu.p Q4 ≤ (↑(Cu.d Q4).length : Int) ∧ (↑(List.take ((Cu.d Q4).length - (Cu.p Q4).toNat) (List.drop (Cu.p Q4).toNat (Cu.d Q4))).length : Int) ≤ big' ∧ brn (decide (ixB (List.take ((Cu.d Q4).length - (Cu.p Q4).toNat) (List.drop (Cu.p Q4).toNat (Cu.d Q4))) (10 : Int) ≥ 0)) (K [.agg [i64 (IntKind.wrap .i64 ((0 : Int) + ixB (List.take ((Cu.d Q4).length - (Cu.p Q4).toNat) (List.drop (Cu.p Q4).toNat (Cu.d Q4))) (10 : Int))), i64 (IntKind.wrap .i64 ((6 : Int) + ixB (List.take ((Cu.d Q4).length - (Cu.p Q4).toNat) (List.drop (Cu.p Q4).toNat (Cu.d Q4))) (10 : Int)))]]) A38)))); let A65 : Prop := ((okU (Cu.mk (Cu.d (Prod.snd Q2))
 (Cu.p (Prod.snd Q2)) (Cu.e (Prod.snd Q2)) (Cu.a (Prod.snd Q2))) ∧ A63)); let A80 : Prop := ((brn (Cu.e (Prod.snd Q1) != 0 || decide ((0 : Int) < 2)) (K [.agg [i64 0, i64 0]]) (okU (Cu.mk (Cu.d (Prod.snd Q1)) (Cu.p (Prod.snd Q1)) (Cu.e (Prod.snd Q1)) (Cu.a (Prod.snd Q1))) ∧ brn (Cu.e (Prod.snd Q2) != 0) (okU (Cu.mk (Cu.d (Prod.snd Q2)) (Cu.p (Prod.snd Q2)) (Cu.e (Prod.snd Q2)) (Cu.a (Prod.snd Q2))) ∧ (↑(List.map u8 [(10 : Int)]).length : Int) ≤ 1000 ∧ brn (Cu.e Q5 != 0) A2 ((0 : Int) ≤ Cu.p Q5 ∧ Cu.p Q5 ≤ (↑(Cu.d Q5).length : Int) ∧ (↑(List.take ((Cu.d Q5).length - (Cu.p Q5).toNat) (List.drop (Cu.p Q5).toNat (Cu.d Q5))).length : Int) ≤ big' ∧ brn (decide (ixB (List.take ((Cu.d Q5).length - (Cu.p Q5).toNat) (List.drop (Cu.p Q5).toNat (Cu.d Q5))) (10 : Int) ≥ 0)) (K [.agg [i64 (IntKind.wrap .i64 ((0 : Int) + ixB (List.take ((Cu.d Q5).length - (Cu.p Q5).toNat) (List.drop (Cu.p Q5).toNat (Cu.d Q5))) (10 : Int))), i64 (IntKind.wrap .i64 ((0 : Int) + ixB (List.take ((Cu.d Q5).length - (Cu.p Q5).toNat) (List.drop (Cu.p Q5).toNat (Cu.d Q5))) (10 : Int)))]]) A2)) (A65 ∧ A65 ∧ okU (Cu.mk (Cu.d (Prod.snd Q2)) (Cu.p (Prod.snd Q2)) (Cu.e (Prod.snd Q2)) (Cu.a (Prod.snd Q2))) ∧ A63)))); let A84 :
 Prop := ((A80)); let A93 : Prop := ((K [.agg [i64 (IntKind.wrap .i64 ((0 : Int) + IntKind.wrap .i64 (elems (Hd.mk (Hd.v (Prod.fst Q1)) (Hd.iu (Prod.fst Q1)) (Hd.is (Prod.fst Q1)) (Hd.l (Prod.fst Q1)) (Hd.t (Prod.fst Q1)) (Hd.ty (Prod.fst Q1)) (Hd.c (Prod.fst Q1)))))), i64 (IntKind.wrap .i64 ((6 : Int) + IntKind.wrap .i64 (elems (Hd.mk (Hd.v (Prod.fst Q1)) (Hd.iu (Prod.fst Q1)) (Hd.is (Prod.fst Q1)) (Hd.l (Prod.fst Q1)) (Hd.t (Prod.fst Q1)) (Hd.ty (Prod.fst Q1)) (Hd.c (Prod.fst Q1))))))]])); let A108 : Prop := ((K [.agg [i64 (IntKind.wrap .i64 (IntKind.wrap .i64 ((0 : Int) + IntKind.wrap .i64 (elems (Hd.mk (Hd.v (Prod.fst Q1)) (Hd.iu (Prod.fst Q1)) (Hd.is (Prod.fst Q1)) (Hd.l (Prod.fst Q1)) (Hd.t (Prod.fst Q1)) (Hd.ty (Prod.fst Q1)) (Hd.c (Prod.fst Q1))))) + IntKind.wrap .i64 (elems (Hd.mk (Hd.v (Prod.fst Q7)) (Hd.iu (Prod.fst Q7)) (Hd.is (Prod.fst Q7)) (Hd.l (Prod.fst Q7)) (Hd.t (Prod.fst Q7)) (Hd.ty (Prod.fst Q7)) (Hd.c (Prod.fst Q7)))))), i64 (IntKind.wrap .i64 (IntKind.wrap .i64 (IntKind.wrap .i64 ((6 : Int) + IntKind.wrap .i64 (elems (Hd.mk (Hd.v (Prod.fst Q1)) (Hd.iu (Prod.fst Q1)) (Hd.is (Prod.fst Q1)) (Hd.l (Prod.fst Q1)) (Hd.t (Prod.fst Q1)) (Hd.ty (Prod.fst Q1)) (Hd.c
 (Prod.fst Q1))))) + 6) + IntKind.wrap .i64 (elems (Hd.mk (Hd.v (Prod.fst Q7)) (Hd.iu (Prod.fst Q7)) (Hd.is (Prod.fst Q7)) (Hd.l (Prod.fst Q7)) (Hd.t (Prod.fst Q7)) (Hd.ty (Prod.fst Q7)) (Hd.c (Prod.fst Q7))))))]])); let A129 : Prop := ((K [.agg [i64 (IntKind.wrap .i64 ((0 : Int) + IntKind.wrap .i64 (elems (Hd.mk (Hd.v (Prod.fst Q1)) (Hd.iu (Prod.fst Q1)) (Hd.is (Prod.fst Q1)) (Hd.l (Prod.fst Q1)) (Hd.t (Prod.fst Q1)) (Hd.ty (Prod.fst Q1)) (Hd.c (Prod.fst Q1)))))), i64 (IntKind.wrap .i64 (IntKind.wrap .i64 ((6 : Int) + IntKind.wrap .i64 (elems (Hd.mk (Hd.v (Prod.fst Q1)) (Hd.iu (Prod.fst Q1)) (Hd.is (Prod.fst Q1)) (Hd.l (Prod.fst Q1)) (Hd.t (Prod.fst Q1)) (Hd.ty (Prod.fst Q1)) (Hd.c (Prod.fst Q1))))) + 6))]])); let A154 : Prop := ((okH (Hd.mk (Hd.v (Prod.fst Q7)) (Hd.iu (Prod.fst Q7)) (Hd.is (Prod.fst Q7)) (Hd.l (Prod.fst Q7)) (Hd.t (Prod.fst Q7)) (Hd.ty (Prod.fst Q7)) (Hd.c (Prod.fst Q7))) ∧ sz48 (8 : Int) ∧ (0 : Int) ≤ IntKind.wrap IntKind.u64 (restU (Cu.mk (Cu.d (Prod.snd Q7)) (Cu.p (Prod.snd Q7)) (Cu.e (Prod.snd Q7)) (Cu.a (Prod.snd Q7)))) ∧ IntKind.wrap IntKind.u64 (restU (Cu.mk (Cu.d (Prod.snd Q7)) (Cu.p (Prod.snd Q7)) (Cu.e (Prod.snd Q7)) (Cu.a (Prod.snd Q7)))) ≤
 18446744073709551615 ∧ brn (decide (sumU (Hd.mk (Hd.v (Prod.fst Q7)) (Hd.iu (Prod.fst Q7)) (Hd.is (Prod.fst Q7)) (Hd.l (Prod.fst Q7)) (Hd.t (Prod.fst Q7)) (Hd.ty (Prod.fst Q7)) (Hd.c (Prod.fst Q7))) (8 : Int) ≤ IntKind.wrap IntKind.u64 (restU (Cu.mk (Cu.d (Prod.snd Q7)) (Cu.p (Prod.snd Q7)) (Cu.e (Prod.snd Q7)) (Cu.a (Prod.snd Q7)))))) (okH (Hd.mk (Hd.v (Prod.fst Q7)) (Hd.iu (Prod.fst Q7)) (Hd.is (Prod.fst Q7)) (Hd.l (Prod.fst Q7)) (Hd.t (Prod.fst Q7)) (Hd.ty (Prod.fst Q7)) (Hd.c (Prod.fst Q7))) ∧ okU (Cu.mk (Cu.d (Prod.snd Q7)) (Cu.p (Prod.snd Q7)) (Cu.e (Prod.snd Q7)) (Cu.a (Prod.snd Q7))) ∧ okH (Hd.mk (Hd.v (Prod.fst Q7)) (Hd.iu (Prod.fst Q7)) (Hd.is (Prod.fst Q7)) (Hd.l (Prod.fst Q7)) (Hd.t (Prod.fst Q7)) (Hd.ty (Prod.fst Q7)) (Hd.c (Prod.fst Q7))) ∧ sz48 (8 : Int) ∧ okU (Cu.mk (Cu.d (Prod.snd Q8)) (Cu.p (Prod.snd Q8)) (Cu.e (Prod.snd Q8)) (Cu.a (Prod.snd Q8))) ∧ (↑(List.map u8 [(10 : Int)]).length : Int) ≤ 1000 ∧ brn (Cu.e Q9 != 0) A108 ((0 : Int) ≤ Cu.p Q9 ∧ Cu.p Q9 ≤ (↑(Cu.d Q9).length : Int) ∧ (↑(List.take ((Cu.d Q9).length - (Cu.p Q9).toNat) (List.drop (Cu.p Q9).toNat (Cu.d Q9))).length : Int) ≤ big' ∧ brn (decide (ixB (List.take ((Cu.d Q9).length - (Cu.p Q9).toNat)
 (List.drop (Cu.p Q9).toNat (Cu.d Q9))) (10 : Int) ≥ 0)) (K [.agg [i64 (IntKind.wrap .i64 (IntKind.wrap .i64 (IntKind.wrap .i64 ((0 : Int) + IntKind.wrap .i64 (elems (Hd.mk (Hd.v (Prod.fst Q1)) (Hd.iu (Prod.fst Q1)) (Hd.is (Prod.fst Q1)) (Hd.l (Prod.fst Q1)) (Hd.t (Prod.fst Q1)) (Hd.ty (Prod.fst Q1)) (Hd.c (Prod.fst Q1))))) + IntKind.wrap .i64 (elems (Hd.mk (Hd.v (Prod.fst Q7)) (Hd.iu (Prod.fst Q7)) (Hd.is (Prod.fst Q7)) (Hd.l (Prod.fst Q7)) (Hd.t (Prod.fst Q7)) (Hd.ty (Prod.fst Q7)) (Hd.c (Prod.fst Q7))))) + ixB (List.take ((Cu.d Q9).length - (Cu.p Q9).toNat) (List.drop (Cu.p Q9).toNat (Cu.d Q9))) (10 : Int))), i64 (IntKind.wrap .i64 (IntKind.wrap .i64 (IntKind.wrap .i64 (IntKind.wrap .i64 ((6 : Int) + IntKind.wrap .i64 (elems (Hd.mk (Hd.v (Prod.fst Q1)) (Hd.iu (Prod.fst Q1)) (Hd.is (Prod.fst Q1)) (Hd.l (Prod.fst Q1)) (Hd.t (Prod.fst Q1)) (Hd.ty (Prod.fst Q1)) (Hd.c (Prod.fst Q1))))) + 6) + IntKind.wrap .i64 (elems (Hd.mk (Hd.v (Prod.fst Q7)) (Hd.iu (Prod.fst Q7)) (Hd.is (Prod.fst Q7)) (Hd.l (Prod.fst Q7)) (Hd.t (Prod.fst Q7)) (Hd.ty (Prod.fst Q7)) (Hd.c (Prod.fst Q7))))) + ixB (List.take ((Cu.d Q9).length - (Cu.p Q9).toNat) (List.drop (Cu.p Q9).toNat (Cu.d Q9))) (10 : Int)))]])
 A108)) (okU (Cu.mk (Cu.d (Prod.snd Q7)) (Cu.p (Prod.snd Q7)) (Cu.e (Prod.snd Q7)) (Cu.a (Prod.snd Q7))) ∧ okH (Hd.mk (Hd.v (Prod.fst Q7)) (Hd.iu (Prod.fst Q7)) (Hd.is (Prod.fst Q7)) (Hd.l (Prod.fst Q7)) (Hd.t (Prod.fst Q7)) (Hd.ty (Prod.fst Q7)) (Hd.c (Prod.fst Q7))) ∧ sz48 (8 : Int) ∧ okU (Cu.mk (Cu.d (Prod.snd Q8)) (Cu.p (Prod.snd Q8)) (Cu.e (Prod.snd Q8)) (Cu.a (Prod.snd Q8))) ∧ (↑(List.map u8 [(10 : Int)]).length : Int) ≤ 1000 ∧ brn (Cu.e Q9 != 0) A129 ((0 : Int) ≤ Cu.p Q9 ∧ Cu.p Q9 ≤ (↑(Cu.d Q9).length : Int) ∧ (↑(List.take ((Cu.d Q9).length - (Cu.p Q9).toNat) (List.drop (Cu.p Q9).toNat (Cu.d Q9))).length : Int) ≤ big' ∧ brn (decide (ixB (List.take ((Cu.d Q9).length - (Cu.p Q9).toNat) (List.drop (Cu.p Q9).toNat (Cu.d Q9))) (10 : Int) ≥ 0)) (K [.agg [i64 (IntKind.wrap .i64 (IntKind.wrap .i64 ((0 : Int) + IntKind.wrap .i64 (elems (Hd.mk (Hd.v (Prod.fst Q1)) (Hd.iu (Prod.fst Q1)) (Hd.is (Prod.fst Q1)) (Hd.l (Prod.fst Q1)) (Hd.t (Prod.fst Q1)) (Hd.ty (Prod.fst Q1)) (Hd.c (Prod.fst Q1))))) + ixB (List.take ((Cu.d Q9).length - (Cu.p Q9).toNat) (List.drop (Cu.p Q9).toNat (Cu.d Q9))) (10 : Int))), i64 (IntKind.wrap .i64 (IntKind.wrap .i64 (IntKind.wrap .i64 ((6 : Int) + IntKind.wrap
 .i64 (elems (Hd.mk (Hd.v (Prod.fst Q1)) (Hd.iu (Prod.fst Q1)) (Hd.is (Prod.fst Q1)) (Hd.l (Prod.fst Q1)) (Hd.t (Prod.fst Q1)) (Hd.ty (Prod.fst Q1)) (Hd.c (Prod.fst Q1))))) + 6) + ixB (List.take ((Cu.d Q9).length - (Cu.p Q9).toNat) (List.drop (Cu.p Q9).toNat (Cu.d Q9))) (10 : Int)))]]) A129)))); let A156 : Prop := ((okU (Cu.mk (Cu.d (Prod.snd Q7)) (Cu.p (Prod.snd Q7)) (Cu.e (Prod.snd Q7)) (Cu.a (Prod.snd Q7))) ∧ A154)); let A171 : Prop := ((brn (Cu.e (Prod.snd Q6) != 0 || decide (Hd.v (Prod.fst Q1) < 2)) (K [.agg [i64 (IntKind.wrap .i64 ((0 : Int) + IntKind.wrap .i64 (elems (Hd.mk (Hd.v (Prod.fst Q1)) (Hd.iu (Prod.fst Q1)) (Hd.is (Prod.fst Q1)) (Hd.l (Prod.fst Q1)) (Hd.t (Prod.fst Q1)) (Hd.ty (Prod.fst Q1)) (Hd.c (Prod.fst Q1)))))), i64 (IntKind.wrap .i64 ((6 : Int) + IntKind.wrap .i64 (elems (Hd.mk (Hd.v (Prod.fst Q1)) (Hd.iu (Prod.fst Q1)) (Hd.is (Prod.fst Q1)) (Hd.l (Prod.fst Q1)) (Hd.t (Prod.fst Q1)) (Hd.ty (Prod.fst Q1)) (Hd.c (Prod.fst Q1))))))]]) (okU (Cu.mk (Cu.d (Prod.snd Q6)) (Cu.p (Prod.snd Q6)) (Cu.e (Prod.snd Q6)) (Cu.a (Prod.snd Q6))) ∧ brn (Cu.e (Prod.snd Q7) != 0) (okU (Cu.mk (Cu.d (Prod.snd Q7)) (Cu.p (Prod.snd Q7)) (Cu.e (Prod.snd Q7)) (Cu.a (Prod.snd Q7))) ∧
 (↑(List.map u8 [(10 : Int)]).length : Int) ≤ 1000 ∧ brn (Cu.e Q10 != 0) A93 ((0 : Int) ≤ Cu.p Q10 ∧ Cu.p Q10 ≤ (↑(Cu.d Q10).length : Int) ∧ (↑(List.take ((Cu.d Q10).length - (Cu.p Q10).toNat) (List.drop (Cu.p Q10).toNat (Cu.d Q10))).length : Int) ≤ big' ∧ brn (decide (ixB (List.take ((Cu.d Q10).length - (Cu.p Q10).toNat) (List.drop (Cu.p Q10).toNat (Cu.d Q10))) (10 : Int) ≥ 0)) (K [.agg [i64 (IntKind.wrap .i64 (IntKind.wrap .i64 ((0 : Int) + IntKind.wrap .i64 (elems (Hd.mk (Hd.v (Prod.fst Q1)) (Hd.iu (Prod.fst Q1)) (Hd.is (Prod.fst Q1)) (Hd.l (Prod.fst Q1)) (Hd.t (Prod.fst Q1)) (Hd.ty (Prod.fst Q1)) (Hd.c (Prod.fst Q1))))) + ixB (List.take ((Cu.d Q10).length - (Cu.p Q10).toNat) (List.drop (Cu.p Q10).toNat (Cu.d Q10))) (10 : Int))), i64 (IntKind.wrap .i64 (IntKind.wrap .i64 ((6 : Int) + IntKind.wrap .i64 (elems (Hd.mk (Hd.v (Prod.fst Q1)) (Hd.iu (Prod.fst Q1)) (Hd.is (Prod.fst Q1)) (Hd.l (Prod.fst Q1)) (Hd.t (Prod.fst Q1)) (Hd.ty (Prod.fst Q1)) (Hd.c (Prod.fst Q1))))) + ixB (List.take ((Cu.d Q10).length - (Cu.p Q10).toNat) (List.drop (Cu.p Q10).toNat (Cu.d Q10))) (10 : Int)))]]) A93)) (A156 ∧ A156 ∧ okU (Cu.mk (Cu.d (Prod.snd Q7)) (Cu.p (Prod.snd Q7)) (Cu.e (Prod.snd Q7)) (Cu.a
 (Prod.snd Q7))) ∧ A154)))); let A175 : Prop := ((A171)); let A190 : Prop := ((K [.agg [i64 0, i64 6]])); let A205 : Prop := ((K [.agg [i64 (IntKind.wrap .i64 ((0 : Int) + IntKind.wrap .i64 (elems (Hd.mk (Hd.v (Prod.fst Q7)) (Hd.iu (Prod.fst Q7)) (Hd.is (Prod.fst Q7)) (Hd.l (Prod.fst Q7)) (Hd.t (Prod.fst Q7)) (Hd.ty (Prod.fst Q7)) (Hd.c (Prod.fst Q7)))))), i64 (IntKind.wrap .i64 ((12 : Int) + IntKind.wrap .i64 (elems (Hd.mk (Hd.v (Prod.fst Q7)) (Hd.iu (Prod.fst Q7)) (Hd.is (Prod.fst Q7)) (Hd.l (Prod.fst Q7)) (Hd.t (Prod.fst Q7)) (Hd.ty (Prod.fst Q7)) (Hd.c (Prod.fst Q7))))))]])); let A226 : Prop := ((K [.agg [i64 0, i64 12]])); let A251 : Prop := ((okH (Hd.mk (Hd.v (Prod.fst Q7)) (Hd.iu (Prod.fst Q7)) (Hd.is (Prod.fst Q7)) (Hd.l (Prod.fst Q7)) (Hd.t (Prod.fst Q7)) (Hd.ty (Prod.fst Q7)) (Hd.c (Prod.fst Q7))) ∧ sz48 (8 : Int) ∧ (0 : Int) ≤ IntKind.wrap IntKind.u64 (restU (Cu.mk (Cu.d (Prod.snd Q7)) (Cu.p (Prod.snd Q7)) (Cu.e (Prod.snd Q7)) (Cu.a (Prod.snd Q7)))) ∧ IntKind.wrap IntKind.u64 (restU (Cu.mk (Cu.d (Prod.snd Q7)) (Cu.p (Prod.snd Q7)) (Cu.e (Prod.snd Q7)) (Cu.a (Prod.snd Q7)))) ≤ 18446744073709551615 ∧ brn (decide (sumU (Hd.mk (Hd.v (Prod.fst Q7)) (Hd.iu (Prod.fst Q7)) (Hd.is
 (Prod.fst Q7)) (Hd.l (Prod.fst Q7)) (Hd.t (Prod.fst Q7)) (Hd.ty (Prod.fst Q7)) (Hd.c (Prod.fst Q7))) (8 : Int) ≤ IntKind.wrap IntKind.u64 (restU (Cu.mk (Cu.d (Prod.snd Q7)) (Cu.p (Prod.snd Q7)) (Cu.e (Prod.snd Q7)) (Cu.a (Prod.snd Q7)))))) (okH (Hd.mk (Hd.v (Prod.fst Q7)) (Hd.iu (Prod.fst Q7)) (Hd.is (Prod.fst Q7)) (Hd.l (Prod.fst Q7)) (Hd.t (Prod.fst Q7)) (Hd.ty (Prod.fst Q7)) (Hd.c (Prod.fst Q7))) ∧ okU (Cu.mk (Cu.d (Prod.snd Q7)) (Cu.p (Prod.snd Q7)) (Cu.e (Prod.snd Q7)) (Cu.a (Prod.snd Q7))) ∧ okH (Hd.mk (Hd.v (Prod.fst Q7)) (Hd.iu (Prod.fst Q7)) (Hd.is (Prod.fst Q7)) (Hd.l (Prod.fst Q7)) (Hd.t (Prod.fst Q7)) (Hd.ty (Prod.fst Q7)) (Hd.c (Prod.fst Q7))) ∧ sz48 (8 : Int) ∧ okU (Cu.mk (Cu.d (Prod.snd Q8)) (Cu.p (Prod.snd Q8)) (Cu.e (Prod.snd Q8)) (Cu.a (Prod.snd Q8))) ∧ (↑(List.map u8 [(10 : Int)]).length : Int) ≤ 1000 ∧ brn (Cu.e Q9 != 0) A205 ((0 : Int) ≤ Cu.p Q9 ∧ Cu.p Q9 ≤ (↑(Cu.d Q9).length : Int) ∧ (↑(List.take ((Cu.d Q9).length - (Cu.p Q9).toNat) (List.drop (Cu.p Q9).toNat (Cu.d Q9))).length : Int) ≤ big' ∧ brn (decide (ixB (List.take ((Cu.d Q9).length - (Cu.p Q9).toNat) (List.drop (Cu.p Q9).toNat (Cu.d Q9))) (10 : Int) ≥ 0)) (K [.agg [i64 (IntKind.wrap .i64 (IntKind.wrap
 .i64 ((0 : Int) + IntKind.wrap .i64 (elems (Hd.mk (Hd.v (Prod.fst Q7)) (Hd.iu (Prod.fst Q7)) (Hd.is (Prod.fst Q7)) (Hd.l (Prod.fst Q7)) (Hd.t (Prod.fst Q7)) (Hd.ty (Prod.fst Q7)) (Hd.c (Prod.fst Q7))))) + ixB (List.take ((Cu.d Q9).length - (Cu.p Q9).toNat) (List.drop (Cu.p Q9).toNat (Cu.d Q9))) (10 : Int))), i64 (IntKind.wrap .i64 (IntKind.wrap .i64 ((12 : Int) + IntKind.wrap .i64 (elems (Hd.mk (Hd.v (Prod.fst Q7)) (Hd.iu (Prod.fst Q7)) (Hd.is (Prod.fst Q7)) (Hd.l (Prod.fst Q7)) (Hd.t (Prod.fst Q7)) (Hd.ty (Prod.fst Q7)) (Hd.c (Prod.fst Q7))))) + ixB (List.take ((Cu.d Q9).length - (Cu.p Q9).toNat) (List.drop (Cu.p Q9).toNat (Cu.d Q9))) (10 : Int)))]]) A205)) (okU (Cu.mk (Cu.d (Prod.snd Q7)) (Cu.p (Prod.snd Q7)) (Cu.e (Prod.snd Q7)) (Cu.a (Prod.snd Q7))) ∧ okH (Hd.mk (Hd.v (Prod.fst Q7)) (Hd.iu (Prod.fst Q7)) (Hd.is (Prod.fst Q7)) (Hd.l (Prod.fst Q7)) (Hd.t (Prod.fst Q7)) (Hd.ty (Prod.fst Q7)) (Hd.c (Prod.fst Q7))) ∧ sz48 (8 : Int) ∧ okU (Cu.mk (Cu.d (Prod.snd Q8)) (Cu.p (Prod.snd Q8)) (Cu.e (Prod.snd Q8)) (Cu.a (Prod.snd Q8))) ∧ (↑(List.map u8 [(10 : Int)]).length : Int) ≤ 1000 ∧ brn (Cu.e Q9 != 0) A226 ((0 : Int) ≤ Cu.p Q9 ∧ Cu.p Q9 ≤ (↑(Cu.d Q9).length : Int) ∧ (↑(List.take ((Cu.d
 Q9).length - (Cu.p Q9).toNat) (List.drop (Cu.p Q9).toNat (Cu.d Q9))).length : Int) ≤ big' ∧ brn (decide (ixB (List.take ((Cu.d Q9).length - (Cu.p Q9).toNat) (List.drop (Cu.p Q9).toNat (Cu.d Q9))) (10 : Int) ≥ 0)) (K [.agg [i64 (IntKind.wrap .i64 ((0 : Int) + ixB (List.take ((Cu.d Q9).length - (Cu.p Q9).toNat) (List.drop (Cu.p Q9).toNat (Cu.d Q9))) (10 : Int))), i64 (IntKind.wrap .i64 ((12 : Int) + ixB (List.take ((Cu.d Q9).length - (Cu.p Q9).toNat) (List.drop (Cu.p Q9).toNat (Cu.d Q9))) (10 : Int)))]]) A226)))); let A253 : Prop := ((okU (Cu.mk (Cu.d (Prod.snd Q7)) (Cu.p (Prod.snd Q7)) (Cu.e (Prod.snd Q7)) (Cu.a (Prod.snd Q7))) ∧ A251)); let A268 : Prop := ((brn (Cu.e (Prod.snd Q6) != 0 || decide (Hd.v (Prod.fst Q1) < 2)) (K [.agg [i64 0, i64 6]]) (okU (Cu.mk (Cu.d (Prod.snd Q6)) (Cu.p (Prod.snd Q6)) (Cu.e (Prod.snd Q6)) (Cu.a (Prod.snd Q6))) ∧ brn (Cu.e (Prod.snd Q7) != 0) (okU (Cu.mk (Cu.d (Prod.snd Q7)) (Cu.p (Prod.snd Q7)) (Cu.e (Prod.snd Q7)) (Cu.a (Prod.snd Q7))) ∧ (↑(List.map u8 [(10 : Int)]).length : Int) ≤ 1000 ∧ brn (Cu.e Q10 != 0) A190 ((0 : Int) ≤ Cu.p Q10 ∧ Cu.p Q10 ≤ (↑(Cu.d Q10).length : Int) ∧ (↑(List.take ((Cu.d Q10).length - (Cu.p Q10).toNat) (List.drop (Cu.p
 Q10).toNat (Cu.d Q10))).length : Int) ≤ big' ∧ brn (decide (ixB (List.take ((Cu.d Q10).length - (Cu.p Q10).toNat) (List.drop (Cu.p Q10).toNat (Cu.d Q10))) (10 : Int) ≥ 0)) (K [.agg [i64 (IntKind.wrap .i64 ((0 : Int) + ixB (List.take ((Cu.d Q10).length - (Cu.p Q10).toNat) (List.drop (Cu.p Q10).toNat (Cu.d Q10))) (10 : Int))), i64 (IntKind.wrap .i64 ((6 : Int) + ixB (List.take ((Cu.d Q10).length - (Cu.p Q10).toNat) (List.drop (Cu.p Q10).toNat (Cu.d Q10))) (10 : Int)))]]) A190)) (A253 ∧ A253 ∧ okU (Cu.mk (Cu.d (Prod.snd Q7)) (Cu.p (Prod.snd Q7)) (Cu.e (Prod.snd Q7)) (Cu.a (Prod.snd Q7))) ∧ A251)))); let A272 : Prop := ((A268)); let A290 : Prop := ((okH (Hd.mk (Hd.v (Prod.fst Q1)) (Hd.iu (Prod.fst Q1)) (Hd.is (Prod.fst Q1)) (Hd.l (Prod.fst Q1)) (Hd.t (Prod.fst Q1)) (Hd.ty (Prod.fst Q1)) (Hd.c (Prod.fst Q1))) ∧ sz48 (4 : Int) ∧ (0 : Int) ≤ IntKind.wrap IntKind.u64 (restU (Cu.mk (Cu.d (Prod.snd Q1)) (Cu.p (Prod.snd Q1)) (Cu.e (Prod.snd Q1)) (Cu.a (Prod.snd Q1)))) ∧ IntKind.wrap IntKind.u64 (restU (Cu.mk (Cu.d (Prod.snd Q1)) (Cu.p (Prod.snd Q1)) (Cu.e (Prod.snd Q1)) (Cu.a (Prod.snd Q1)))) ≤ 18446744073709551615 ∧ brn (decide (sumU (Hd.mk (Hd.v (Prod.fst Q1)) (Hd.iu (Prod.fst Q1)) (Hd.is
 (Prod.fst Q1)) (Hd.l (Prod.fst Q1)) (Hd.t (Prod.fst Q1)) (Hd.ty (Prod.fst Q1)) (Hd.c (Prod.fst Q1))) (4 : Int) ≤ IntKind.wrap IntKind.u64 (restU (Cu.mk (Cu.d (Prod.snd Q1)) (Cu.p (Prod.snd Q1)) (Cu.e (Prod.snd Q1)) (Cu.a (Prod.snd Q1)))))) (okH (Hd.mk (Hd.v (Prod.fst Q1)) (Hd.iu (Prod.fst Q1)) (Hd.is (Prod.fst Q1)) (Hd.l (Prod.fst Q1)) (Hd.t (Prod.fst Q1)) (Hd.ty (Prod.fst Q1)) (Hd.c (Prod.fst Q1))) ∧ okU (Cu.mk (Cu.d (Prod.snd Q1)) (Cu.p (Prod.snd Q1)) (Cu.e (Prod.snd Q1)) (Cu.a (Prod.snd Q1))) ∧ okH (Hd.mk (Hd.v (Prod.fst Q1)) (Hd.iu (Prod.fst Q1)) (Hd.is (Prod.fst Q1)) (Hd.l (Prod.fst Q1)) (Hd.t (Prod.fst Q1)) (Hd.ty (Prod.fst Q1)) (Hd.c (Prod.fst Q1))) ∧ sz48 (4 : Int) ∧ A171 ∧ A175) (okU (Cu.mk (Cu.d (Prod.snd Q1)) (Cu.p (Prod.snd Q1)) (Cu.e (Prod.snd Q1)) (Cu.a (Prod.snd Q1))) ∧ okH (Hd.mk (Hd.v (Prod.fst Q1)) (Hd.iu (Prod.fst Q1)) (Hd.is (Prod.fst Q1)) (Hd.l (Prod.fst Q1)) (Hd.t (Prod.fst Q1)) (Hd.ty (Prod.fst Q1)) (Hd.c (Prod.fst Q1))) ∧ sz48 (4 : Int) ∧ A268 ∧ A272))); let A292 : Prop := ((okU (Cu.mk (Cu.d (Prod.snd Q1)) (Cu.p (Prod.snd Q1)) (Cu.e (Prod.snd Q1)) (Cu.a (Prod.snd Q1))) ∧ A290)); let A338 : Prop := ((okH (Hd.mk (Hd.v (Prod.fst Q1)) (Hd.iu (Prod.fst Q1)) (Hd.is
 (Prod.fst Q1)) (Hd.l (Prod.fst Q1)) (Hd.t (Prod.fst Q1)) (Hd.ty (Prod.fst Q1)) (Hd.c (Prod.fst Q1))) ∧ sz48 (4 : Int) ∧ (0 : Int) ≤ IntKind.wrap IntKind.u64 (restU (Cu.mk (Cu.d (Prod.snd Q1)) (Cu.p (Prod.snd Q1)) (Cu.e (Prod.snd Q1)) (Cu.a (Prod.snd Q1)))) ∧ IntKind.wrap IntKind.u64 (restU (Cu.mk (Cu.d (Prod.snd Q1)) (Cu.p (Prod.snd Q1)) (Cu.e (Prod.snd Q1)) (Cu.a (Prod.snd Q1)))) ≤ 18446744073709551615 ∧ brn (decide (sumU (Hd.mk (Hd.v (Prod.fst Q1)) (Hd.iu (Prod.fst Q1)) (Hd.is (Prod.fst Q1)) (Hd.l (Prod.fst Q1)) (Hd.t (Prod.fst Q1)) (Hd.ty (Prod.fst Q1)) (Hd.c (Prod.fst Q1))) (4 : Int) ≤ IntKind.wrap IntKind.u64 (restU (Cu.mk (Cu.d (Prod.snd Q1)) (Cu.p (Prod.snd Q1)) (Cu.e (Prod.snd Q1)) (Cu.a (Prod.snd Q1)))))) (okH (Hd.mk (Hd.v (Prod.fst Q1)) (Hd.iu (Prod.fst Q1)) (Hd.is (Prod.fst Q1)) (Hd.l (Prod.fst Q1)) (Hd.t (Prod.fst Q1)) (Hd.ty (Prod.fst Q1)) (Hd.c (Prod.fst Q1))) ∧ okU (Cu.mk (Cu.d (Prod.snd Q1)) (Cu.p (Prod.snd Q1)) (Cu.e (Prod.snd Q1)) (Cu.a (Prod.snd Q1))) ∧ okH (Hd.mk (Hd.v (Prod.fst Q1)) (Hd.iu (Prod.fst Q1)) (Hd.is (Prod.fst Q1)) (Hd.l (Prod.fst Q1)) (Hd.t (Prod.fst Q1)) (Hd.ty (Prod.fst Q1)) (Hd.c (Prod.fst Q1))) ∧ sz48 (4 : Int) ∧ A175) (okU (Cu.mk (Cu.d (Prod.snd
 Q1)) (Cu.p (Prod.snd Q1)) (Cu.e (Prod.snd Q1)) (Cu.a (Prod.snd Q1))) ∧ okH (Hd.mk (Hd.v (Prod.fst Q1)) (Hd.iu (Prod.fst Q1)) (Hd.is (Prod.fst Q1)) (Hd.l (Prod.fst Q1)) (Hd.t (Prod.fst Q1)) (Hd.ty (Prod.fst Q1)) (Hd.c (Prod.fst Q1))) ∧ sz48 (4 : Int) ∧ A272))); let A340 : Prop := ((okU (Cu.mk (Cu.d (Prod.snd Q1)) (Cu.p (Prod.snd Q1)) (Cu.e (Prod.snd Q1)) (Cu.a (Prod.snd Q1))) ∧ A338)); let A352 : Prop := ((okU (Cu.mk b (0 : Int) (0 : Int) (0 : Int)) ∧ brn (Cu.e (Prod.snd Q1) != 0) A84 (A340 ∧ A340 ∧ okU (Cu.mk (Cu.d (Prod.snd Q1)) (Cu.p (Prod.snd Q1)) (Cu.e (Prod.snd Q1)) (Cu.a (Prod.snd Q1))) ∧ A338))); let A353 : Prop := (((okU (Cu.mk b (0 : Int) (0 : Int) (0 : Int)) ∧ brn (Cu.e (Prod.snd Q1) != 0) (A80 ∧ A84) (A292 ∧ A292 ∧ okU (Cu.mk (Cu.d (Prod.snd Q1)) (Cu.p (Prod.snd Q1)) (Cu.e (Prod.snd Q1)) (Cu.a (Prod.snd Q1))) ∧ A290)) ∧ A352)); let A354 : Prop := ((A352)); let A355 : Prop := ((A353 ∧ A354)); let A357 : Prop := ((A352)); let A359 : Prop := ((A354 ∧ A357)); A355 ∧ (A355 ∧ (A353 ∧ A357) ∧ A359) ∧ A354 ∧ A359) := by kernel_rfl
end Y27
set_option maxRecDepth 100000
namespace Y27
open Go Go.AE Go.Proofs E6
attribute [local irreducible] loopK evCode evSpec loopB norm
theorem foot_blk {Q : Cu} (hq : okU Q) {p1 p2 : Prop} (h1 : 0 ≤ ixB (Q.d.drop Q.p.toNat) 10 → p1) (h2 : ¬ (0 ≤ ixB (Q.d.drop Q.p.toNat) 10) → p2) :
    0 ≤ Q.p ∧ Q.p ≤ (Q.d.length : Int) ∧ ((List.take (Q.d.length - Int.toNat Q.p) (List.drop (Int.toNat Q.p) Q.d)).length : Int) ≤ big' ∧ brn (decide (ixB (List.take (Q.d.length - Int.toNat Q.p) (List.drop (Int.toNat Q.p) Q.d)) 10 ≥ 0)) p1 p2 := by
  obtain ⟨q1, q2, q3⟩ := hq
  have hb : big' = 1000000000000 := rfl
  rw [take_all]
  refine ⟨q1, q2, by rw [List.length_drop, hb]; omega, brn_intro (fun h => h1 (of_decide_eq_true h)) (fun h => h2 (of_decide_eq_false h))⟩
theorem sz4 : sz48 4 := .inl rfl
theorem sz8 : sz48 8 := .inr rfl
theorem u64_rest {c : Cu} (h : okU c) : IntKind.wrap .u64 (restU c) = restU c := by
  have := restU_rng h
  exact wrapU (by omega) (by omega)
attribute [local irreducible] hdU decU expU elems ixB sumU restU
set_option maxHeartbeats 4000000 in
theorem g10_ev (b : List UInt8) (hb : (b.length : Int) ≤ big') (K : List AV → Prop) (hK : K [.agg [i64 (measU b).1, i64 (measU b).2]]) : evSpec L7 Tryz.f10 [by' b] K := by
  refine Eq.mpr (g10_in b K) ?_
  have hbig : big' = 1000000000000 := rfl
  have o0 : okU ⟨b, 0, 0, 0⟩ := ⟨Int.le_refl 0, by show (0 : Int) ≤ (b.length : Int); omega, by show (b.length : Int) ≤ _; omega⟩
  have leaf : ∀ x y : Int, x = (measU b).1 → y = (measU b).2 → K [.agg [i64 x, i64 y]] := fun x y hx hy => by rw [hx, hy]; exact hK
  have hM : measU b = if (hdU ⟨b, 0, 0, 0⟩).2.e ≠ 0 then (0, 0) else if (nextP ⟨b, 0, 0, 0⟩ 4).e ≠ 0 ∨ (hdU ⟨b, 0, 0, 0⟩).1.v < 2 then (cntP ⟨b, 0, 0, 0⟩ 4, 6 + cntP ⟨b, 0, 0, 0⟩ 4) else
      if (hdU (nextP ⟨b, 0, 0, 0⟩ 4)).2.e ≠ 0 then (cntP ⟨b, 0, 0, 0⟩ 4, 6 + cntP ⟨b, 0, 0, 0⟩ 4) else (cntP ⟨b, 0, 0, 0⟩ 4 + cntP (nextP ⟨b, 0, 0, 0⟩ 4) 8 + footU (nextP (nextP ⟨b, 0, 0, 0⟩ 4) 8), 6 + cntP ⟨b, 0, 0, 0⟩ 4 + 6 + cntP (nextP ⟨b, 0, 0, 0⟩ 4) 8 + footU (nextP (nextP ⟨b, 0, 0, 0⟩ 4) 8)) := rfl
  intro Q1 Q2 Q3 Q4 Q5 Q6 Q7 Q8 Q9 Q10 A2 A17 A38 A63 A65 A80 A84 A93 A108 A129 A154 A156 A171 A175 A190 A205 A226 A251 A253 A268 A272 A290 A292 A338 A340 A352 A353 A354 A355 A357 A359
  have hM' : measU b = if Q1.2.e ≠ 0 then (0, 0) else if Q6.2.e ≠ 0 ∨ Q1.1.v < 2 then (cntU Q1.1 Q1.2 4, 6 + cntU Q1.1 Q1.2 4) else
      if Q7.2.e ≠ 0 then (cntU Q1.1 Q1.2 4, 6 + cntU Q1.1 Q1.2 4) else (cntU Q1.1 Q1.2 4 + cntU Q7.1 Q7.2 8 + footU Q8.2, 6 + cntU Q1.1 Q1.2 4 + 6 + cntU Q7.1 Q7.2 8 + footU Q8.2) := hM
  clear hM
  have hF : footU Q8.2 = if Q9.e ≠ 0 then 0 else if 0 ≤ ixB (Q9.d.drop Q9.p.toNat) 10 then ixB (Q9.d.drop Q9.p.toNat) 10 else 0 := rfl
  have hC1 : cntU Q1.1 Q1.2 4 = if sumU Q1.1 4 ≤ restU Q1.2 then elems Q1.1 else 0 := rfl
  have hC7 : cntU Q7.1 Q7.2 8 = if sumU Q7.1 8 ≤ restU Q7.2 then elems Q7.1 else 0 := rfl
  have o1 : okU Q1.2 := okU_hd o0
  have h1 : okH Q1.1 := okH_hd _
  have o6 : okU Q6.2 := okU_dec o1 h1 sz4
  have o7 : okU Q7.2 := okU_hd o6
  have h7 : okH Q7.1 := okH_hd _
  have o8 : okU Q8.2 := okU_dec o7 h7 sz8
  have o9 : okU Q9 := okU_exp o8
  have k10 : Q7.2.e ≠ 0 → Q10.e ≠ 0 := fun h => by
    have : Q10 = Q7.2 := exp_stick h _ _
    rw [this]; exact h
  have e1 := elems_rng h1
  have e7 := elems_rng h7
  have x1 : elems ⟨Q1.1.v, Q1.1.iu, Q1.1.is, Q1.1.l, Q1.1.t, Q1.1.ty, Q1.1.c⟩ = elems Q1.1 := rfl
  have x7 : elems ⟨Q7.1.v, Q7.1.iu, Q7.1.is, Q7.1.l, Q7.1.t, Q7.1.ty, Q7.1.c⟩ = elems Q7.1 := rfl
  have r1 := restU_rng o1
  have r7 := restU_rng o7
  have ix : -1 ≤ ixB (Q9.d.drop Q9.p.toNat) 10 ∧ ixB (Q9.d.drop Q9.p.toNat) 10 ≤ 1000000000000 := by
    have := ixB_rng (Q9.d.drop Q9.p.toNat) 10
    have hl : ((Q9.d.drop Q9.p.toNat).length : Int) ≤ 1000000000000 := by
      have := o9.2.2
      rw [List.length_drop]; omega
    omega
  have w1 := u64_rest o1
  have w7 := u64_rest o7
  have z1 : 0 ≤ IntKind.wrap .u64 (restU Q1.2) := by omega
  have u1 : IntKind.wrap .u64 (restU Q1.2) ≤ 18446744073709551615 := by omega
  have z7 : 0 ≤ IntKind.wrap .u64 (restU Q7.2) := by omega
  have u7 : IntKind.wrap .u64 (restU Q7.2) ≤ 18446744073709551615 := by omega
  have nl3 : ((List.length (List.map u8 [(10 : Int)]) : Nat) : Int) ≤ 1000 := by decide
  clear_value Q1 Q2 Q3 Q4 Q5 Q6 Q7 Q8 Q9 Q10
  by_cases c1 : Q1.2.e ≠ 0
  · -- no header
    rw [if_pos c1] at hM'
    have a80 : A80 := brn_intro (fun _ => leaf _ _ (by rw [hM']) (by rw [hM'])) (fun h => by simp [c1] at h)
    have a352 : A352 := ⟨o0, brn_intro (fun _ => a80) (fun h => by simp [c1] at h)⟩
    have a353 : A353 := ⟨⟨o0, brn_intro (fun _ => ⟨a80, a80⟩) (fun h => by simp [c1] at h)⟩, a352⟩
    exact ⟨⟨a353, a352⟩, ⟨⟨a353, a352⟩, ⟨a353, a352⟩, a352, a352⟩, a352, a352, a352⟩
  · rw [if_neg c1] at hM'
    have fin : A290 → A338 → A355 ∧ (A355 ∧ (A353 ∧ A357) ∧ A359) ∧ A354 ∧ A359 := by
      intro a290 a338
      have c1' : Q1.2.e = 0 := by simpa using c1
      have a340 : A340 := ⟨o1, a338⟩
      have a292 : A292 := ⟨o1, a290⟩
      have a352 : A352 := ⟨o0, brn_intro (fun h => by simp [c1'] at h) (fun _ => ⟨a340, a340, o1, a338⟩)⟩
      have a353 : A353 := ⟨⟨o0, brn_intro (fun h => by simp [c1'] at h) (fun _ => ⟨a292, a292, o1, a290⟩)⟩, a352⟩
      exact ⟨⟨a353, a352⟩, ⟨⟨a353, a352⟩, ⟨a353, a352⟩, a352, a352⟩, a352, a352, a352⟩
    by_cases f1 : sumU Q1.1 4 ≤ restU Q1.2
    · -- the first part's counts fit
      rw [if_pos f1] at hC1
      have a171 : A171 := by
        refine brn_intro (fun h => ?_) (fun h => ?_)
        · have hc : Q6.2.e ≠ 0 ∨ Q1.1.v < 2 := by simpa using h
          rw [if_pos hc, hC1] at hM'
          refine leaf _ _ ?_ ?_ <;> rw [hM'] <;> simp (disch := omega) only [wrap64, x1, x7] <;> omega
        · have hc : ¬ (Q6.2.e ≠ 0 ∨ Q1.1.v < 2) := by simpa using h
          rw [if_neg hc, hC1] at hM'
          refine ⟨o6, brn_intro (fun h2 => ?_) (fun h2 => ?_)⟩
          · have c7 : Q7.2.e ≠ 0 := by simpa using h2
            rw [if_pos c7] at hM'
            refine ⟨o7, nl3, brn_intro (fun _ => ?_) (fun h3 => absurd (k10 c7) (by simpa using h3))⟩
            refine leaf _ _ ?_ ?_ <;> rw [hM'] <;> simp (disch := omega) only [wrap64, x1, x7] <;> omega
          · have c7 : ¬ (Q7.2.e ≠ 0) := by simpa using h2
            rw [if_neg c7] at hM'
            have a154 : A154 := by
              refine ⟨h7, sz8, z7, u7, brn_intro (fun h3 => ?_) (fun h3 => ?_)⟩
              · rw [w7] at h3
                have f7 : sumU Q7.1 8 ≤ restU Q7.2 := of_decide_eq_true h3
                rw [if_pos f7] at hC7
                rw [hC7] at hM'
                have a108 : footU Q8.2 = 0 → A108 := fun hf => by
                  rw [hf] at hM'
                  refine leaf _ _ ?_ ?_ <;> rw [hM'] <;> simp (disch := omega) only [wrap64, x1, x7] <;> omega
                refine ⟨h7, o7, h7, sz8, o8, nl3, brn_intro (fun h4 => a108 ?_) (fun h4 => foot_blk o9 (fun h5 => ?_) (fun h5 => a108 ?_))⟩
                · rw [hF, if_pos (by simpa using h4)]
                · rw [if_neg (by simpa using h4), if_pos h5] at hF
                  rw [hF] at hM'
                  rw [take_all]
                  refine leaf _ _ ?_ ?_ <;> rw [hM'] <;> simp (disch := omega) only [wrap64, x1, x7] <;> omega
                · rw [hF, if_neg (by simpa using h4), if_neg h5]
              · rw [w7] at h3
                have f7 : ¬ (sumU Q7.1 8 ≤ restU Q7.2) := of_decide_eq_false h3
                rw [if_neg f7] at hC7
                rw [hC7] at hM'
                have a129 : footU Q8.2 = 0 → A129 := fun hf => by
                  rw [hf] at hM'
                  refine leaf _ _ ?_ ?_ <;> rw [hM'] <;> simp (disch := omega) only [wrap64, x1, x7] <;> omega
                refine ⟨o7, h7, sz8, o8, nl3, brn_intro (fun h4 => a129 ?_) (fun h4 => foot_blk o9 (fun h5 => ?_) (fun h5 => a129 ?_))⟩
                · rw [hF, if_pos (by simpa using h4)]
                · rw [if_neg (by simpa using h4), if_pos h5] at hF
                  rw [hF] at hM'
                  rw [take_all]
                  refine leaf _ _ ?_ ?_ <;> rw [hM'] <;> simp (disch := omega) only [wrap64, x1, x7] <;> omega
                · rw [hF, if_neg (by simpa using h4), if_neg h5]
            exact ⟨⟨o7, a154⟩, ⟨o7, a154⟩, o7, a154⟩
      have d1 : decide (sumU Q1.1 4 ≤ IntKind.wrap .u64 (restU Q1.2)) = true := by rw [w1]; exact decide_eq_true f1
      refine fin ⟨h1, sz4, z1, u1, brn_intro (fun _ => ⟨h1, o1, h1, sz4, a171, a171⟩) (fun h => by rw [d1] at h; cases h)⟩ ⟨h1, sz4, z1, u1, brn_intro (fun _ => ⟨h1, o1, h1, sz4, a171⟩) (fun h => by rw [d1] at h; cases h)⟩
    · rw [if_neg f1] at hC1
      have a268 : A268 := by
        refine brn_intro (fun h => ?_) (fun h => ?_)
        · have hc : Q6.2.e ≠ 0 ∨ Q1.1.v < 2 := by simpa using h
          rw [if_pos hc, hC1] at hM'
          refine leaf _ _ ?_ ?_ <;> rw [hM'] <;> omega
        · have hc : ¬ (Q6.2.e ≠ 0 ∨ Q1.1.v < 2) := by simpa using h
          rw [if_neg hc, hC1] at hM'
          refine ⟨o6, brn_intro (fun h2 => ?_) (fun h2 => ?_)⟩
          · have c7 : Q7.2.e ≠ 0 := by simpa using h2
            rw [if_pos c7] at hM'
            refine ⟨o7, nl3, brn_intro (fun _ => ?_) (fun h3 => absurd (k10 c7) (by simpa using h3))⟩
            refine leaf _ _ ?_ ?_ <;> rw [hM'] <;> omega
          · have c7 : ¬ (Q7.2.e ≠ 0) := by simpa using h2
            rw [if_neg c7] at hM'
            have a251 : A251 := by
              refine ⟨h7, sz8, z7, u7, brn_intro (fun h3 => ?_) (fun h3 => ?_)⟩
              · rw [w7] at h3
                have f7 : sumU Q7.1 8 ≤ restU Q7.2 := of_decide_eq_true h3
                rw [if_pos f7] at hC7
                rw [hC7] at hM'
                have a205 : footU Q8.2 = 0 → A205 := fun hf => by
                  rw [hf] at hM'
                  refine leaf _ _ ?_ ?_ <;> rw [hM'] <;> simp (disch := omega) only [wrap64, x1, x7] <;> omega
                refine ⟨h7, o7, h7, sz8, o8, nl3, brn_intro (fun h4 => a205 ?_) (fun h4 => foot_blk o9 (fun h5 => ?_) (fun h5 => a205 ?_))⟩
                · rw [hF, if_pos (by simpa using h4)]
                · rw [if_neg (by simpa using h4), if_pos h5] at hF
                  rw [hF] at hM'
                  rw [take_all]
                  refine leaf _ _ ?_ ?_ <;> rw [hM'] <;> simp (disch := omega) only [wrap64, x1, x7] <;> omega
                · rw [hF, if_neg (by simpa using h4), if_neg h5]
              · rw [w7] at h3
                have f7 : ¬ (sumU Q7.1 8 ≤ restU Q7.2) := of_decide_eq_false h3
                rw [if_neg f7] at hC7
                rw [hC7] at hM'
                have a226 : footU Q8.2 = 0 → A226 := fun hf => by
                  rw [hf] at hM'
                  refine leaf _ _ ?_ ?_ <;> rw [hM'] <;> omega
                refine ⟨o7, h7, sz8, o8, nl3, brn_intro (fun h4 => a226 ?_) (fun h4 => foot_blk o9 (fun h5 => ?_) (fun h5 => a226 ?_))⟩
                · rw [hF, if_pos (by simpa using h4)]
                · rw [if_neg (by simpa using h4), if_pos h5] at hF
                  rw [hF] at hM'
                  rw [take_all]
                  refine leaf _ _ ?_ ?_ <;> rw [hM'] <;> simp (disch := omega) only [wrap64, x1, x7] <;> omega
                · rw [hF, if_neg (by simpa using h4), if_neg h5]
            exact ⟨⟨o7, a251⟩, ⟨o7, a251⟩, o7, a251⟩
      have d1 : decide (sumU Q1.1 4 ≤ IntKind.wrap .u64 (restU Q1.2)) = false := by rw [w1]; exact decide_eq_false f1
      refine fin ⟨h1, sz4, z1, u1, brn_intro (fun h => by rw [d1] at h; cases h) (fun _ => ⟨o1, h1, sz4, a268, a268⟩)⟩ ⟨h1, sz4, z1, u1, brn_intro (fun h => by rw [d1] at h; cases h) (fun _ => ⟨o1, h1, sz4, a268⟩)⟩
theorem IM_ok : ∀ f fn, IM f = some fn → Tryz.prog.funcs[f]? = some fn ∧ (fn.name == "runtime.NumGoroutine") = false := by
  intro f fn h
  unfold IM at h
  cases h1 : Nat.beq f 25 with
  | true => rw [h1, cond_true] at h; cases h; obtain rfl := nbeq h1; exact ⟨Tryz.func25, by kernel_rfl⟩
  | false =>
    rw [h1, cond_false] at h
    cases h2 : Nat.beq f 26 with
    | true => rw [h2, cond_true] at h; cases h; obtain rfl := nbeq h2; exact ⟨Tryz.func26, by kernel_rfl⟩
    | false =>
      rw [h2, cond_false] at h
      cases h3 : Nat.beq f 28 with
      | true => rw [h3, cond_true] at h; cases h; obtain rfl := nbeq h3; exact ⟨Tryz.func28, by kernel_rfl⟩
      | false =>
        rw [h3, cond_false] at h
        cases h4 : Nat.beq f 29 with
        | true => rw [h4, cond_true] at h; cases h; obtain rfl := nbeq h4; exact ⟨Tryz.func29, by kernel_rfl⟩
        | false => rw [h4, cond_false] at h; cases h
theorem ok10e : ∀ args pres res, sMeas args = some (pres, res) → SpecOK Tryz.prog G16 10 args pres res := by
  intro args pres res h
  unfold sMeas at h
  split at h
  case h_2 => cases h
  cases h
  exact spec_ok (C := L7) okF10 (inl_ok okF10 IM_ok 3) Tryz.func10 (by kernel_rfl) (by kernel_rfl) (fun hp => g10_ev _ (hp _ (by simp)) _ rfl)
end Y27
set_option maxRecDepth 100000
namespace Y27
open Go Go.AE Go.Proofs E6
attribute [local irreducible] loopK evCode evSpec loopB norm
theorem g9_in (b : List UInt8) (K : List AV → Prop) : evSpec L8 Tryz.f9 [by' b] K = (LoopI L8 (bodyOf Tryz.f9) (0 : Nat) (St.mk (lapp [by' b, .dead, .ptr 0 0, .ptr 1 0, .ptr 2 0, i64 0] (dN 122)) [(0, Ob.mk true 0 (AObj.cells [i64 0, i64 0])), (1, Ob.mk true 0 (AObj.cells [i64 0, i64 0])), (2, Ob.mk true 0 (AObj.cells [by' b, i64 0, i64 0, i64 0]))] (3 : Nat) []) (finK L8 Tryz.f9 K)) := by kernel_rfl
end Y27
set_option maxRecDepth 100000
namespace Y27
open Go Go.AE Go.Proofs E6
attribute [local irreducible] loopK evCode evSpec loopB norm
theorem ixB_some : ∀ (l : List UInt8) (k : Nat), k < l.length → l.getD k 0 = 10 → (∀ j, j < k → l.getD j 0 ≠ 10) → ixB l 10 = (k : Int)
  | [], k, h, _, _ => by simp at h
  | b :: l, 0, _, h, _ => by
    have : b = 10 := h
    subst this
    rfl
  | b :: l, k + 1, hk, h, hj => by
    have hb : b ≠ 10 := hj 0 (by omega)
    have ih := ixB_some l k (by simpa using hk) h (fun j h => hj (j + 1) (by omega))
    unfold ixB at ih ⊢
    unfold Lib.indexByte
    have hc : Int.toNat 10 = 10 := rfl
    have hb' : (b == (Int.toNat 10).toUInt8) = false := by
      rw [beq_eq_false_iff_ne]; exact hb
    rw [hb', ih]
    simp only [Bool.false_eq_true, if_false]
    rw [if_neg (by simp only [beq_iff_eq]; omega)]
    rfl
theorem ixB_none : ∀ (l : List UInt8), (∀ j, j < l.length → l.getD j 0 ≠ 10) → ixB l 10 = -1
  | [], _ => rfl
  | b :: l, hj => by
    have hb : b ≠ 10 := hj 0 (by simp)
    have ih := ixB_none l (fun j h => hj (j + 1) (by simp; omega))
    unfold ixB at ih ⊢
    unfold Lib.indexByte
    have hb' : (b == (Int.toNat 10).toUInt8) = false := by
      rw [beq_eq_false_iff_ne]; exact hb
    rw [hb', ih]
    rfl
theorem advOk_of {c : Cu} {n : Int} (he : c.e = 0) (h0 : 0 ≤ n) (h : n ≤ (c.d.length : Int) - c.p) : advOk c n = true := by
  unfold advOk
  exact decide_eq_true ⟨he, h0, by rw [restU_of he]; exact h⟩
theorem misI_nl {l : List UInt8} (h : l.getD 0 0 = 10) : misI l nlC = none := by
  refine misI_none (fun j hj => ?_)
  have : j = 0 := by
    have : nlC.length = 1 := rfl
    omega
  subst this
  exact h
theorem foot_none {c : Cu} (he : c.e = 0) (h : (c.d.length : Int) ≤ c.p ∨ (c.d.drop c.p.toNat).getD 0 0 ≠ 10) : footU c = 0 := by
  have hx : (expU c nlC 14).e ≠ 0 := by
    intro hx
    obtain ⟨_, h2, h3, _⟩ := exp_e0 (by decide) hx
    rw [restU_of he] at h2
    have h1 : (nlC.length : Int) = 1 := rfl
    rcases h with h | h
    · omega
    · unfold misI at h3
      rw [List.find?_eq_none] at h3
      have := h3 0 (List.mem_range.2 (by decide))
      apply h
      have e : nlC.getD 0 0 = 10 := rfl
      rw [e] at this
      simpa using this
  unfold footU
  rw [if_pos hx]
theorem foot_some {c : Cu} (he : c.e = 0) (hp0 : 0 ≤ c.p) (hp : c.p < (c.d.length : Int)) (h : (c.d.drop c.p.toNat).getD 0 0 = 10) : footU c = if 0 ≤ ixB (c.d.drop (c.p.toNat + 1)) 10 then ixB (c.d.drop (c.p.toNat + 1)) 10 else 0 := by
  have hok : advOk c (nlC.length : Int) = true := advOk_of he (by decide) (by
    have h1 : (nlC.length : Int) = 1 := rfl
    omega)
  have hx : expU c nlC 14 = ⟨c.d, c.p + 1, 0, c.a⟩ := by
    have h0 : Cu.e (advU c (nlC.length : Int)) = 0 := by
      unfold advU
      rw [if_pos he, if_pos (by unfold advOk at hok; exact (of_decide_eq_true hok).2)]
    unfold expU
    rw [if_pos hok, misI_nl h]
    exact (adv_e0 h0).2.2.2
  unfold footU
  rw [hx]
  have e1 : (c.p + 1).toNat = c.p.toNat + 1 := by omega
  show (if (0 : Int) ≠ 0 then 0 else if 0 ≤ ixB (c.d.drop (c.p + 1).toNat) 10 then ixB (c.d.drop (c.p + 1).toNat) 10 else 0) = _
  rw [if_neg (by decide), e1]
theorem foot_stick {c : Cu} (he : c.e ≠ 0) : footU c = 0 := by
  unfold footU
  rw [exp_stick he, if_pos he]
def PM9 (b : List UInt8) (s : Nat × Int × Int × Cu) : Prop :=
  s.2.2.2.d = b ∧ okU s.2.2.2 ∧ s.2.2.2.e = 0 ∧ 0 ≤ s.2.1 ∧ s.2.1 ≤ 60129542130 ∧ 0 ≤ s.2.2.1 ∧ s.2.2.1 ≤ 60129542142 ∧
    ((s.1 = 0 ∧ s.2.1 = 0 ∧ s.2.2.1 = 0 ∧ s.2.2.2 = ⟨b, 0, 0, 0⟩) ∨ (s.1 = 1 ∧ s.2.1 ≤ 30064771065 ∧ s.2.2.1 ≤ 30064771071 ∧ measB s.2.1 s.2.2.1 s.2.2.2 = measU b) ∨ (s.1 = 2 ∧ (s.2.1 + footU s.2.2.2, s.2.2.1 + footU s.2.2.2) = measU b))
attribute [local irreducible] hdU decU expU elems ixB sumU restU footU
set_option maxHeartbeats 4000000 in
theorem g9_foot (b : List UInt8) (A L : Int) (c : Cu) (kk : Int) (hd : c.d = b) (ho : okU c) (he : c.e = 0) (a0 : 0 ≤ A) (a1 : A ≤ 60129542130) (l0' : 0 ≤ L) (l1' : L ≤ 60129542142) (hM : (A + footU c, L + footU c) = measU b) (K : List AV → Prop) (hK : K [.agg [i64 (measU b).1, i64 (measU b).2]]) :
    loopK L8 (bodyOf Tryz.f9) 0 (finK L8 Tryz.f9 K) (AX.exit 0) (oM9 b A L c kk) := by
  refine Eq.mpr (g9_out b A L c kk K) ?_
  obtain ⟨o1, o2, o3⟩ := ho
  rw [hd] at o2 o3
  have leaf : ∀ x y : Int, x = (measU b).1 → y = (measU b).2 → K [.agg [i64 x, i64 y]] := fun x y hx hy => by rw [hx, hy]; exact hK
  have gd : (c.d.drop c.p.toNat).getD 0 0 = b.getD c.p.toNat 0 := by
    rw [getD_drop, hd]; rfl
  refine ⟨fun _ => o1, fun h => by simpa using h, brn_intro (fun h => ?_) (fun h => ?_)⟩
  · have hf : footU c = 0 := by
      refine foot_none he ?_
      rw [hd] at gd ⊢
      rw [gd]
      simp only [Bool.or_eq_true, decide_eq_true_eq, bne_iff_ne, ne_eq] at h
      rcases h with h | h
      · exact .inl h
      · refine .inr fun e => h ?_
        rw [e]; rfl
    rw [hf] at hM
    exact leaf _ _ (by rw [← hM]; omega) (by rw [← hM]; omega)
  · simp only [Bool.or_eq_false_iff, decide_eq_false_iff_not, bne_eq_false_iff_eq] at h
    obtain ⟨hp, hx⟩ := h
    have hx' : b.getD c.p.toNat 0 = 10 := UInt8.toNat_inj.1 (by show _ = 10; omega)
    have hf := foot_some he o1 (by rw [hd]; omega) (by rw [gd]; exact hx')
    rw [hd] at hf
    have w1 : IntKind.wrap .i64 (c.p + 1) = c.p + 1 := wrap64 (by omega) (by omega)
    unfold LoopI
    refine loop_rule (fun i : Nat => hF9 b A L c (i : Int)) (fun i => c.p.toNat + 1 ≤ i ∧ i ≤ b.length ∧ ∀ j, c.p.toNat + 1 ≤ j → j < i → b.getD j 0 ≠ 10) (fun i => b.length - i) (fun i hP K' hnorm hexit => ?_) rfl (c.p.toNat + 1) pF9 _ ⟨Nat.le_refl _, by omega, fun j h1 h2 => by omega⟩ (by
      have w2 : ((c.p.toNat + 1 : Nat) : Int) = IntKind.wrap .i64 (c.p + 1) := by rw [w1]; omega
      show norm pF9 _ = some (hF9 b A L c ((c.p.toNat + 1 : Nat) : Int))
      rw [w2]
      kernel_rfl)
    obtain ⟨i1, i2, i3⟩ := hP
    rw [g9_lp2]
    refine brn_intro (fun h1 => ?_) (fun h1 => ?_)
    · have h1' : (i : Int) < (b.length : Int) := of_decide_eq_true h1
      have e2 : IntKind.wrap .i64 ((i : Int) + 1) = ((i + 1 : Nat) : Int) := by rw [wrap64 (by omega) (by omega)]; rfl
      refine ⟨by omega, h1', brn_intro (fun h2 => ?_) (fun h2 => ?_)⟩
      · have hb10 : b.getD i 0 = 10 := by
          have h2' : ((b.getD i 0).toNat : Int) = 10 := by simpa using h2
          exact UInt8.toNat_inj.1 (by show _ = 10; omega)
        have hix : ixB (b.drop (c.p.toNat + 1)) 10 = ((i - (c.p.toNat + 1) : Nat) : Int) := by
          refine ixB_some _ _ (by rw [List.length_drop]; omega) ?_ (fun j hj => ?_)
          · rw [getD_drop, show c.p.toNat + 1 + (i - (c.p.toNat + 1)) = i by omega]; exact hb10
          · rw [getD_drop]; exact i3 _ (by omega) (by omega)
        rw [hix, if_pos (by omega)] at hf
        rw [hf] at hM
        have k1 : (measU b).1 = A + ((i - (c.p.toNat + 1) : Nat) : Int) := by rw [← hM]
        have k2 : (measU b).2 = L + ((i - (c.p.toNat + 1) : Nat) : Int) := by rw [← hM]
        have hKK : K [.agg [i64 (IntKind.wrap .i64 (IntKind.wrap .i64 (IntKind.wrap .i64 (A + (i : Int)) - c.p) - 1)), i64 (IntKind.wrap .i64 (IntKind.wrap .i64 (IntKind.wrap .i64 (L + (i : Int)) - c.p) - 1))]] := by
          refine leaf _ _ ?_ ?_ <;> simp (disch := omega) only [wrap64] <;> omega
        exact hexit _ _ (by simp) (Eq.mp (by kernel_rfl) hKK)
      · simp only [e2]
        refine hnorm (i + 1) pF9 _ ⟨by omega, by omega, fun j j1 j2 => ?_⟩ (by omega) (by kernel_rfl)
        by_cases hji : j = i
        · subst hji
          intro e
          rw [Int.toNat_natCast, e] at h2
          simp at h2
        · exact i3 j j1 (by omega)
    · have h1' : ¬ ((i : Int) < (b.length : Int)) := of_decide_eq_false h1
      have hix : ixB (b.drop (c.p.toNat + 1)) 10 = -1 := by
        refine ixB_none _ (fun j hj => ?_)
        rw [List.length_drop] at hj
        rw [getD_drop]; exact i3 _ (by omega) (by omega)
      rw [hix, if_neg (by decide)] at hf
      rw [hf] at hM
      have hKK : K [.agg [i64 A, i64 L]] := leaf _ _ (by rw [← hM]; omega) (by rw [← hM]; omega)
      exact hexit _ _ (by simp) (Eq.mp (by kernel_rfl) hKK)
set_option maxHeartbeats 4000000 in
theorem g9_ev (b : List UInt8) (hb : (b.length : Int) ≤ big') (K : List AV → Prop) (hK : K [.agg [i64 (measU b).1, i64 (measU b).2]]) : evSpec L8 Tryz.f9 [by' b] K := by
  rw [g9_in]
  have hbig : big' = 1000000000000 := rfl
  have leaf : ∀ x y : Int, x = (measU b).1 → y = (measU b).2 → K [.agg [i64 x, i64 y]] := fun x y hx hy => by rw [hx, hy]; exact hK
  have o0 : okU ⟨b, 0, 0, 0⟩ := ⟨Int.le_refl 0, by show (0 : Int) ≤ (b.length : Int); omega, by show (b.length : Int) ≤ _; omega⟩
  unfold LoopI
  refine loop_rule (fun s : Nat × Int × Int × Cu => hM9 b s.2.1 s.2.2.1 s.2.2.2 (s.1 : Int)) (PM9 b) (fun s => 2 - s.1) (fun s hP K' hnorm hexit => ?_) rfl (0, 0, 0, ⟨b, 0, 0, 0⟩) pM9 _ ⟨rfl, o0, rfl, Int.le_refl 0, (by decide : (0 : Int) ≤ 60129542130), Int.le_refl 0, (by decide : (0 : Int) ≤ 60129542142), .inl ⟨rfl, rfl, rfl, rfl⟩⟩ (by kernel_rfl)
  obtain ⟨kk, A, L, c⟩ := s
  obtain ⟨hd, ho, he, a0, a1, b0, b1, hcase⟩ := hP
  simp only at hd ho he a0 a1 b0 b1 hcase
  rw [g9_lp]
  intro Q1 Q2 E1
  refine brn_intro (fun h1 => ?_) (fun h1 => ?_)
  · have h1' : (kk : Int) < 2 := of_decide_eq_true h1
    have hk : kk = 0 ∨ kk = 1 := by omega
    obtain ⟨n, hn, hsz, hw⟩ : ∃ n : Int, n = 4 + 4 * (kk : Int) ∧ sz48 n ∧ IntKind.wrap .i64 (4 + IntKind.wrap .i64 (4 * (kk : Int))) = n := by
      refine ⟨_, rfl, ?_, ?_⟩
      · rcases hk with rfl | rfl
        · exact .inl rfl
        · exact .inr rfl
      · rw [wrap64 (n := 4 * (kk : Int)) (by omega) (by omega), wrap64 (by omega) (by omega)]
    have hQ2 : Q2 = decU Q1.2 Q1.1 n 0 := by
      show decU Q1.2 Q1.1 _ 0 = _
      rw [hw]
    have hS : measU b = if Q1.2.e ≠ 0 then (A, L) else if sumU Q1.1 n ≤ restU Q1.2 then
        (if Q2.2.e ≠ 0 ∨ (kk = 0 ∧ Q1.1.v < 2) then (A + elems Q1.1, L + 6 + elems Q1.1) else if kk = 0 then measB (A + elems Q1.1) (L + 6 + elems Q1.1) Q2.2 else (A + elems Q1.1 + footU Q2.2, L + 6 + elems Q1.1 + footU Q2.2)) else (A, L + 6) := by
      have hno : ¬ (sumU Q1.1 n ≤ restU Q1.2) → Q1.2.e = 0 → Q2.2.e ≠ 0 := fun hf e1 e2 => by
        rw [hQ2] at e2
        exact hf (dec_e0 e2).2.1
      rcases hcase with ⟨rfl, rfl, rfl, rfl⟩ | ⟨rfl, _, _, hB⟩ | ⟨rfl, _⟩
      · have hn4 : n = 4 := by omega
        subst hn4
        have hA : measU b = if Q1.2.e ≠ 0 then (0, 0) else if Q2.2.e ≠ 0 ∨ Q1.1.v < 2 then ((if sumU Q1.1 4 ≤ restU Q1.2 then elems Q1.1 else 0), 6 + (if sumU Q1.1 4 ≤ restU Q1.2 then elems Q1.1 else 0)) else measB (if sumU Q1.1 4 ≤ restU Q1.2 then elems Q1.1 else 0) (6 + (if sumU Q1.1 4 ≤ restU Q1.2 then elems Q1.1 else 0)) Q2.2 := by
          rw [hQ2]; rfl
        rw [hA]
        by_cases q1 : Q1.2.e ≠ 0
        · rw [if_pos q1, if_pos q1]
        · rw [if_neg q1, if_neg q1]
          by_cases f1 : sumU Q1.1 4 ≤ restU Q1.2
          · simp only [f1, if_true, true_and, Int.zero_add]
          · have q2 := hno f1 (by simpa using q1)
            simp only [f1, if_false]
            rw [if_pos (.inl q2)]
            rfl
      · have hn8 : n = 8 := by omega
        subst hn8
        have hA : measB A L c = if Q1.2.e ≠ 0 then (A, L) else (A + (if sumU Q1.1 8 ≤ restU Q1.2 then elems Q1.1 else 0) + footU Q2.2, L + 6 + (if sumU Q1.1 8 ≤ restU Q1.2 then elems Q1.1 else 0) + footU Q2.2) := by
          rw [hQ2]; rfl
        rw [← hB, hA]
        by_cases q1 : Q1.2.e ≠ 0
        · rw [if_pos q1, if_pos q1]
        · rw [if_neg q1, if_neg q1]
          by_cases f1 : sumU Q1.1 8 ≤ restU Q1.2
          · simp only [f1, if_true]
            by_cases q2 : Q2.2.e ≠ 0
            · rw [if_pos (.inl q2), foot_stick q2]
              simp only [Int.add_zero]
            · rw [if_neg (by intro h; rcases h with h | h; exact q2 h; exact absurd h.1 (by decide)), if_neg (by decide)]
          · have q2 := hno f1 (by simpa using q1)
            simp only [f1, if_false]
            rw [foot_stick q2]
            simp only [Int.add_zero]
      · omega
    have hb1 : (kk = 0 ∧ A = 0 ∧ L = 0) ∨ (kk = 1 ∧ A ≤ 30064771065 ∧ L ≤ 30064771071) := by
      rcases hcase with ⟨h, h', h'', _⟩ | ⟨h, h', h'', _⟩ | ⟨h, _⟩
      · exact .inl ⟨h, h', h''⟩
      · exact .inr ⟨h, h', h''⟩
      · omega
    have o1 : okU Q1.2 := okU_hd ho
    have k1 : okH Q1.1 := okH_hd _
    have hv := hd_v c
    have hv0 : Q1.2.e = 0 → Q1.1.v ≠ 0 := fun e => (hd_pos e).2.2.2.1
    have hdd : Q1.2.d = b := (hd_d c).trans hd
    have o2 : okU Q2.2 := by rw [hQ2]; exact okU_dec o1 k1 hsz
    have d2 : Q2.2.d = b := by rw [hQ2]; exact dec_d.trans hdd
    have v1 : 0 ≤ Q1.1.v ∧ Q1.1.v ≤ 4 := hv
    have e1 := elems_rng k1
    have wL : IntKind.wrap .i64 (L + 6) = L + 6 := wrap64 (by omega) (by omega)
    have x1 : elems ⟨Q1.1.v, Q1.1.iu, Q1.1.is, Q1.1.l, Q1.1.t, Q1.1.ty, Q1.1.c⟩ = elems Q1.1 := rfl
    have wE : IntKind.wrap .i64 (elems Q1.1) = elems Q1.1 := wrap64 (by omega) (by omega)
    have wA : IntKind.wrap .i64 (A + elems Q1.1) = A + elems Q1.1 := wrap64 (by omega) (by omega)
    have wB : IntKind.wrap .i64 (L + 6 + elems Q1.1) = L + 6 + elems Q1.1 := wrap64 (by omega) (by omega)
    have wK : IntKind.wrap .i64 ((kk : Int) + 1) = ((kk + 1 : Nat) : Int) := by rw [wrap64 (by omega) (by omega)]; rfl
    have wU : Q1.2.e = 0 → IntKind.wrap .u64 (IntKind.wrap .i64 ((b.length : Int) - Q1.2.p)) = restU Q1.2 := fun e => by
      have h3 := restU_of e
      have h4 := restU_rng o1
      rw [hdd] at h3
      rw [← h3, wrap64 (by omega) (by omega), wrapU (by omega) (by omega)]
    refine ⟨ho, brn_intro (fun h2 => ?_) (fun h2 => ?_)⟩
    · have h2' : Q1.2.e ≠ 0 := by simpa using h2
      rw [if_pos h2'] at hS
      have hKK : K [.agg [i64 A, i64 L]] := leaf _ _ (by rw [hS]) (by rw [hS])
      exact hexit _ _ (by simp) (Eq.mp (by kernel_rfl) hKK)
    · have h2' : ¬ (Q1.2.e ≠ 0) := by simpa using h2
      have h2e : Q1.2.e = 0 := by simpa using h2
      rw [if_neg h2'] at hS
      have hsz' : sz48 (IntKind.wrap .i64 (4 + IntKind.wrap .i64 (4 * (kk : Int)))) := by rw [hw]; exact hsz
      refine ⟨⟨⟨k1, hsz', rfl⟩, k1, hsz', rfl⟩, brn_intro (fun h3 => ?_) (fun h3 => ⟨k1, o1, k1, hsz', ?_⟩)⟩
      · have h3' : sumU Q1.1 (IntKind.wrap .i64 (4 + IntKind.wrap .i64 (4 * (kk : Int)))) > IntKind.wrap .u64 (IntKind.wrap .i64 ((b.length : Int) - Q1.2.p)) := of_decide_eq_true h3
        rw [hw, wU h2e] at h3'
        rw [if_neg (by omega)] at hS
        have hKK : K [.agg [i64 A, i64 (IntKind.wrap .i64 (L + 6))]] := leaf _ _ (by rw [hS]) (by rw [hS, wL])
        exact hexit _ _ (by simp) (Eq.mp (by kernel_rfl) hKK)
      · have h3' : ¬ (sumU Q1.1 (IntKind.wrap .i64 (4 + IntKind.wrap .i64 (4 * (kk : Int)))) > IntKind.wrap .u64 (IntKind.wrap .i64 ((b.length : Int) - Q1.2.p))) := of_decide_eq_false h3
        rw [hw, wU h2e] at h3'
        rw [if_pos (by omega)] at hS
        refine brn_intro (fun h4 => ?_) (fun h4 => ?_)
        · have h4' : Q2.2.e ≠ 0 ∨ (kk = 0 ∧ Q1.1.v < 2) := by
            simp only [Bool.or_eq_true, bne_iff_ne, ne_eq, Bool.and_eq_true, beq_iff_eq] at h4
            rcases h4 with h4 | ⟨h4, h5⟩
            · exact .inl h4
            · exact .inr ⟨by omega, by rw [h5]; decide⟩
          rw [if_pos h4'] at hS
          have hKK : K [.agg [i64 (IntKind.wrap .i64 (A + IntKind.wrap .i64 (elems ⟨Q1.1.v, Q1.1.iu, Q1.1.is, Q1.1.l, Q1.1.t, Q1.1.ty, Q1.1.c⟩))), i64 (IntKind.wrap .i64 (IntKind.wrap .i64 (L + 6) + IntKind.wrap .i64 (elems ⟨Q1.1.v, Q1.1.iu, Q1.1.is, Q1.1.l, Q1.1.t, Q1.1.ty, Q1.1.c⟩)))]] := by
            rw [x1, wE, wL]
            exact leaf _ _ (by rw [hS, wA]) (by rw [hS, wB])
          exact hexit _ _ (by simp) (Eq.mp (by kernel_rfl) hKK)
        · have h4' : ¬ (Q2.2.e ≠ 0 ∨ (kk = 0 ∧ Q1.1.v < 2)) := by
            simp only [Bool.or_eq_false_iff, bne_eq_false_iff_eq, Bool.and_eq_false_iff, beq_eq_false_iff_ne, ne_eq] at h4
            obtain ⟨h5, h6⟩ := h4
            intro h7
            rcases h7 with h7 | ⟨h7, h8⟩
            · exact h7 h5
            · rcases h6 with h6 | h6
              · omega
              · have := hv0 h2e
                have h9 : Q1.1.v ≠ 1 := h6
                omega
          rw [if_neg h4'] at hS
          have q2e : Q2.2.e = 0 := Classical.byContradiction fun h => h4' (.inl h)
          simp only [x1, wE, wL, wA, wB, wK]
          refine hnorm (kk + 1, A + elems Q1.1, L + 6 + elems Q1.1, Q2.2) pM9 _ ⟨d2, o2, q2e, by show 0 ≤ A + _; omega, by show A + _ ≤ _; omega, by show 0 ≤ L + 6 + _; omega, by show L + 6 + _ ≤ _; omega, ?_⟩ (by show 2 - (kk + 1) < 2 - kk; omega) (by kernel_rfl)
          rcases hb1 with ⟨rfl, rfl, rfl⟩ | ⟨rfl, _, _⟩
          · refine .inr (.inl ⟨rfl, by show 0 + _ ≤ _; omega, by show 0 + 6 + _ ≤ _; omega, ?_⟩)
            rw [if_pos rfl] at hS
            exact hS.symm
          · refine .inr (.inr ⟨rfl, ?_⟩)
            rw [if_neg (by decide)] at hS
            exact hS.symm
  · have h1' : ¬ ((kk : Int) < 2) := of_decide_eq_false h1
    rcases hcase with ⟨h, _⟩ | ⟨h, _⟩ | ⟨h, hM⟩
    · omega
    · omega
    · have key := g9_foot b A L c (kk : Int) hd ho he a0 a1 b0 b1 hM K hK
      exact hexit _ _ (by simp) (Eq.mp (by kernel_rfl) key)
theorem ok9e : ∀ args pres res, sMeas args = some (pres, res) → SpecOK Tryz.prog G16 9 args pres res := by
  intro args pres res h
  unfold sMeas at h
  split at h
  case h_2 => cases h
  cases h
  exact spec_ok (C := L8) okF10 noCall_ok Tryz.func9 (by kernel_rfl) (by kernel_rfl) (fun hp => g9_ev _ (hp _ (by simp)) _ rfl)
end Y27
namespace Y27
open Go Go.AE Go.Proofs E6
def alwU (c : Int) : Bool := c == (43 : Int) || c == (45 : Int) || decide (c ≥ (48 : Int)) && decide (c ≤ (57 : Int)) || decide (c ≥ (65 : Int)) && decide (c ≤ (90 : Int)) || decide (c ≥ (97 : Int)) && decide (c ≤ (122 : Int))
def alphaU (c : Int) : Bool := decide (c ≥ (65 : Int)) && decide (c ≤ (90 : Int)) || decide (c ≥ (97 : Int)) && decide (c ≤ (122 : Int))
def digU (s : List UInt8) (i : Int) : Bool := decide (i < (s.length : Int)) && decide (((s.getD (Int.toNat i) 0).toNat : Int) ≥ (48 : Int)) && decide (((s.getD (Int.toNat i) 0).toNat : Int) ≤ (57 : Int))
def in9 (n : Int) : Bool := decide (n ≥ (-89999 : Int)) && decide (n ≤ (89999 : Int))
def lateU (f : Int) : Bool := decide (f < (0 : Int)) || decide (f > (86400 : Int))
def extU (h : Bool) (f g : Int) : Bool := h && (lateU f || lateU g)
def sAlw : List AV → Option (List Prop × List AV)
  | [.imm (.int .u8 c)] => some ([], [bo (alwU c)])
  | _ => none
def sAlpha : List AV → Option (List Prop × List AV)
  | [.imm (.int .u8 c)] => some ([], [bo (alphaU c)])
  | _ => none
def sDig : List AV → Option (List Prop × List AV)
  | [.imm (.str s), .imm (.int .i64 i)] => some ([0 ≤ i], [bo (digU s i)])
  | _ => none
def sIn9 : List AV → Option (List Prop × List AV)
  | [.imm (.int .i64 n)] => some ([], [bo (in9 n)])
  | _ => none
def sLate : List AV → Option (List Prop × List AV)
  | [.agg [.imm (.int .i64 a), .imm (.int .i64 b), .imm (.int .i64 c), .imm (.int .i64 d), .imm (.int .i64 e), .imm (.int .i64 f)]] => some ([], [bo (lateU f)])
  | _ => none
def rdC (a b c d e f : Int) : List AV := [i64 a, i64 b, i64 c, i64 d, i64 e, i64 f]
def ruC (s : List UInt8) (o : Int) (h : Bool) (t : List UInt8) (p : Int) (x y : List AV) : List AV := [.imm (.str s), i64 o, bo h, .imm (.str t), i64 p] ++ (x ++ y)
def sExt : List AV → Option (List Prop × List AV)
  | [.agg [.imm (.str s), .imm (.int .i64 o), .imm (.bool h), .imm (.str t), .imm (.int .i64 p), .imm (.int .i64 a), .imm (.int .i64 b), .imm (.int .i64 c), .imm (.int .i64 d), .imm (.int .i64 e), .imm (.int .i64 f), .imm (.int .i64 a'), .imm (.int .i64 b'), .imm (.int .i64 c'), .imm (.int .i64 d'), .imm (.int .i64 e'), .imm (.int .i64 f')]] => some ([], [bo (extU h f f')])
  | _ => none
def F11 := addE (addE F10 10 sMeas) 9 sMeas
noncomputable def L9 : Cx := ⟨Tryz.prog, F11, noCall, G16, 4005⟩
noncomputable def LX : Cx := ⟨Tryz.prog, F11, noCall, G16, 4009⟩
def F12 := addE (addE (addE (addE (addE (addE F11 14 sWB) 112 sAlw) 131 sAlpha) 115 sDig) 96 sIn9) 99 sLate
noncomputable def LY : Cx := ⟨Tryz.prog, F12, noCall, G16, 4009⟩
def F13 := addE F12 68 sExt
noncomputable def IS : FuncId → Option Func := fun f => bif Nat.beq f 19 then some Tryz.f19 else bif Nat.beq f 37 then some Tryz.f37 else bif Nat.beq f 39 then some Tryz.f39 else bif Nat.beq f 57 then some Tryz.f57 else bif Nat.beq f 58 then some Tryz.f58 else bif Nat.beq f 59 then some Tryz.f59 else bif Nat.beq f 60 then some Tryz.f60 else bif Nat.beq f 61 then some Tryz.f61 else bif Nat.beq f 67 then some Tryz.f67 else bif Nat.beq f 92 then some Tryz.f92 else bif Nat.beq f 93 then some Tryz.f93 else bif Nat.beq f 94 then some Tryz.f94 else bif Nat.beq f 95 then some Tryz.f95 else bif Nat.beq f 113 then some Tryz.f113 else bif Nat.beq f 114 then some Tryz.f114 else bif Nat.beq f 116 then some Tryz.f116 else none
noncomputable def LS : Cx := ⟨Tryz.prog, F13, inl IS Tryz.prog F13 G16 95172 8, G16, 95172⟩
def slimC : List AV := [.imm (.ints .i64 []), by' [], .imm (.sl 3 [[.int .i32 0, .bool false, .int .u8 0]]), by' [0], .imm (.sl 2 []), .imm (.bools []), .imm (.bools [])]
def zeroC : List AV := [.imm (.ints .i64 []), by' [], .imm (.sl 3 []), by' [], .imm (.sl 2 []), .imm (.bools []), .imm (.bools [])]
def fileOne : AV := .agg (i64 1 :: (slimC ++ zeroC ++ [.imm (.str [])]))
def fileTwo : AV := .agg (i64 2 :: (slimC ++ slimC ++ [.imm (.str [85, 84, 67, 48])]))
end Y27
set_option maxRecDepth 100000
namespace Y27
open Go Go.AE Go.Proofs E6
attribute [local irreducible] loopK evCode evSpec loopB norm
theorem g14_in (b : List UInt8) (K : List AV → Prop) : evSpec L9 Tryz.f14 [by' b] K =
  (let Q1 : Int × Int := (measU b); (↑(List.length b) : Int) ≤ big' ∧ (0 : Int) ≤ (↑(List.length b) : Int) ∧ (↑(List.length b) : Int) ≤ (1099511627776 : Int) ∧ K [AV.imm (IV.bool (decide (Prod.fst Q1 ≤ (4 : Int) * (↑(List.length b) : Int) + (64 : Int)) && decide (Prod.snd Q1 ≤ (16 : Int) * (↑(List.length b) : Int) + (64 : Int))))]) := by kernel_rfl
theorem g112_in (c : Int) (K : List AV → Prop) : evSpec LX Tryz.f112 [.imm (.int .u8 c)] K = (K [bo (c == 43 || c == 45 || decide (c ≥ 48) && decide (c ≤ 57) || decide (c ≥ 65) && decide (c ≤ 90) || decide (c ≥ 97) && decide (c ≤ 122))]) := by kernel_rfl
theorem g131_in (c : Int) (K : List AV → Prop) : evSpec LX Tryz.f131 [.imm (.int .u8 c)] K = (K [bo (decide (c ≥ 65) && decide (c ≤ 90) || decide (c ≥ 97) && decide (c ≤ 122))]) := by kernel_rfl
theorem g115_in (s : List UInt8) (i : Int) (K : List AV → Prop) : evSpec LX Tryz.f115 [.imm (.str s), i64 i] K = ((decide (i < (s.length : Int)) = true → (0 : Int) ≤ i) ∧ (decide (i < (s.length : Int)) = true → i < (s.length : Int)) ∧ ((decide (i < (s.length : Int)) && decide ((↑(UInt8.toNat (List.getD s i.toNat (0 : UInt8))) : Int) ≥ 48)) = true → (0 : Int) ≤ i) ∧ ((decide (i < (s.length : Int)) && decide ((↑(UInt8.toNat (List.getD s i.toNat (0 : UInt8))) : Int) ≥ 48)) = true → i < (s.length : Int)) ∧ K [bo (decide (i < (s.length : Int)) && decide ((↑(UInt8.toNat (List.getD s i.toNat (0 : UInt8))) : Int) ≥ 48) && decide ((↑(UInt8.toNat (List.getD s i.toNat (0 : UInt8))) : Int) ≤ 57))]) := by kernel_rfl
theorem g96_in (n : Int) (K : List AV → Prop) : evSpec LX Tryz.f96 [i64 n] K =
  (K [AV.imm (IV.bool (decide (n ≥ (-89999 : Int)) && decide (n ≤ (89999 : Int))))]) := by kernel_rfl
theorem g99_in (a : Int) (b : Int) (c : Int) (d : Int) (e : Int) (f : Int) (K : List AV → Prop) : evSpec LX Tryz.f99 [.agg [i64 a, i64 b, i64 c, i64 d, i64 e, i64 f]] K = (K [bo (decide (f < 0) || decide (f > 86400))]) := by kernel_rfl
theorem g68_in (s : List UInt8) (o : Int) (h : Bool) (t : List UInt8) (p : Int) (a : Int) (b : Int) (c : Int) (d : Int) (e : Int) (f : Int) (a' : Int) (b' : Int) (c' : Int) (d' : Int) (e' : Int) (f' : Int) (K : List AV → Prop) : evSpec LY Tryz.f68 [.agg (ruC s o h t p (rdC a b c d e f) (rdC a' b' c' d' e' f'))] K = (K [bo (h && (lateU f || lateU f'))]) := by kernel_rfl
end Y27
set_option maxRecDepth 100000
namespace Y27
open Go Go.AE Go.Proofs E6
attribute [local irreducible] loopK evCode evSpec loopB norm
theorem g20_one (K : List AV → Prop) : evSpec LS Tryz.f20 [fileOne] K = (let Q1 : Hd := (hdOf [] [[IV.int IntKind.i32 (0 : Int), IV.bool false, IV.int .u8 0]] [(0 : UInt8)] [] [] [] (1 : Int)); let Q2 : List UInt8 := (hdB (Hd.mk (Hd.v Q1) (Hd.iu Q1) (Hd.is Q1) (Hd.l Q1) (Hd.t Q1) (Hd.ty Q1) (Hd.c Q1))); let Q3 : List UInt8 := (encB [] [] (tys [[IV.int IntKind.i32 (0 : Int), IV.bool false, IV.int .u8 0]]) [(0 : UInt8)] (lps []) [] [] (4 : Int).toNat); sz48 (4 : Int) ∧ (↑([] : List UInt8).length : Int) ≤ big ∧ (0 : Int) ≤ 0 ∧ (0 : Int) < (↑(List.length [[IV.int IntKind.i32 (0 : Int), IV.bool false, IV.int .u8 0]]) : Int) ∧ kcells (List.getD [[IV.int IntKind.i32 (0 : Int), IV.bool false, IV.int .u8 0]] (0 : Int).toNat []) (0 : Nat) (lapp [CK.int IntKind.i32] (lapp [CK.bool] (lapp [CK.int IntKind.u8] []))) = List.getD [[IV.int IntKind.i32 (0 : Int), IV.bool false, IV.int .u8 0]] (0 : Int).toNat [] ∧ (0 : Int) ≤ 0 ∧ (0 : Int) < (↑(List.length [[IV.int IntKind.i32 (0 : Int), IV.bool false, IV.int .u8 0]]) : Int) ∧ kcells (List.getD [[IV.int IntKind.i32 (0 : Int), IV.bool false, IV.int .u8 0]] (0 : Int).toNat []) (0 : Nat) (lapp [CK.int IntKind.i32] (lapp [CK.bool] (lapp [CK.int
 IntKind.u8] []))) = List.getD [[IV.int IntKind.i32 (0 : Int), IV.bool false, IV.int .u8 0]] (0 : Int).toNat [] ∧ (0 : Int) ≤ 0 ∧ (0 : Int) < (↑(List.length [(0 : UInt8)]) : Int) ∧ (((↑(UInt8.toNat (List.getD [(0 : UInt8)] (0 : Int).toNat (0 : UInt8))) : Int) != 0) = true → (0 : Int) ≤ 0) ∧ (((↑(UInt8.toNat (List.getD [(0 : UInt8)] (0 : Int).toNat (0 : UInt8))) : Int) != 0) = true → (0 : Int) < (↑(List.length [(0 : UInt8)]) : Int)) ∧ (decide ((↑(List.length [(0 : UInt8)]) : Int) > 0) = true → (0 : Int) ≤ IntKind.wrap .i64 ((↑(List.length [(0 : UInt8)]) : Int) - 1)) ∧ (decide ((↑(List.length [(0 : UInt8)]) : Int) > 0) = true → IntKind.wrap .i64 ((↑(List.length [(0 : UInt8)]) : Int) - 1) < (↑(List.length [(0 : UInt8)]) : Int)) ∧ ((!decide (([] : List UInt8) = [])) = false → okB [] [] [] [] [] [] []) ∧ ((!decide (([] : List UInt8) = [])) = false → okB [] [] [] [] [] [] []) ∧ (1 : Int) ≤ Hd.v Q1 ∧ Hd.v Q1 ≤ 4 ∧ okH (Hd.mk (Hd.v Q1) (Hd.iu Q1) (Hd.is Q1) (Hd.l Q1) (Hd.t Q1) (Hd.ty Q1) (Hd.c Q1)) ∧ Y27.okE [] [] [[IV.int IntKind.i32 (0 : Int), IV.bool false, IV.int .u8 0]] [(0 : UInt8)] [] [] [] ∧ sz48 (4 : Int) ∧ (List.length Q2 + List.length Q3) * 1 ≤ 140737488355328 ∧ List.length Q2 +
 List.length Q3 ≤ 140737488355328 ∧ K [AV.new (IV.bytes (Q2 ++ Q3)), i64 0]) := by kernel_rfl
theorem g20_two (K : List AV → Prop) : evSpec LS Tryz.f20 [fileTwo] K = (let Q1 : Hd := (hdOf [] [[IV.int IntKind.i32 (0 : Int), IV.bool false, IV.int .u8 0]] [(0 : UInt8)] [] [] [] (2 : Int)); let Q2 : List UInt8 := (hdB (Hd.mk (Hd.v Q1) (Hd.iu Q1) (Hd.is Q1) (Hd.l Q1) (Hd.t Q1) (Hd.ty Q1) (Hd.c Q1))); let Q3 : List UInt8 := (encB [] [] (tys [[IV.int IntKind.i32 (0 : Int), IV.bool false, IV.int .u8 0]]) [(0 : UInt8)] (lps []) [] [] (4 : Int).toNat); let Q4 : List UInt8 := (encB [] [] (tys [[IV.int IntKind.i32 (0 : Int), IV.bool false, IV.int .u8 0]]) [(0 : UInt8)] (lps []) [] [] (8 : Int).toNat); sz48 (4 : Int) ∧ (↑([] : List UInt8).length : Int) ≤ big ∧ (0 : Int) ≤ 0 ∧ (0 : Int) < (↑(List.length [[IV.int IntKind.i32 (0 : Int), IV.bool false, IV.int .u8 0]]) : Int) ∧ kcells (List.getD [[IV.int IntKind.i32 (0 : Int), IV.bool false, IV.int .u8 0]] (0 : Int).toNat []) (0 : Nat) (lapp [CK.int IntKind.i32] (lapp [CK.bool] (lapp [CK.int IntKind.u8] []))) = List.getD [[IV.int IntKind.i32 (0 : Int), IV.bool false, IV.int .u8 0]] (0 : Int).toNat [] ∧ (0 : Int) ≤ 0 ∧ (0 : Int) < (↑(List.length [[IV.int IntKind.i32 (0 : Int), IV.bool false, IV.int .u8 0]]) : Int) ∧ kcells (List.getD [[IV.int
 IntKind.i32 (0 : Int), IV.bool false, IV.int .u8 0]] (0 : Int).toNat []) (0 : Nat) (lapp [CK.int IntKind.i32] (lapp [CK.bool] (lapp [CK.int IntKind.u8] []))) = List.getD [[IV.int IntKind.i32 (0 : Int), IV.bool false, IV.int .u8 0]] (0 : Int).toNat [] ∧ (0 : Int) ≤ 0 ∧ (0 : Int) < (↑(List.length [(0 : UInt8)]) : Int) ∧ (((↑(UInt8.toNat (List.getD [(0 : UInt8)] (0 : Int).toNat (0 : UInt8))) : Int) != 0) = true → (0 : Int) ≤ 0) ∧ (((↑(UInt8.toNat (List.getD [(0 : UInt8)] (0 : Int).toNat (0 : UInt8))) : Int) != 0) = true → (0 : Int) < (↑(List.length [(0 : UInt8)]) : Int)) ∧ (decide ((↑(List.length [(0 : UInt8)]) : Int) > 0) = true → (0 : Int) ≤ IntKind.wrap .i64 ((↑(List.length [(0 : UInt8)]) : Int) - 1)) ∧ (decide ((↑(List.length [(0 : UInt8)]) : Int) > 0) = true → IntKind.wrap .i64 ((↑(List.length [(0 : UInt8)]) : Int) - 1) < (↑(List.length [(0 : UInt8)]) : Int)) ∧ sz48 (8 : Int) ∧ (↑([] : List UInt8).length : Int) ≤ big ∧ (0 : Int) ≤ 0 ∧ (0 : Int) < (↑(List.length [[IV.int IntKind.i32 (0 : Int), IV.bool false, IV.int .u8 0]]) : Int) ∧ kcells (List.getD [[IV.int IntKind.i32 (0 : Int), IV.bool false, IV.int .u8 0]] (0 : Int).toNat []) (0 : Nat) (lapp [CK.int IntKind.i32] (lapp
 [CK.bool] (lapp [CK.int IntKind.u8] []))) = List.getD [[IV.int IntKind.i32 (0 : Int), IV.bool false, IV.int .u8 0]] (0 : Int).toNat [] ∧ (0 : Int) ≤ 0 ∧ (0 : Int) < (↑(List.length [[IV.int IntKind.i32 (0 : Int), IV.bool false, IV.int .u8 0]]) : Int) ∧ kcells (List.getD [[IV.int IntKind.i32 (0 : Int), IV.bool false, IV.int .u8 0]] (0 : Int).toNat []) (0 : Nat) (lapp [CK.int IntKind.i32] (lapp [CK.bool] (lapp [CK.int IntKind.u8] []))) = List.getD [[IV.int IntKind.i32 (0 : Int), IV.bool false, IV.int .u8 0]] (0 : Int).toNat [] ∧ (0 : Int) ≤ 0 ∧ (0 : Int) < (↑(List.length [(0 : UInt8)]) : Int) ∧ (((↑(UInt8.toNat (List.getD [(0 : UInt8)] (0 : Int).toNat (0 : UInt8))) : Int) != 0) = true → (0 : Int) ≤ 0) ∧ (((↑(UInt8.toNat (List.getD [(0 : UInt8)] (0 : Int).toNat (0 : UInt8))) : Int) != 0) = true → (0 : Int) < (↑(List.length [(0 : UInt8)]) : Int)) ∧ (decide ((↑(List.length [(0 : UInt8)]) : Int) > 0) = true → (0 : Int) ≤ IntKind.wrap .i64 ((↑(List.length [(0 : UInt8)]) : Int) - 1)) ∧ (decide ((↑(List.length [(0 : UInt8)]) : Int) > 0) = true → IntKind.wrap .i64 ((↑(List.length [(0 : UInt8)]) : Int) - 1) < (↑(List.length [(0 : UInt8)]) : Int)) ∧ (decide ((↑(List.length [(85 : UInt8), (84 :
 UInt8), (67 : UInt8), (48 : UInt8)]) : Int) > 0) = true → (0 : Int) ≤ 0) ∧ (decide ((↑(List.length [(85 : UInt8), (84 : UInt8), (67 : UInt8), (48 : UInt8)]) : Int) > 0) = true → (0 : Int) < (↑(List.length [(85 : UInt8), (84 : UInt8), (67 : UInt8), (48 : UInt8)]) : Int)) ∧ (decide ((0 : Int) < (↑(List.length [(85 : UInt8), (84 : UInt8), (67 : UInt8), (48 : UInt8)]) : Int)) = true → (0 : Int) ≤ 0) ∧ (decide ((0 : Int) < (↑(List.length [(85 : UInt8), (84 : UInt8), (67 : UInt8), (48 : UInt8)]) : Int)) = true → (0 : Int) < (↑(List.length [(85 : UInt8), (84 : UInt8), (67 : UInt8), (48 : UInt8)]) : Int)) ∧ (decide ((1 : Int) < (↑(List.length [(85 : UInt8), (84 : UInt8), (67 : UInt8), (48 : UInt8)]) : Int)) = true → (0 : Int) ≤ 1) ∧ (decide ((1 : Int) < (↑(List.length [(85 : UInt8), (84 : UInt8), (67 : UInt8), (48 : UInt8)]) : Int)) = true → (1 : Int) < (↑(List.length [(85 : UInt8), (84 : UInt8), (67 : UInt8), (48 : UInt8)]) : Int)) ∧ (decide ((2 : Int) < (↑(List.length [(85 : UInt8), (84 : UInt8), (67 : UInt8), (48 : UInt8)]) : Int)) = true → (0 : Int) ≤ 2) ∧ (decide ((2 : Int) < (↑(List.length [(85 : UInt8), (84 : UInt8), (67 : UInt8), (48 : UInt8)]) : Int)) = true → (2 : Int) <
 (↑(List.length [(85 : UInt8), (84 : UInt8), (67 : UInt8), (48 : UInt8)]) : Int)) ∧ (decide ((3 : Int) < (↑(List.length [(85 : UInt8), (84 : UInt8), (67 : UInt8), (48 : UInt8)]) : Int)) = true → (0 : Int) ≤ 3) ∧ (decide ((3 : Int) < (↑(List.length [(85 : UInt8), (84 : UInt8), (67 : UInt8), (48 : UInt8)]) : Int)) = true → (3 : Int) < (↑(List.length [(85 : UInt8), (84 : UInt8), (67 : UInt8), (48 : UInt8)]) : Int)) ∧ (0 : Int) ≤ 3 ∧ (3 : Int) ≤ (↑(List.length [(85 : UInt8), (84 : UInt8), (67 : UInt8), (48 : UInt8)]) : Int) ∧ (0 : Int) ≤ 0 ∧ (0 : Int) < (↑(List.take ((3 : Int).toNat - 0) (List.drop (0 : Nat) [(85 : UInt8), (84 : UInt8), (67 : UInt8), (48 : UInt8)])).length : Int) ∧ (0 : Int) ≤ 1 ∧ (1 : Int) < (↑(List.take ((3 : Int).toNat - 0) (List.drop (0 : Nat) [(85 : UInt8), (84 : UInt8), (67 : UInt8), (48 : UInt8)])).length : Int) ∧ (0 : Int) ≤ 2 ∧ (2 : Int) < (↑(List.take ((3 : Int).toNat - 0) (List.drop (0 : Nat) [(85 : UInt8), (84 : UInt8), (67 : UInt8), (48 : UInt8)])).length : Int) ∧ (0 : Int) ≤ 3 ∧ (3 : Int) ≤ (↑(List.length [(85 : UInt8), (84 : UInt8), (67 : UInt8), (48 : UInt8)]) : Int) ∧ (0 : Int) ≤ 3 ∧ (3 : Int) ≤ (↑(List.length [(85 : UInt8), (84 : UInt8), (67 : UInt8),
 (48 : UInt8)]) : Int) ∧ (decide ((↑(List.take (List.length [(85 : UInt8), (84 : UInt8), (67 : UInt8), (48 : UInt8)] - (3 : Int).toNat) (List.drop (3 : Int).toNat [(85 : UInt8), (84 : UInt8), (67 : UInt8), (48 : UInt8)])).length : Int) > 0) = true → (0 : Int) ≤ 0) ∧ (decide ((↑(List.take (List.length [(85 : UInt8), (84 : UInt8), (67 : UInt8), (48 : UInt8)] - (3 : Int).toNat) (List.drop (3 : Int).toNat [(85 : UInt8), (84 : UInt8), (67 : UInt8), (48 : UInt8)])).length : Int) > 0) = true → (0 : Int) < (↑(List.take (List.length [(85 : UInt8), (84 : UInt8), (67 : UInt8), (48 : UInt8)] - (3 : Int).toNat) (List.drop (3 : Int).toNat [(85 : UInt8), (84 : UInt8), (67 : UInt8), (48 : UInt8)])).length : Int)) ∧ (decide ((↑(List.take (List.length [(85 : UInt8), (84 : UInt8), (67 : UInt8), (48 : UInt8)] - (3 : Int).toNat) (List.drop (3 : Int).toNat [(85 : UInt8), (84 : UInt8), (67 : UInt8), (48 : UInt8)])).length : Int) > 0) = true → ((↑(UInt8.toNat (List.getD (List.take (List.length [(85 : UInt8), (84 : UInt8), (67 : UInt8), (48 : UInt8)] - (3 : Int).toNat) (List.drop (3 : Int).toNat [(85 : UInt8), (84 : UInt8), (67 : UInt8), (48 : UInt8)])) (0 : Int).toNat (0 : UInt8))) : Int) == 43) = false →
 (0 : Int) ≤ 0) ∧ (decide ((↑(List.take (List.length [(85 : UInt8), (84 : UInt8), (67 : UInt8), (48 : UInt8)] - (3 : Int).toNat) (List.drop (3 : Int).toNat [(85 : UInt8), (84 : UInt8), (67 : UInt8), (48 : UInt8)])).length : Int) > 0) = true → ((↑(UInt8.toNat (List.getD (List.take (List.length [(85 : UInt8), (84 : UInt8), (67 : UInt8), (48 : UInt8)] - (3 : Int).toNat) (List.drop (3 : Int).toNat [(85 : UInt8), (84 : UInt8), (67 : UInt8), (48 : UInt8)])) (0 : Int).toNat (0 : UInt8))) : Int) == 43) = false → (0 : Int) < (↑(List.take (List.length [(85 : UInt8), (84 : UInt8), (67 : UInt8), (48 : UInt8)] - (3 : Int).toNat) (List.drop (3 : Int).toNat [(85 : UInt8), (84 : UInt8), (67 : UInt8), (48 : UInt8)])).length : Int)) ∧ (0 : Int) ≤ IntKind.wrap .i64 ((0 : Int) + 0) ∧ (0 : Int) ≤ IntKind.wrap .i64 ((0 : Int) + 0) ∧ IntKind.wrap .i64 ((0 : Int) + 0) < (↑(List.take (List.length [(85 : UInt8), (84 : UInt8), (67 : UInt8), (48 : UInt8)] - (3 : Int).toNat) (List.drop (3 : Int).toNat [(85 : UInt8), (84 : UInt8), (67 : UInt8), (48 : UInt8)])).length : Int) ∧ (0 : Int) ≤ IntKind.wrap .i64 ((0 : Int) + 1) ∧ (decide ((1 : Int) ≥ (↑(List.take (List.length [(85 : UInt8), (84 : UInt8), (67 : UInt8),
 (48 : UInt8)] - (3 : Int).toNat) (List.drop (3 : Int).toNat [(85 : UInt8), (84 : UInt8), (67 : UInt8), (48 : UInt8)])).length : Int)) = false → (0 : Int) ≤ 1) ∧ (decide ((1 : Int) ≥ (↑(List.take (List.length [(85 : UInt8), (84 : UInt8), (67 : UInt8), (48 : UInt8)] - (3 : Int).toNat) (List.drop (3 : Int).toNat [(85 : UInt8), (84 : UInt8), (67 : UInt8), (48 : UInt8)])).length : Int)) = false → (1 : Int) < (↑(List.take (List.length [(85 : UInt8), (84 : UInt8), (67 : UInt8), (48 : UInt8)] - (3 : Int).toNat) (List.drop (3 : Int).toNat [(85 : UInt8), (84 : UInt8), (67 : UInt8), (48 : UInt8)])).length : Int)) ∧ ((decide ((1 : Int) ≥ (↑(List.take (List.length [(85 : UInt8), (84 : UInt8), (67 : UInt8), (48 : UInt8)] - (3 : Int).toNat) (List.drop (3 : Int).toNat [(85 : UInt8), (84 : UInt8), (67 : UInt8), (48 : UInt8)])).length : Int)) || (↑(UInt8.toNat (List.getD (List.take (List.length [(85 : UInt8), (84 : UInt8), (67 : UInt8), (48 : UInt8)] - (3 : Int).toNat) (List.drop (3 : Int).toNat [(85 : UInt8), (84 : UInt8), (67 : UInt8), (48 : UInt8)])) (1 : Int).toNat (0 : UInt8))) : Int) != 58) = false → (0 : Int) ≤ IntKind.wrap .i64 ((1 : Int) + 1)) ∧ ((decide ((1 : Int) ≥ (↑(List.take
 (List.length [(85 : UInt8), (84 : UInt8), (67 : UInt8), (48 : UInt8)] - (3 : Int).toNat) (List.drop (3 : Int).toNat [(85 : UInt8), (84 : UInt8), (67 : UInt8), (48 : UInt8)])).length : Int)) || (↑(UInt8.toNat (List.getD (List.take (List.length [(85 : UInt8), (84 : UInt8), (67 : UInt8), (48 : UInt8)] - (3 : Int).toNat) (List.drop (3 : Int).toNat [(85 : UInt8), (84 : UInt8), (67 : UInt8), (48 : UInt8)])) (1 : Int).toNat (0 : UInt8))) : Int) != 58 || !digU (List.take (List.length [(85 : UInt8), (84 : UInt8), (67 : UInt8), (48 : UInt8)] - (3 : Int).toNat) (List.drop (3 : Int).toNat [(85 : UInt8), (84 : UInt8), (67 : UInt8), (48 : UInt8)])) (IntKind.wrap .i64 ((1 : Int) + 1))) = false → (0 : Int) ≤ IntKind.wrap .i64 ((1 : Int) + 2)) ∧ (0 : Int) ≤ 0 ∧ (0 : Int) < (↑(List.take (List.length [(85 : UInt8), (84 : UInt8), (67 : UInt8), (48 : UInt8)] - (3 : Int).toNat) (List.drop (3 : Int).toNat [(85 : UInt8), (84 : UInt8), (67 : UInt8), (48 : UInt8)])).length : Int) ∧ (1 : Int) ≤ Hd.v Q1 ∧ Hd.v Q1 ≤ 4 ∧ okH (Hd.mk (Hd.v Q1) (Hd.iu Q1) (Hd.is Q1) (Hd.l Q1) (Hd.t Q1) (Hd.ty Q1) (Hd.c Q1)) ∧ Y27.okE [] [] [[IV.int IntKind.i32 (0 : Int), IV.bool false, IV.int .u8 0]] [(0 : UInt8)] [] [] [] ∧ sz48
 (4 : Int) ∧ (List.length Q2 + List.length Q3) * 1 ≤ 140737488355328 ∧ List.length Q2 + List.length Q3 ≤ 140737488355328 ∧ (1 : Int) ≤ Hd.v Q1 ∧ Hd.v Q1 ≤ 4 ∧ okH (Hd.mk (Hd.v Q1) (Hd.iu Q1) (Hd.is Q1) (Hd.l Q1) (Hd.t Q1) (Hd.ty Q1) (Hd.c Q1)) ∧ ((Q2 ++ Q3).length + List.length Q2) * 1 ≤ 140737488355328 ∧ (Q2 ++ Q3).length + List.length Q2 ≤ 140737488355328 ∧ Y27.okE [] [] [[IV.int IntKind.i32 (0 : Int), IV.bool false, IV.int .u8 0]] [(0 : UInt8)] [] [] [] ∧ sz48 (8 : Int) ∧ ((Q2 ++ Q3 ++ Q2).length + List.length Q4) * 1 ≤ 140737488355328 ∧ (Q2 ++ Q3 ++ Q2).length + List.length Q4 ≤ 140737488355328 ∧ ((Q2 ++ Q3 ++ Q2 ++ Q4).length + (List.map u8 [(10 : Int)]).length) * 1 ≤ 140737488355328 ∧ (Q2 ++ Q3 ++ Q2 ++ Q4).length + (List.map u8 [(10 : Int)]).length ≤ 140737488355328 ∧ List.length [(85 : UInt8), (84 : UInt8), (67 : UInt8), (48 : UInt8)] ≤ 140737488355328 ∧ ((Q2 ++ Q3 ++ Q2 ++ Q4 ++ List.map u8 [(10 : Int)]).length + List.length [(85 : UInt8), (84 : UInt8), (67 : UInt8), (48 : UInt8)]) * 1 ≤ 140737488355328 ∧ (Q2 ++ Q3 ++ Q2 ++ Q4 ++ List.map u8 [(10 : Int)]).length + List.length [(85 : UInt8), (84 : UInt8), (67 : UInt8), (48 : UInt8)] ≤ 140737488355328 ∧ ((Q2 ++ Q3 ++ Q2 ++ Q4
 ++ List.map u8 [(10 : Int)] ++ [(85 : UInt8), (84 : UInt8), (67 : UInt8), (48 : UInt8)]).length + (List.map u8 [(10 : Int)]).length) * 1 ≤ 140737488355328 ∧ (Q2 ++ Q3 ++ Q2 ++ Q4 ++ List.map u8 [(10 : Int)] ++ [(85 : UInt8), (84 : UInt8), (67 : UInt8), (48 : UInt8)]).length + (List.map u8 [(10 : Int)]).length ≤ 140737488355328 ∧ K [AV.new (IV.bytes (Q2 ++ Q3 ++ Q2 ++ Q4 ++ List.map u8 [(10 : Int)] ++ [(85 : UInt8), (84 : UInt8), (67 : UInt8), (48 : UInt8)] ++ List.map u8 [(10 : Int)])), i64 0]) := by kernel_rfl
end Y27
set_option maxRecDepth 100000
namespace Y27
open Go Go.AE Go.Proofs E6
attribute [local irreducible] loopK evCode evSpec loopB norm
theorem ok14e : ∀ args pres res, sWB args = some (pres, res) → SpecOK Tryz.prog G16 14 args pres res := by
  intro args pres res h
  unfold sWB at h
  split at h
  case h_2 => cases h
  cases h
  rename_i b
  have okF11 : EOK Tryz.prog F11 G16 := addE_ok (addE_ok okF10 ok10e) ok9e
  exact spec_ok (C := L9) okF11 noCall_ok Tryz.func14 (by kernel_rfl) (by kernel_rfl) (fun hp => by
    have hb : (b.length : Int) ≤ big' := hp _ (by simp)
    have hb' : big' = 1000000000000 := rfl
    exact Eq.mpr (g14_in b _) ⟨hb, by omega, by omega, rfl⟩)
theorem okF11 : EOK Tryz.prog F11 G16 := addE_ok (addE_ok okF10 ok10e) ok9e
theorem ok112e : ∀ args pres res, sAlw args = some (pres, res) → SpecOK Tryz.prog G16 112 args pres res := by
  intro args pres res h
  unfold sAlw at h
  split at h
  case h_2 => cases h
  cases h
  exact spec_ok (C := LX) okF11 noCall_ok Tryz.func112 (by kernel_rfl) (by kernel_rfl) (fun hp => Eq.mpr (g112_in _ _) rfl)
theorem ok131e : ∀ args pres res, sAlpha args = some (pres, res) → SpecOK Tryz.prog G16 131 args pres res := by
  intro args pres res h
  unfold sAlpha at h
  split at h
  case h_2 => cases h
  cases h
  exact spec_ok (C := LX) okF11 noCall_ok Tryz.func131 (by kernel_rfl) (by kernel_rfl) (fun hp => Eq.mpr (g131_in _ _) rfl)
theorem ok115e : ∀ args pres res, sDig args = some (pres, res) → SpecOK Tryz.prog G16 115 args pres res := by
  intro args pres res h
  unfold sDig at h
  split at h
  case h_2 => cases h
  cases h
  rename_i s i
  exact spec_ok (C := LX) okF11 noCall_ok Tryz.func115 (by kernel_rfl) (by kernel_rfl) (fun hp => by
    have hi : 0 ≤ i := hp _ (by simp)
    exact Eq.mpr (g115_in s i _) ⟨fun _ => hi, fun h => of_decide_eq_true h, fun _ => hi, fun h => of_decide_eq_true ((Bool.and_eq_true _ _).mp h).1, rfl⟩)
theorem ok96e : ∀ args pres res, sIn9 args = some (pres, res) → SpecOK Tryz.prog G16 96 args pres res := by
  intro args pres res h
  unfold sIn9 at h
  split at h
  case h_2 => cases h
  cases h
  exact spec_ok (C := LX) okF11 noCall_ok Tryz.func96 (by kernel_rfl) (by kernel_rfl) (fun hp => Eq.mpr (g96_in _ _) rfl)
theorem ok99e : ∀ args pres res, sLate args = some (pres, res) → SpecOK Tryz.prog G16 99 args pres res := by
  intro args pres res h
  unfold sLate at h
  split at h
  case h_2 => cases h
  cases h
  exact spec_ok (C := LX) okF11 noCall_ok Tryz.func99 (by kernel_rfl) (by kernel_rfl) (fun hp => Eq.mpr (g99_in _ _ _ _ _ _ _) rfl)
theorem okF12 : EOK Tryz.prog F12 G16 := addE_ok (addE_ok (addE_ok (addE_ok (addE_ok (addE_ok okF11 ok14e) ok112e) ok131e) ok115e) ok96e) ok99e
theorem ok68e : ∀ args pres res, sExt args = some (pres, res) → SpecOK Tryz.prog G16 68 args pres res := by
  intro args pres res h
  unfold sExt at h
  split at h
  case h_2 => cases h
  cases h
  exact spec_ok (C := LY) okF12 noCall_ok Tryz.func68 (by kernel_rfl) (by kernel_rfl) (fun hp => Eq.mpr (g68_in _ _ _ _ _ _ _ _ _ _ _ _ _ _ _ _ _ _) rfl)
theorem okF13 : EOK Tryz.prog F13 G16 := addE_ok okF12 ok68e
def slimB (n : Nat) : List UInt8 := encB [] [] [⟨0, false, 0⟩] [0] [] [] [] n
def slimH (v : Int) : List UInt8 := hdB ⟨v, 0, 0, 0, 0, 1, 1⟩
def serOne : List UInt8 := slimH 1 ++ slimB 4
def serTwo : List UInt8 := slimH 2 ++ slimB 4 ++ slimH 2 ++ slimB 8 ++ [10] ++ [85, 84, 67, 48] ++ [10]
theorem okE_slim : okE [] [] [[.int .i32 0, .bool false, .int .u8 0]] [0] [] [] [] := by
  refine ⟨⟨rfl, fun t ht => ?_⟩, ⟨rfl, fun t ht => by cases ht⟩, by decide, by decide, by decide, by decide, by decide, by decide, by decide⟩
  have : t = ⟨0, false, 0⟩ := by simpa [tys, tyOf, ivInt, ivBool, ivNth] using ht
  subst this
  unfold okTy
  decide
theorem okB_zero : okB [] [] [] [] [] [] [] := by
  refine ⟨⟨rfl, fun t ht => by cases ht⟩, ⟨rfl, fun t ht => by cases ht⟩, ?_⟩
  decide
theorem okH_slim (v : Int) : okH ⟨v, (hdOf [] [[.int .i32 0, .bool false, .int .u8 0]] [0] [] [] [] v).iu, (hdOf [] [[.int .i32 0, .bool false, .int .u8 0]] [0] [] [] [] v).is, (hdOf [] [[.int .i32 0, .bool false, .int .u8 0]] [0] [] [] [] v).l, (hdOf [] [[.int .i32 0, .bool false, .int .u8 0]] [0] [] [] [] v).t, (hdOf [] [[.int .i32 0, .bool false, .int .u8 0]] [0] [] [] [] v).ty, (hdOf [] [[.int .i32 0, .bool false, .int .u8 0]] [0] [] [] [] v).c⟩ := by
  have k : ∀ n : Nat, n ≤ 1 → U32 (u32w n) := fun n hn => by
    have : n = 0 ∨ n = 1 := by omega
    rcases this with rfl | rfl
    · exact ⟨by decide, by decide⟩
    · exact ⟨by decide, by decide⟩
  exact ⟨k _ (by decide), k _ (by decide), k _ (by decide), k _ (by decide), k _ (by decide), k _ (by decide)⟩
theorem g20_1 (K : List AV → Prop) (hK : K [.new (.bytes serOne), i64 0]) : evSpec LS Tryz.f20 [fileOne] K := by
  refine Eq.mpr (g20_one K) ?_
  have e1 : okH _ := okH_slim 1
  intro Q1 Q2 Q3
  repeat' (first | exact hK | exact e1 | exact okE_slim | apply And.intro | (intro _; exact okB_zero) | exact sz4 | exact sz8 | exact of_decide_eq_true (by kernel_rfl) | rfl | (intro _; exact of_decide_eq_true (by kernel_rfl)))
theorem g20_2 (K : List AV → Prop) (hK : K [.new (.bytes serTwo), i64 0]) : evSpec LS Tryz.f20 [fileTwo] K := by
  refine Eq.mpr (g20_two K) ?_
  have e1 : okH _ := okH_slim 2
  intro Q1 Q2 Q3 Q4
  repeat' (first | exact hK | exact e1 | exact okE_slim | apply And.intro | (intro _; exact okB_zero) | exact sz4 | exact sz8 | exact of_decide_eq_true (by kernel_rfl) | rfl | (intro _; exact of_decide_eq_true (by kernel_rfl)))
end Y27
set_option maxRecDepth 100000
namespace Y27
open Go Go.AE Go.Proofs E6
def isSlim (T : List Int) (I : List UInt8) (X : List (List IV)) (C : List UInt8) (L : List (List IV)) (S U : List Bool) : Bool := decide (T = []) && (decide (I = []) && (decide (tys X = [⟨0, false, 0⟩]) && (decide (C = [0]) && (decide (L.length = 0) && (decide (S = []) && decide (U = []))))))
def isZero (T : List Int) (I : List UInt8) (X : List (List IV)) (C : List UInt8) (L : List (List IV)) (S U : List Bool) : Bool := decide (T = []) && (decide (I = []) && (decide (X.length = 0) && (decide (C = []) && (decide (L.length = 0) && (decide (S = []) && decide (U = []))))))
def sSer : List AV → Option (List Prop × List AV)
  | [.agg [.imm (.int .i64 v), .imm (.ints .i64 T), .imm (.bytes I), .imm (.sl 3 X), .imm (.bytes C), .imm (.sl 2 L), .imm (.bools S), .imm (.bools U), .imm (.ints .i64 T'), .imm (.bytes I'), .imm (.sl 3 X'), .imm (.bytes C'), .imm (.sl 2 L'), .imm (.bools S'), .imm (.bools U'), .imm (.str f)]] =>
    bif decide (v = 1) && (isSlim T I X C L S U && (isZero T' I' X' C' L' S' U' && decide (f = []))) then some ([okT X], [.new (.bytes serOne), i64 0])
    else bif decide (v = 2) && (isSlim T I X C L S U && (isSlim T' I' X' C' L' S' U' && decide (f = [85, 84, 67, 48]))) then some ([okT X, okT X'], [.new (.bytes serTwo), i64 0]) else none
  | _ => none
def sAwake : List AV → Option (List Prop × List AV)
  | [] => some ([], [bo true])
  | _ => none
theorem slim_elim {T : List Int} {I : List UInt8} {X : List (List IV)} {C : List UInt8} {L : List (List IV)} {S U : List Bool} (h : isSlim T I X C L S U = true) (hX : okT X) : T = [] ∧ I = [] ∧ X = [[.int .i32 0, .bool false, .int .u8 0]] ∧ C = [0] ∧ L = [] ∧ S = [] ∧ U = [] := by
  unfold isSlim at h
  simp only [Bool.and_eq_true, decide_eq_true_eq] at h
  obtain ⟨h1, h2, h3, h4, h5, h6, h7⟩ := h
  refine ⟨h1, h2, ?_, h4, List.length_eq_zero_iff.1 h5, h6, h7⟩
  have := hX.1
  rw [h3] at this
  exact this
theorem zero_elim {T : List Int} {I : List UInt8} {X : List (List IV)} {C : List UInt8} {L : List (List IV)} {S U : List Bool} (h : isZero T I X C L S U = true) : T = [] ∧ I = [] ∧ X = [] ∧ C = [] ∧ L = [] ∧ S = [] ∧ U = [] := by
  unfold isZero at h
  simp only [Bool.and_eq_true, decide_eq_true_eq] at h
  obtain ⟨h1, h2, h3, h4, h5, h6, h7⟩ := h
  exact ⟨h1, h2, List.length_eq_zero_iff.1 h3, h4, List.length_eq_zero_iff.1 h5, h6, h7⟩
theorem IS_ok : ∀ f fn, IS f = some fn → Tryz.prog.funcs[f]? = some fn ∧ (fn.name == "runtime.NumGoroutine") = false := by
  intro f fn h
  unfold IS at h
  by_cases h19 : Nat.beq f 19 = true
  · rw [h19, cond_true] at h; cases h; obtain rfl := nbeq h19; exact ⟨Tryz.func19, by kernel_rfl⟩
  rw [Bool.eq_false_iff.2 h19, cond_false] at h
  by_cases h37 : Nat.beq f 37 = true
  · rw [h37, cond_true] at h; cases h; obtain rfl := nbeq h37; exact ⟨Tryz.func37, by kernel_rfl⟩
  rw [Bool.eq_false_iff.2 h37, cond_false] at h
  by_cases h39 : Nat.beq f 39 = true
  · rw [h39, cond_true] at h; cases h; obtain rfl := nbeq h39; exact ⟨Tryz.func39, by kernel_rfl⟩
  rw [Bool.eq_false_iff.2 h39, cond_false] at h
  by_cases h57 : Nat.beq f 57 = true
  · rw [h57, cond_true] at h; cases h; obtain rfl := nbeq h57; exact ⟨Tryz.func57, by kernel_rfl⟩
  rw [Bool.eq_false_iff.2 h57, cond_false] at h
  by_cases h58 : Nat.beq f 58 = true
  · rw [h58, cond_true] at h; cases h; obtain rfl := nbeq h58; exact ⟨Tryz.func58, by kernel_rfl⟩
  rw [Bool.eq_false_iff.2 h58, cond_false] at h
  by_cases h59 : Nat.beq f 59 = true
  · rw [h59, cond_true] at h; cases h; obtain rfl := nbeq h59; exact ⟨Tryz.func59, by kernel_rfl⟩
  rw [Bool.eq_false_iff.2 h59, cond_false] at h
  by_cases h60 : Nat.beq f 60 = true
  · rw [h60, cond_true] at h; cases h; obtain rfl := nbeq h60; exact ⟨Tryz.func60, by kernel_rfl⟩
  rw [Bool.eq_false_iff.2 h60, cond_false] at h
  by_cases h61 : Nat.beq f 61 = true
  · rw [h61, cond_true] at h; cases h; obtain rfl := nbeq h61; exact ⟨Tryz.func61, by kernel_rfl⟩
  rw [Bool.eq_false_iff.2 h61, cond_false] at h
  by_cases h67 : Nat.beq f 67 = true
  · rw [h67, cond_true] at h; cases h; obtain rfl := nbeq h67; exact ⟨Tryz.func67, by kernel_rfl⟩
  rw [Bool.eq_false_iff.2 h67, cond_false] at h
  by_cases h92 : Nat.beq f 92 = true
  · rw [h92, cond_true] at h; cases h; obtain rfl := nbeq h92; exact ⟨Tryz.func92, by kernel_rfl⟩
  rw [Bool.eq_false_iff.2 h92, cond_false] at h
  by_cases h93 : Nat.beq f 93 = true
  · rw [h93, cond_true] at h; cases h; obtain rfl := nbeq h93; exact ⟨Tryz.func93, by kernel_rfl⟩
  rw [Bool.eq_false_iff.2 h93, cond_false] at h
  by_cases h94 : Nat.beq f 94 = true
  · rw [h94, cond_true] at h; cases h; obtain rfl := nbeq h94; exact ⟨Tryz.func94, by kernel_rfl⟩
  rw [Bool.eq_false_iff.2 h94, cond_false] at h
  by_cases h95 : Nat.beq f 95 = true
  · rw [h95, cond_true] at h; cases h; obtain rfl := nbeq h95; exact ⟨Tryz.func95, by kernel_rfl⟩
  rw [Bool.eq_false_iff.2 h95, cond_false] at h
  by_cases h113 : Nat.beq f 113 = true
  · rw [h113, cond_true] at h; cases h; obtain rfl := nbeq h113; exact ⟨Tryz.func113, by kernel_rfl⟩
  rw [Bool.eq_false_iff.2 h113, cond_false] at h
  by_cases h114 : Nat.beq f 114 = true
  · rw [h114, cond_true] at h; cases h; obtain rfl := nbeq h114; exact ⟨Tryz.func114, by kernel_rfl⟩
  rw [Bool.eq_false_iff.2 h114, cond_false] at h
  by_cases h116 : Nat.beq f 116 = true
  · rw [h116, cond_true] at h; cases h; obtain rfl := nbeq h116; exact ⟨Tryz.func116, by kernel_rfl⟩
  rw [Bool.eq_false_iff.2 h116, cond_false] at h
  cases h
attribute [local irreducible] loopK evCode evSpec loopB norm
theorem ok20s : ∀ args pres res, sSer args = some (pres, res) → SpecOK Tryz.prog G16 20 args pres res := by
  intro args pres res h
  unfold sSer at h
  split at h
  case h_2 => cases h
  rename_i v T I X C L S U T' I' X' C' L' S' U' f
  by_cases h1 : (decide (v = 1) && (isSlim T I X C L S U && (isZero T' I' X' C' L' S' U' && decide (f = [])))) = true
  · rw [h1, cond_true] at h
    cases h
    simp only [Bool.and_eq_true, decide_eq_true_eq] at h1
    obtain ⟨hv, hs, hz, hf⟩ := h1
    refine spec_ok (C := LS) okF13 (inl_ok okF13 IS_ok 8) Tryz.func20 (by kernel_rfl) (by kernel_rfl) (fun hp => ?_)
    obtain ⟨rfl, rfl, rfl, rfl, rfl, rfl, rfl⟩ := slim_elim hs (hp _ (by simp))
    obtain ⟨rfl, rfl, rfl, rfl, rfl, rfl, rfl⟩ := zero_elim hz
    subst hv hf
    exact g20_1 _ rfl
  · rw [Bool.eq_false_iff.2 h1, cond_false] at h
    by_cases h2 : (decide (v = 2) && (isSlim T I X C L S U && (isSlim T' I' X' C' L' S' U' && decide (f = [85, 84, 67, 48])))) = true
    · rw [h2, cond_true] at h
      cases h
      simp only [Bool.and_eq_true, decide_eq_true_eq] at h2
      obtain ⟨hv, hs, hz, hf⟩ := h2
      refine spec_ok (C := LS) okF13 (inl_ok okF13 IS_ok 8) Tryz.func20 (by kernel_rfl) (by kernel_rfl) (fun hp => ?_)
      obtain ⟨rfl, rfl, rfl, rfl, rfl, rfl, rfl⟩ := slim_elim hs (hp _ (by simp))
      obtain ⟨rfl, rfl, rfl, rfl, rfl, rfl, rfl⟩ := slim_elim hz (hp _ (by simp))
      subst hv hf
      exact g20_2 _ rfl
    · rw [Bool.eq_false_iff.2 h2, cond_false] at h
      cases h
def F14 := addE F13 20 sSer
theorem okF14 : EOK Tryz.prog F14 G16 := addE_ok okF13 ok20s
noncomputable def LA : Cx := ⟨Tryz.prog, F14, noCall, G16, 4007⟩
end Y27
set_option maxRecDepth 100000
namespace Y27
open Go Go.AE Go.Proofs E6
attribute [local irreducible] loopK evCode evSpec loopB norm
theorem g8_in (K : List AV → Prop) : evSpec LA Tryz.f8 [] K = (let Q1 : Int × Int := (measU serOne); let Q2 : Int × Int := (measU serTwo); let Q3 : List UInt8 := (hdB (Hd.mk (2 : Int) (0 : Int) (0 : Int) (0 : Int) (4294967295 : Int) (1 : Int) (1 : Int))); let Q4 : Int × Int := (measU Q3); let Q5 : Int × Int := (measU []); (0 : Int) ≤ 1 ∧ (1 : Int) ≤ 1 ∧ (↑(8 : Nat) : Int) * 1 ≤ 140737488355328 ∧ (1 : Int) ≤ 140737488355328 ∧ okT [[IV.int IntKind.i32 (0 : Int), IV.bool false, IV.int .u8 0]] ∧ okT [[IV.int IntKind.i32 (0 : Int), IV.bool false, IV.int .u8 0]] ∧ okT [[IV.int IntKind.i32 (0 : Int), IV.bool false, IV.int .u8 0]] ∧ (1 : Int) ≤ 2 ∧ (2 : Int) ≤ 4 ∧ okH (Hd.mk (2 : Int) (0 : Int) (0 : Int) (0 : Int) (4294967295 : Int) (1 : Int) (1 : Int)) ∧ (↑(List.length serOne) : Int) ≤ big' ∧ ((Prod.fst Q1 == 2 && (Prod.snd Q1 == 8 && true)) = true → (↑(List.length serTwo) : Int) ≤ big') ∧ ((Prod.fst Q1 == 2 && (Prod.snd Q1 == 8 && true) && (Prod.fst Q2 == 8 && (Prod.snd Q2 == 20 && true))) = true → (↑(List.length Q3) : Int) ≤ big') ∧ ((Prod.fst Q1 == 2 && (Prod.snd Q1 == 8 && true) && (Prod.fst Q2 == 8 && (Prod.snd Q2 == 20 && true)) && (Prod.fst Q4 == 0 && (Prod.snd Q4 == 6 && true))) =
 true → (↑([] : List UInt8).length : Int) ≤ big') ∧ ((Prod.fst Q1 == 2 && (Prod.snd Q1 == 8 && true) && (Prod.fst Q2 == 8 && (Prod.snd Q2 == 20 && true)) && (Prod.fst Q4 == 0 && (Prod.snd Q4 == 6 && true)) && (Prod.fst Q5 == 0 && (Prod.snd Q5 == 0 && true))) = true → (0 : Int) ≤ 10) ∧ ((Prod.fst Q1 == 2 && (Prod.snd Q1 == 8 && true) && (Prod.fst Q2 == 8 && (Prod.snd Q2 == 20 && true)) && (Prod.fst Q4 == 0 && (Prod.snd Q4 == 6 && true)) && (Prod.fst Q5 == 0 && (Prod.snd Q5 == 0 && true))) = true → (10 : Int) ≤ 1099511627776) ∧ ((Prod.fst Q1 == 2 && (Prod.snd Q1 == 8 && true) && (Prod.fst Q2 == 8 && (Prod.snd Q2 == 20 && true)) && (Prod.fst Q4 == 0 && (Prod.snd Q4 == 6 && true)) && (Prod.fst Q5 == 0 && (Prod.snd Q5 == 0 && true)) && ((4 : Int) * 10 + 64 == 104 && ((16 : Int) * 10 + 64 == 224 && true))) = true → (↑(List.length serTwo) : Int) ≤ big') ∧ ((Prod.fst Q1 == 2 && (Prod.snd Q1 == 8 && true) && (Prod.fst Q2 == 8 && (Prod.snd Q2 == 20 && true)) && (Prod.fst Q4 == 0 && (Prod.snd Q4 == 6 && true)) && (Prod.fst Q5 == 0 && (Prod.snd Q5 == 0 && true)) && ((4 : Int) * 10 + 64 == 104 && ((16 : Int) * 10 + 64 == 224 && true)) && wbU serTwo) = true → okH (Hd.mk (0 : Int) (0 : Int) (0 :
 Int) (0 : Int) (4294967295 : Int) (3 : Int) (0 : Int))) ∧ K [bo (Prod.fst Q1 == 2 && (Prod.snd Q1 == 8 && true) && (Prod.fst Q2 == 8 && (Prod.snd Q2 == 20 && true)) && (Prod.fst Q4 == 0 && (Prod.snd Q4 == 6 && true)) && (Prod.fst Q5 == 0 && (Prod.snd Q5 == 0 && true)) && ((4 : Int) * 10 + 64 == 104 && ((16 : Int) * 10 + 64 == 224 && true)) && wbU serTwo && elems (Hd.mk (0 : Int) (0 : Int) (0 : Int) (0 : Int) (4294967295 : Int) (3 : Int) (0 : Int)) == 8589934593)]) := by kernel_rfl
end Y27
set_option maxRecDepth 100000
namespace Y27
open Go Go.AE Go.Proofs E6
attribute [local irreducible] loopK evCode evSpec loopB norm
theorem g8_ev (K : List AV → Prop) (hK : K [bo true]) : evSpec LA Tryz.f8 [] K := by
  refine Eq.mpr (g8_in K) ?_
  have kX : okT [[.int .i32 0, .bool false, .int .u8 0]] := okE_slim.1
  have kH : okH ⟨2, 0, 0, 0, 4294967295, 1, 1⟩ := by
    refine ⟨⟨?_, ?_⟩, ⟨?_, ?_⟩, ⟨?_, ?_⟩, ⟨?_, ?_⟩, ⟨?_, ?_⟩, ⟨?_, ?_⟩⟩ <;> decide
  have kG : okH ⟨0, 0, 0, 0, 4294967295, 3, 0⟩ := by
    refine ⟨⟨?_, ?_⟩, ⟨?_, ?_⟩, ⟨?_, ?_⟩, ⟨?_, ?_⟩, ⟨?_, ?_⟩, ⟨?_, ?_⟩⟩ <;> decide
  have d1 : (serOne.length : Int) ≤ big' := of_decide_eq_true (by kernel_rfl)
  have d2 : (serTwo.length : Int) ≤ big' := of_decide_eq_true (by kernel_rfl)
  have d3 : ((hdB ⟨2, 0, 0, 0, 4294967295, 1, 1⟩).length : Int) ≤ big' := of_decide_eq_true (by kernel_rfl)
  have d4 : (([] : List UInt8).length : Int) ≤ big' := of_decide_eq_true (by kernel_rfl)
  have hb : ((measU serOne).1 == (2 : Int) && ((measU serOne).2 == (8 : Int) && true) && ((measU serTwo).1 == (8 : Int) && ((measU serTwo).2 == (20 : Int) && true)) && ((measU (hdB ⟨2, 0, 0, 0, 4294967295, 1, 1⟩)).1 == (0 : Int) && ((measU (hdB ⟨2, 0, 0, 0, 4294967295, 1, 1⟩)).2 == (6 : Int) && true)) && ((measU []).1 == (0 : Int) && ((measU []).2 == (0 : Int) && true)) &&
      ((4 : Int) * (10 : Int) + (64 : Int) == (104 : Int) && ((16 : Int) * (10 : Int) + (64 : Int) == (224 : Int) && true)) && wbU serTwo && elems ⟨0, 0, 0, 0, 4294967295, 3, 0⟩ == (8589934593 : Int)) = true := by kernel_rfl
  intro Q1 Q2 Q3 Q4 Q5
  refine ⟨by decide, by decide, by decide, by decide, kX, kX, kX, by decide, by decide, kH, d1, fun _ => d2, fun _ => d3, fun _ => d4, fun _ => by decide, fun _ => by decide, fun _ => d2, fun _ => kG, ?_⟩
  exact Eq.mpr (congrArg (fun b => K [.imm (.bool b)]) hb) hK
theorem ok8a : ∀ args pres res, sAwake args = some (pres, res) → SpecOK Tryz.prog G16 8 args pres res := by
  intro args pres res h
  unfold sAwake at h
  split at h
  case h_2 => cases h
  cases h
  exact spec_ok (C := LA) okF14 noCall_ok Tryz.func8 (by kernel_rfl) (by kernel_rfl) (fun hp => g8_ev _ rfl)
def F15 := addE F14 8 sAwake
theorem okF15 : EOK Tryz.prog F15 G16 := addE_ok okF14 ok8a
noncomputable def M3 : Cx := ⟨Tryz.prog, F15, noCall, G16, 4009⟩
noncomputable def M4 : Cx := ⟨Tryz.prog, F15, noCall, G16, 4004⟩
noncomputable def M5 : Cx := ⟨Tryz.prog, F15, noCall, G16, 4030⟩
noncomputable def M7 : Cx := ⟨Tryz.prog, F15, noCall, G16, 4014⟩
end Y27
