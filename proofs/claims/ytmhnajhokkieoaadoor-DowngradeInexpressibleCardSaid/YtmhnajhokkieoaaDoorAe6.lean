/- For every file (two blocks, version, footer) the law DowngradeInexpressible returns true and its argument reads as before. No further condition. -/
import Derived.Test.YtmhnajhokkieoaaDoorAe5
import Derived.KernelRfl
import Derived.ProofKit
import Derived.WideKeyArgs
import Derived.SizedLaws
import Derived.ChangeSlices
import Derived.Test.YtmhnajhokkieoaaDoorRows
import Derived.Test.YtmhnajhokkieoaaDoorTie
import Derived.Test.YtmhnajhokkieoaaDoorCards
import Derived.LaidMore
import Derived.LaidHandle
import Derived.LaidLaws
import Derived.OpenShut
import Derived.Stop.Joined
import Derived.SevenTiedAt
import Derived.WideKeyElems2
set_option linter.all false
set_option maxRecDepth 100000
namespace PF
open Go Go.AE Go.Proofs PE
noncomputable section
def cells (l : List AV) : Ob := ⟨true, 0, .cells l⟩
structure Pz where
  (s : List UInt8) (o : Int) (h : Bool) (t : List UInt8) (p : Int)
  (a b c d e f a' b' c' d' e' f' er at' : Int)
def pzV (s : List UInt8) : Pz := ⟨(P9.ruP s).a, (P9.ruP s).o, (P9.ruP s).h, (P9.ruP s).b, (P9.ruP s).p, (P9.ruP s).S.k, (P9.ruP s).S.d, (P9.ruP s).S.m, (P9.ruP s).S.w, (P9.ruP s).S.e, (P9.ruP s).S.t, (P9.ruP s).E.k, (P9.ruP s).E.d, (P9.ruP s).E.m, (P9.ruP s).E.w, (P9.ruP s).E.e, (P9.ruP s).E.t, P9.whyP s, P9.atP s⟩
def sPz : List AV → Option (List Prop × List AV)
  | [.imm (.str s)] => some ([(s.length : Int) ≤ 1000000], [.agg (ruC (pzV s).s (pzV s).o (pzV s).h (pzV s).t (pzV s).p (rdC (pzV s).a (pzV s).b (pzV s).c (pzV s).d (pzV s).e (pzV s).f) (rdC (pzV s).a' (pzV s).b' (pzV s).c' (pzV s).d' (pzV s).e' (pzV s).f')), i64 (pzV s).er, i64 (pzV s).at'])
  | _ => none
def s59 : List AV → Option (List Prop × List AV)
  | [.imm (.bytes b)] => some ([(b.length : Int) ≤ 1000000], [bo (badV b == -1)])
  | _ => none
def N12q : Cx := ⟨Tryd.prog, Q6.H13, noCall, G16, 4003⟩
def F34 := addE (addE (addE Q6.H13 39 s59) 41 sPz) 42 sExt
def N22 : Cx := ⟨Tryd.prog, F34, noCall, G16, 4011⟩
def blC (T : List Int) (I : List UInt8) (X : List Ty) (C : List UInt8) (L : List Lp) (S U : List Bool) : List AV := [ii T, by' I, xT X, by' C, xL L, oo S, oo U]
def k37 (T : List Int) (I : List UInt8) (X : List Ty) (C : List UInt8) (L : List Lp) (S U : List Bool) (v s n i : Int) : St := ⟨spr [(1, i64 v), (2, i64 s), (3, .ptr 0 0), (7, i64 n), (8, i64 i)] 0 121, [(0, cells (blC T I X C L S U))], 1, []⟩
def q37 : Plan := ⟨[], msk [1, 2, 3, 7, 8] 0 121, [0]⟩
def k37b (T : List Int) (I : List UInt8) (X : List Ty) (C : List UInt8) (L : List Lp) (S U : List Bool) (v n i : Int) : St := ⟨spr [(1, i64 v), (3, .ptr 0 0), (7, i64 n), (9, i64 i)] 0 121, [(0, cells (blC T I X C L S U))], 1, []⟩
def q37b : Plan := ⟨[], msk [1, 3, 7, 9] 0 121, [0]⟩
end
attribute [local irreducible] loopK evCode evSpec loopB norm
theorem ok41e : ∀ args pres res, sPz args = some (pres, res) → SpecOK Tryd.prog G16 41 args pres res := by
  intro args pres res h
  unfold sPz at h
  split at h
  case h_2 => cases h
  cases h
  rename_i s
  have key := PA.ok21 [.imm (.str s)] [(s.length : Int) ≤ 1000000000000000000] [.agg (P9.ruP s).cells, i64 (P9.whyP s), i64 (P9.atP s)] rfl
  refine ⟨key.fn, fun hp => key.calls (fun p hm => ?_)⟩
  have h1 : (s.length : Int) ≤ 1000000 := hp _ (by simp)
  rw [List.mem_singleton] at hm
  rw [hm]; omega
theorem ok42e : ∀ args pres res, sExt args = some (pres, res) → SpecOK Tryd.prog G16 42 args pres res := by
  intro args pres res h
  unfold sExt at h
  split at h
  case h_2 => cases h
  cases h
  exact PA.ok18 _ _ _ rfl
theorem g59_in (b : List UInt8) (K : List AV → Prop) : evSpec N12q Tryd.f39 [by' b] K =
  ((↑(List.length b) : Int) ≤ (1000000 : Int) ∧ K [AV.imm (IV.bool (badV b == (-1 : Int)))]) := by kernel_rfl
theorem f59_ev (b : List UInt8) (hl : (b.length : Int) ≤ 1000000) (K : List AV → Prop) (hK : K [bo (badV b == -1)]) : evSpec N12q Tryd.f39 [by' b] K := by
  rw [g59_in]
  exact ⟨hl, hK⟩
theorem ok59e : ∀ args pres res, s59 args = some (pres, res) → SpecOK Tryd.prog G16 39 args pres res := by
  intro args pres res h
  unfold s59 at h
  split at h
  case h_2 => cases h
  cases h
  exact spec_ok (C := N12q) Q6.okH13 noCall_ok Tryd.func39 (by kernel_rfl) (by kernel_rfl) (fun hp => f59_ev _ (hp _ (by simp)) _ rfl)
theorem okF34 : EOK Tryd.prog F34 G16 := addE_ok (addE_ok (addE_ok Q6.okH13 ok59e) ok41e) ok42e
theorem vDay_of {k d m w e t : Int} (h : P9.validDay k d m w e t = true) : vDay k d m w e t = true := by
  unfold P9.validDay at h
  simp only [Bool.and_eq_true, Bool.or_eq_true, decide_eq_true_eq, beq_iff_eq] at h
  obtain ⟨⟨t0, t1⟩, h⟩ := h
  unfold vDay
  have e0 : (decide (t < -604799) || decide (t > 604799)) = false := by
    rw [decide_eq_false (by omega), decide_eq_false (by omega)]; first | done | rfl
  rw [e0]
  rcases h with ⟨⟨⟨⟨⟨⟨k0 | k0, m0⟩, w0⟩, e1⟩, d0⟩, d1⟩, hk⟩ | ⟨⟨⟨⟨⟨⟨⟨k0, d0⟩, m0⟩, m1⟩, w0⟩, w1⟩, e1⟩, e2⟩
  · subst k0 m0 w0 e1
    rcases hk with hk | hk
    · omega
    · simp; omega
  · subst k0 m0 w0 e1
    simp; omega
  · subst k0 d0
    simp; omega
theorem pz_ru {s : List UInt8} (h : (pzV s).er = 0) : okRu (pzV s).o (pzV s).p (pzV s).h (vDay (pzV s).a (pzV s).b (pzV s).c (pzV s).d (pzV s).e (pzV s).f) (vDay (pzV s).a' (pzV s).b' (pzV s).c' (pzV s).d' (pzV s).e' (pzV s).f') := by
  have hk : PA.okP s = true := by
    show (P9.whyP s == 0) = true
    rw [show P9.whyP s = 0 from h]; first | done | rfl
  obtain ⟨_, hv⟩ := PA.okP_rule hk
  obtain ⟨_, o0, o1, ht, hf⟩ := PA.rule_parts hv
  refine ⟨by show -100000 ≤ (P9.ruP s).o; omega, by show (P9.ruP s).o ≤ 100000; omega, ?_, ?_, fun hh => ?_⟩
  · show -200000 ≤ (P9.ruP s).p
    cases hh : (P9.ruP s).h with
    | true => have := (ht hh).2.1; omega
    | false => have := (hf hh).2.1; omega
  · show (P9.ruP s).p ≤ 200000
    cases hh : (P9.ruP s).h with
    | true => have := (ht hh).2.2.1; omega
    | false => have := (hf hh).2.1; omega
  · have q := ht hh
    exact ⟨vDay_of q.2.2.2.1, vDay_of q.2.2.2.2⟩
end PF
set_option maxRecDepth 100000
namespace PF
open Go Go.AE Go.Proofs PE
attribute [local irreducible] loopK evCode evSpec loopB norm
theorem g37_in (T : List Int) (I : List UInt8) (X : List Ty) (C : List UInt8) (L : List Lp) (S : List Bool) (U : List Bool) (v : Int) (s : Int) (K : List AV → Prop) : evSpec N22 Tryd.f21 [.agg (blC T I X C L S U), i64 v, i64 s] K = (brn ((I.length : Int) != (T.length : Int) || (↑(List.map cellsT X).length : Int) == 0 || (C.length : Int) == 0 || (S.length : Int) != 0 && (S.length : Int) != (↑(List.map cellsT X).length : Int) || (U.length : Int) != 0 && (U.length : Int) != (↑(List.map cellsT X).length : Int)) (K [i64 6]) (sz48 s ∧ (T.length : Int) ≤ big ∧ brn (!fitP T s) (K [i64 18]) (LoopI N22 (bodyOf Tryd.f21) 0 (St.mk (lapp [.agg [.imm (.ints IntKind.i64 T), by' I, .imm (.sl 3 (List.map cellsT X)), by' C, .imm (.sl 2 (List.map cellsL L)), .imm (.bools S), .imm (.bools U)], i64 v, i64 s, .ptr 0 0, .dead, .dead, i64 0, i64 (↑(List.map cellsT X).length : Int), i64 0] (dN 112)) [(0, Ob.mk true 0 (AObj.cells [.imm (.ints IntKind.i64 T), by' I, .imm (.sl 3 (List.map cellsT X)), by' C, .imm (.sl 2 (List.map cellsL L)), .imm (.bools S), .imm (.bools U)]))] 1 []) (finK N22 Tryd.f21 K)))) := by kernel_rfl
theorem g37_lp (T : List Int) (I : List UInt8) (X : List Ty) (C : List UInt8) (L : List Lp) (S : List Bool) (U : List Bool) (v : Int) (s : Int) (n : Int) (i : Int) (k : AX → St → Prop) : evCode N22 (loopB (bodyOf Tryd.f21) 0) (k37 T I X C L S U v s n i) k = (brn (decide (i < (↑(List.map cellsL L).length : Int))) ((0 : Int) ≤ i ∧ i < (↑(List.map cellsL L).length : Int) ∧ kcells (List.getD (List.map cellsL L) i.toNat []) 0 (lapp [CK.int IntKind.i64] (lapp [CK.int IntKind.i32] [])) = List.getD (List.map cellsL L) i.toNat [] ∧ sz48 s ∧ brn (!fitsP (ivInt (ivNth (List.getD (List.map cellsL L) i.toNat []) 0)) s) (k AX.ret (St.mk (lapp [.dead, i64 v, i64 s, .ptr 0 0, .dead, .dead, i64 18, i64 n, i64 i] (dN 112)) [(0, Ob.mk true 0 (AObj.cells [.imm (.ints IntKind.i64 T), by' I, .imm (.sl 3 (List.map cellsT X)), by' C, .imm (.sl 2 (List.map cellsL L)), .imm (.bools S), .imm (.bools U)]))] 1 [])) (k AX.normal (St.mk (lapp [.dead, i64 v, i64 s, .ptr 0 0, .dead, .dead, .dead, i64 n, i64 (IntKind.wrap .i64 (i + 1))] (lapp (dN 58) (lapp [i64 i, i64 (IntKind.wrap .i64 (i + 1))] (dN 52)))) [(0, Ob.mk true 0 (AObj.cells [.imm (.ints IntKind.i64 T), by' I, .imm (.sl 3 (List.map cellsT X)), by' C,
 .imm (.sl 2 (List.map cellsL L)), .imm (.bools S), .imm (.bools U)]))] 1 []))) (k (AX.exit 0) (St.mk (lapp [.dead, i64 v, i64 s, .ptr 0 0, .dead, .dead, .dead, i64 n, i64 i] (lapp (dN 53) (lapp [i64 i, .ptr 0 4, .imm (.sl 2 (List.map cellsL L)), i64 (↑(List.map cellsL L).length : Int), bo (decide (i < (↑(List.map cellsL L).length : Int)))] (dN 54)))) [(0, Ob.mk true 0 (AObj.cells [.imm (.ints IntKind.i64 T), by' I, .imm (.sl 3 (List.map cellsT X)), by' C, .imm (.sl 2 (List.map cellsL L)), .imm (.bools S), .imm (.bools U)]))] 1 []))) := by kernel_rfl
theorem g37_lp2 (T : List Int) (I : List UInt8) (X : List Ty) (C : List UInt8) (L : List Lp) (S : List Bool) (U : List Bool) (v : Int) (n : Int) (i : Int) (k : AX → St → Prop) : evCode N22 (loopB (bodyOf Tryd.f21) 1) (k37b T I X C L S U v n i) k = (brn (decide (i < (I.length : Int))) ((0 : Int) ≤ i ∧ i < (I.length : Int) ∧ brn (decide (IntKind.wrap .i64 (↑(UInt8.toNat (List.getD I i.toNat (0 : UInt8))) : Int) ≥ n)) (k AX.ret (St.mk (lapp [.dead, i64 v, .dead, .ptr 0 0, .dead, .dead, i64 8, i64 n, .dead, i64 i] (dN 111)) [(0, Ob.mk true 0 (AObj.cells [.imm (.ints IntKind.i64 T), by' I, .imm (.sl 3 (List.map cellsT X)), by' C, .imm (.sl 2 (List.map cellsL L)), .imm (.bools S), .imm (.bools U)]))] 1 [])) (k AX.normal (St.mk (lapp [.dead, i64 v, .dead, .ptr 0 0, .dead, .dead, .dead, i64 n, .dead, i64 (IntKind.wrap .i64 (i + 1))] (lapp (dN 77) (lapp [i64 i, i64 (IntKind.wrap .i64 (i + 1))] (dN 32)))) [(0, Ob.mk true 0 (AObj.cells [.imm (.ints IntKind.i64 T), by' I, .imm (.sl 3 (List.map cellsT X)), by' C, .imm (.sl 2 (List.map cellsL L)), .imm (.bools S), .imm (.bools U)]))] 1 []))) (k (AX.exit 2) (St.mk (lapp [.dead, i64 v, .dead, .ptr 0 0, .dead, .dead, .dead, i64 n, .dead, i64 i]
 (lapp (dN 72) (lapp [i64 i, .ptr 0 1, by' I, i64 (I.length : Int), bo (decide (i < (I.length : Int)))] (dN 34)))) [(0, Ob.mk true 0 (AObj.cells [.imm (.ints IntKind.i64 T), by' I, .imm (.sl 3 (List.map cellsT X)), by' C, .imm (.sl 2 (List.map cellsL L)), .imm (.bools S), .imm (.bools U)]))] 1 []))) := by kernel_rfl
theorem g37_out (T : List Int) (I : List UInt8) (X : List Ty) (C : List UInt8) (L : List Lp) (S : List Bool) (U : List Bool) (v : Int) (s : Int) (n : Int) (i : Int) (K : List AV → Prop) : loopK N22 (bodyOf Tryd.f21) 0 (finK N22 Tryd.f21 K) (AX.exit 0) (St.mk (let y := let y := let y := let y := let y := [.dead, .dead, .dead, .dead]; AV.dead :: AV.dead :: AV.dead :: AV.dead :: y; let y := AV.dead :: AV.dead :: AV.dead :: AV.dead :: y; AV.dead :: AV.dead :: AV.dead :: AV.dead :: y; let y := let y := AV.dead :: AV.dead :: AV.dead :: AV.dead :: y; AV.dead :: AV.dead :: AV.dead :: AV.dead :: y; AV.dead :: AV.dead :: AV.dead :: AV.dead :: AV.dead :: AV.dead :: AV.dead :: y; let y := let y := let y := AV.dead :: AV.dead :: AV.dead :: AV.dead :: y; AV.dead :: AV.dead :: AV.dead :: AV.dead :: y; AV.dead :: AV.dead :: AV.dead :: AV.dead :: AV.dead :: AV.dead :: AV.dead :: y; let y := let y := AV.dead :: AV.dead :: AV.dead :: AV.dead :: y; AV.dead :: AV.dead :: AV.dead :: AV.dead :: y; AV.dead :: AV.dead :: i64 i :: AV.ptr 0 4 :: AV.imm (.sl 2 (List.map cellsL L)) :: i64 (↑(List.map cellsL L).length : Int) :: bo (decide (i < (↑(List.map cellsL L).length : Int))) :: y; let y := let y := let y := let y := AV.dead :: AV.dead :: AV.dead :: AV.dead :: y; AV.dead :: AV.dead :: AV.dead :: AV.dead :: y; AV.dead :: AV.dead :: AV.dead :: AV.dead :: AV.dead :: AV.dead :: AV.dead :: y; let y := let y := AV.dead :: AV.dead :: AV.dead :: AV.dead :: y; AV.dead :: AV.dead :: AV.dead :: AV.dead :: y; AV.dead :: AV.dead :: AV.dead :: AV.dead :: AV.dead :: AV.dead :: AV.dead :: y; let y := let y := let y := AV.dead :: AV.dead :: AV.dead :: AV.dead :: y; AV.dead :: AV.dead :: AV.dead :: AV.dead :: y; AV.dead :: AV.dead :: AV.dead :: AV.dead :: AV.dead :: AV.dead :: AV.dead :: y; let y := let y := AV.dead :: AV.dead :: AV.dead :: AV.dead :: y; i64 n :: i64 i :: AV.dead :: AV.dead :: y; AV.dead :: i64 v :: i64 s :: AV.ptr 0 0 :: AV.dead :: AV.dead :: AV.dead :: y) [(0, Ob.mk true 0 (AObj.cells [.imm (.ints IntKind.i64 T), by' I, .imm (.sl 3 (List.map cellsT X)), by' C, .imm (.sl 2 (List.map cellsL L)), .imm (.bools S), .imm (.bools U)]))] 1 []) = ((T.length : Int) ≤ 1000000 ∧ brn (desV T != (-1 : Int)) (K [i64 7]) (LoopI N22 (bodyOf Tryd.f21) 1 (St.mk (lapp [.dead, i64 v, i64 s, .ptr 0 0, .dead, .dead, .dead, i64 n, i64 i, i64 0] (dN 111)) [(0, Ob.mk true 0 (AObj.cells [.imm (.ints IntKind.i64 T), by' I, .imm (.sl 3 (List.map cellsT X)), by' C, .imm (.sl 2 (List.map cellsL L)), .imm (.bools S), .imm (.bools U)]))] 1 []) (finK N22 Tryd.f21 K))) := by kernel_rfl
theorem g37_out2 (T : List Int) (I : List UInt8) (X : List Ty) (C : List UInt8) (L : List Lp) (S : List Bool) (U : List Bool) (v : Int) (n : Int) (i : Int) (K : List AV → Prop) : loopK N22 (bodyOf Tryd.f21) 1 (finK N22 Tryd.f21 K) (AX.exit 2) (St.mk (let y := let y := let y := let y := let y := [.dead, .dead, .dead, .dead]; AV.dead :: AV.dead :: AV.dead :: AV.dead :: y; let y := AV.dead :: AV.dead :: AV.dead :: AV.dead :: y; AV.dead :: AV.dead :: AV.dead :: AV.dead :: y; let y := let y := AV.dead :: AV.dead :: AV.dead :: AV.dead :: y; AV.dead :: AV.dead :: AV.dead :: AV.dead :: y; AV.dead :: AV.dead :: AV.dead :: AV.dead :: AV.dead :: AV.dead :: AV.dead :: y; let y := let y := let y := bo (decide (i < (I.length : Int))) :: AV.dead :: AV.dead :: AV.dead :: y; i64 i :: AV.ptr 0 1 :: by' I :: i64 (I.length : Int) :: y; AV.dead :: AV.dead :: AV.dead :: AV.dead :: AV.dead :: AV.dead :: AV.dead :: y; let y := let y := AV.dead :: AV.dead :: AV.dead :: AV.dead :: y; AV.dead :: AV.dead :: AV.dead :: AV.dead :: y; AV.dead :: AV.dead :: AV.dead :: AV.dead :: AV.dead :: AV.dead :: AV.dead :: y; let y := let y := let y := let y := AV.dead :: AV.dead :: AV.dead :: AV.dead :: y; AV.dead :: AV.dead :: AV.dead :: AV.dead :: y; AV.dead :: AV.dead :: AV.dead :: AV.dead :: AV.dead :: AV.dead :: AV.dead :: y; let y := let y := AV.dead :: AV.dead :: AV.dead :: AV.dead :: y; AV.dead :: AV.dead :: AV.dead :: AV.dead :: y; AV.dead :: AV.dead :: AV.dead :: AV.dead :: AV.dead :: AV.dead :: AV.dead :: y; let y := let y := let y := AV.dead :: AV.dead :: AV.dead :: AV.dead :: y; AV.dead :: AV.dead :: AV.dead :: AV.dead :: y; AV.dead :: AV.dead :: AV.dead :: AV.dead :: AV.dead :: AV.dead :: AV.dead :: y; let y := let y := AV.dead :: AV.dead :: AV.dead :: AV.dead :: y; i64 n :: AV.dead :: i64 i :: AV.dead :: y; AV.dead :: i64 v :: AV.dead :: AV.ptr 0 0 :: AV.dead :: AV.dead :: AV.dead :: y) [(0, Ob.mk true 0 (AObj.cells [.imm (.ints IntKind.i64 T), by' I, .imm (.sl 3 (List.map cellsT X)), by' C, .imm (.sl 2 (List.map cellsL L)), .imm (.bools S), .imm (.bools U)]))] 1 []) = (okT (List.map cellsT X) ∧ (↑(List.map cellsT X).length : Int) ≤ 1000000 ∧ brn (chkV (tys (List.map cellsT X)) (C.length : Int) != 0) (K [i64 (chkV (tys (List.map cellsT X)) (C.length : Int))]) ((C.length : Int) ≤ 1000000 ∧ brn (!badV C == (-1 : Int)) (K [i64 11]) (okL (List.map cellsL L) ∧ (↑(List.map cellsL L).length : Int) ≤ 1000000 ∧ brn (!lvV (lps (List.map cellsL L)) v) (K [i64 12]) ((U.length : Int) ≤ 1000000 ∧ brn (!conV S U) (K [i64 13]) (K [i64 0]))))) := by kernel_rfl
def okBl (T : List Int) (I : List UInt8) (X : List Ty) (C : List UInt8) (S U : List Bool) : Prop :=
  I.length = T.length ∧ X.length ≠ 0 ∧ C.length ≠ 0 ∧ (S.length = 0 ∨ S.length = X.length) ∧ (U.length = 0 ∨ U.length = X.length) ∧ ∀ j : Nat, j < I.length → (I.getD j 0).toNat < X.length
noncomputable def okBd (T : List Int) (I : List UInt8) (X : List Ty) (C : List UInt8) (L : List Lp) (S U : List Bool) (v : Int) : Prop := okBl T I X C S U ∧ desV T = -1 ∧ lvV (lps (L.map cellsL)) v = true
theorem wrapB (c : UInt8) : IntKind.wrap .i64 (c.toNat : Int) = (c.toNat : Int) := by
  have := c.toNat_lt
  exact wrap64 (by omega) (by omega)
theorem lens_or {a b : Nat} (h : ((a : Int) != (0 : Int) && (a : Int) != (b : Int)) = false) : a = 0 ∨ a = b := by
  rcases Nat.eq_zero_or_pos a with h0 | h0
  · exact .inl h0
  · refine .inr ?_
    have h1 : ((a : Int) != (0 : Int)) = true := bne_iff_ne.mpr (by omega)
    rw [h1, Bool.true_and] at h
    have := bne_eq_false_iff_eq.mp h
    omega
theorem bl_ex (T : List Int) (I : List UInt8) (X : List Ty) (C : List UInt8) (L : List Lp) (S U : List Bool) (v s : Int) (hT : okT (X.map cellsT)) (hL : okL (L.map cellsL)) (hs : sz48 s)
    (l1 : (T.length : Int) ≤ 1000000) (l2 : (I.length : Int) ≤ 1000000) (l3 : (X.length : Int) ≤ 1000000) (l4 : (C.length : Int) ≤ 1000000) (l5 : (L.length : Int) ≤ 1000000) (l6 : (U.length : Int) ≤ 1000000) :
    ∃ r : Int, (r = 0 → okBd T I X C L S U v) ∧ ∀ K : List AV → Prop, K [i64 r] → evSpec N22 Tryd.f21 [.agg (blC T I X C L S U), i64 v, i64 s] K := by
  have hlX : (X.map cellsT).length = X.length := List.length_map _
  have hlL : (L.map cellsL).length = L.length := List.length_map _
  have hbig : (1000000 : Int) ≤ big := by unfold big; decide
  cases c0 : ((I.length : Int) != (T.length : Int) || ((X.map cellsT).length : Int) == 0 || (C.length : Int) == 0 || ((S.length : Int) != 0 && (S.length : Int) != ((X.map cellsT).length : Int)) || ((U.length : Int) != 0 && (U.length : Int) != ((X.map cellsT).length : Int))) with
  | true =>
    refine ⟨6, fun h => absurd h (by decide), fun K hK => ?_⟩
    rw [g37_in]
    exact brn_T c0 hK
  | false =>
    have c0' := c0
    simp only [Bool.or_eq_false_iff] at c0'
    obtain ⟨⟨⟨⟨d1, d2⟩, d3⟩, d4⟩, d5⟩ := c0'
    have f1 : I.length = T.length := by
      have := bne_eq_false_iff_eq.mp d1
      omega
    have f2 : X.length ≠ 0 := fun h => by rw [hlX, h] at d2; exact absurd d2 (by decide)
    have f3 : C.length ≠ 0 := fun h => by rw [h] at d3; exact absurd d3 (by decide)
    have f4 := lens_or d4
    have f5 := lens_or d5
    rw [hlX] at f4 f5
    cases hf : fitP T s with
    | false =>
      refine ⟨18, fun h => absurd h (by decide), fun K hK => ?_⟩
      rw [g37_in]
      exact brn_Fa c0 ⟨hs, by omega, brn_T (by rw [hf]; rfl) hK⟩
    | true =>
      have second : desV T = -1 → ∃ r : Int, (r = 0 → okBd T I X C L S U v) ∧ ∀ K : List AV → Prop, K [i64 r] → ∀ p st, norm p st = some (k37b T I X C L S U v ((X.map cellsT).length : Int) 0) → evCode N22 (.loop (loopB (bodyOf Tryd.f21) 1)) st (loopK N22 (bodyOf Tryd.f21) 1 (finK N22 Tryd.f21 K)) := by
        intro hd1
        refine loop_det (C := N22) (c := loopB (bodyOf Tryd.f21) 1) (fun i : Int => k37b T I X C L S U v ((X.map cellsT).length : Int) i) (fun i => 0 ≤ i ∧ i ≤ I.length ∧ ∀ j : Nat, (j : Int) < i → (I.getD j 0).toNat < X.length) (fun i => ((I.length : Int) - i).toNat) (fun r : Int => r = 0 → okBd T I X C L S U v) (fun r => [i64 r])
          (fun K => loopK N22 (bodyOf Tryd.f21) 1 (finK N22 Tryd.f21 K)) rfl (fun i hi => ?_) 0 ⟨Int.le_refl 0, by omega, fun j hj => by omega⟩
        obtain ⟨i1, i2, i3⟩ := hi
        by_cases h : i < I.length
        · have hw : IntKind.wrap .i64 (i + 1) = i + 1 := w1 i1 (by omega)
          by_cases hx : IntKind.wrap .i64 ((I.getD i.toNat 0).toNat : Int) ≥ ((X.map cellsT).length : Int)
          · refine .inr ⟨.ret, _, by simp, fun K' hK' => by
              rw [g37_lp2]
              exact brn_T (decide_eq_true h) ⟨i1, h, brn_T (decide_eq_true hx) hK'⟩, 8, fun h => absurd h (by decide), fun K hK => ?_⟩
            exact Eq.mp (by kernel_rfl) hK
          · refine .inl ⟨i + 1, q37b, _, ⟨by omega, by omega, fun j hj => ?_⟩, by omega, ?_, fun K' hK' => by
              rw [g37_lp2, hw]
              exact brn_T (decide_eq_true h) ⟨i1, h, brn_Fa (decide_eq_false hx) hK'⟩⟩
            · by_cases hji : (j : Int) = i
              · have e : j = i.toNat := by omega
                rw [wrapB, hlX] at hx
                rw [e]; omega
              · exact i3 j (by omega)
            · kernel_rfl
        · have hfin : okBl T I X C S U := ⟨f1, f2, f3, f4, f5, fun j hj => i3 j (by omega)⟩
          have e1 : tys (X.map cellsT) = tys (X.map cellsT) := rfl
          cases k1 : (chkV (tys (X.map cellsT)) (C.length : Int) != 0) with
          | true =>
            refine .inr ⟨.exit 2, _, by simp, fun K' hK' => by
              rw [g37_lp2]
              exact brn_Fa (decide_eq_false h) hK', chkV (tys (X.map cellsT)) (C.length : Int), fun h => absurd h (bne_iff_ne.mp k1), fun K hK => ?_⟩
            have key := Eq.mpr (g37_out2 T I X C L S U v ((X.map cellsT).length : Int) i K) ⟨hT, by rw [hlX]; exact l3, brn_T k1 hK⟩
            exact Eq.mp (by kernel_rfl) key
          | false =>
            cases k2 : (!badV C == -1) with
            | true =>
              refine .inr ⟨.exit 2, _, by simp, fun K' hK' => by
                rw [g37_lp2]
                exact brn_Fa (decide_eq_false h) hK', 11, fun h => absurd h (by decide), fun K hK => ?_⟩
              have key := Eq.mpr (g37_out2 T I X C L S U v ((X.map cellsT).length : Int) i K) ⟨hT, by rw [hlX]; exact l3, brn_Fa k1 ⟨l4, brn_T k2 hK⟩⟩
              exact Eq.mp (by kernel_rfl) key
            | false =>
              cases k3 : (!lvV (lps (L.map cellsL)) v) with
              | true =>
                refine .inr ⟨.exit 2, _, by simp, fun K' hK' => by
                  rw [g37_lp2]
                  exact brn_Fa (decide_eq_false h) hK', 12, fun h => absurd h (by decide), fun K hK => ?_⟩
                have key := Eq.mpr (g37_out2 T I X C L S U v ((X.map cellsT).length : Int) i K) ⟨hT, by rw [hlX]; exact l3, brn_Fa k1 ⟨l4, brn_Fa k2 ⟨hL, by rw [hlL]; exact l5, brn_T k3 hK⟩⟩⟩
                exact Eq.mp (by kernel_rfl) key
              | false =>
                cases k4 : (!conV S U) with
                | true =>
                  refine .inr ⟨.exit 2, _, by simp, fun K' hK' => by
                    rw [g37_lp2]
                    exact brn_Fa (decide_eq_false h) hK', 13, fun h => absurd h (by decide), fun K hK => ?_⟩
                  have key := Eq.mpr (g37_out2 T I X C L S U v ((X.map cellsT).length : Int) i K) ⟨hT, by rw [hlX]; exact l3, brn_Fa k1 ⟨l4, brn_Fa k2 ⟨hL, by rw [hlL]; exact l5, brn_Fa k3 ⟨l6, brn_T k4 hK⟩⟩⟩⟩
                  exact Eq.mp (by kernel_rfl) key
                | false =>
                  refine .inr ⟨.exit 2, _, by simp, fun K' hK' => by
                    rw [g37_lp2]
                    exact brn_Fa (decide_eq_false h) hK', 0, fun _ => ⟨hfin, hd1, by simpa using k3⟩, fun K hK => ?_⟩
                  have key := Eq.mpr (g37_out2 T I X C L S U v ((X.map cellsT).length : Int) i K) ⟨hT, by rw [hlX]; exact l3, brn_Fa k1 ⟨l4, brn_Fa k2 ⟨hL, by rw [hlL]; exact l5, brn_Fa k3 ⟨l6, brn_Fa k4 hK⟩⟩⟩⟩
                  exact Eq.mp (by kernel_rfl) key
      refine Exists.elim (loop_det (C := N22) (c := loopB (bodyOf Tryd.f21) 0) (fun i : Int => k37 T I X C L S U v s ((X.map cellsT).length : Int) i) (fun i => 0 ≤ i ∧ i ≤ L.length) (fun i => ((L.length : Int) - i).toNat) (fun r : Int => r = 0 → okBd T I X C L S U v) (fun r => [i64 r])
        (fun K => loopK N22 (bodyOf Tryd.f21) 0 (finK N22 Tryd.f21 K)) rfl (fun i hi => ?_) 0 ⟨Int.le_refl 0, by omega⟩) (fun r hr => ?_)
      · obtain ⟨i1, i2⟩ := hi
        by_cases h : i < L.length
        · have hb : i < ((L.map cellsL).length : Int) := by rw [hlL]; exact h
          have hk := kcL i1 h
          have hw : IntKind.wrap .i64 (i + 1) = i + 1 := w1 i1 (by omega)
          cases hx : (!fitsP (ivInt (ivNth (List.getD (List.map cellsL L) i.toNat []) 0)) s) with
          | true =>
            refine .inr ⟨.ret, _, by simp, fun K' hK' => by
              rw [g37_lp]
              exact brn_T (decide_eq_true hb) ⟨i1, hb, hk, hs, brn_T hx hK'⟩, 18, fun h => absurd h (by decide), fun K hK => ?_⟩
            exact Eq.mp (by kernel_rfl) hK
          | false =>
            refine .inl ⟨i + 1, q37, _, ⟨by omega, by omega⟩, by omega, ?_, fun K' hK' => by
              rw [g37_lp, hw]
              exact brn_T (decide_eq_true hb) ⟨i1, hb, hk, hs, brn_Fa hx hK'⟩⟩
            kernel_rfl
        · have hb : ¬ i < ((L.map cellsL).length : Int) := by rw [hlL]; exact h
          cases hd : (desV T != -1) with
          | true =>
            refine .inr ⟨.exit 0, _, by simp, fun K' hK' => by
              rw [g37_lp]
              exact brn_Fa (decide_eq_false hb) hK', 7, fun h => absurd h (by decide), fun K hK => ?_⟩
            have key := Eq.mpr (g37_out T I X C L S U v s ((X.map cellsT).length : Int) i K) ⟨l1, brn_T hd hK⟩
            exact Eq.mp (by kernel_rfl) key
          | false =>
            obtain ⟨r, hr, hk⟩ := second (bne_eq_false_iff_eq.mp hd)
            refine .inr ⟨.exit 0, _, by simp, fun K' hK' => by
              rw [g37_lp]
              exact brn_Fa (decide_eq_false hb) hK', r, hr, fun K hK => ?_⟩
            have key := Eq.mpr (g37_out T I X C L S U v s ((X.map cellsT).length : Int) i K) ⟨l1, brn_Fa hd (by
              unfold LoopI
              exact hk K hK q37b _ (by kernel_rfl))⟩
            exact Eq.mp (by kernel_rfl) key
      · obtain ⟨hr', hk⟩ := hr
        refine ⟨r, hr', fun K hK => ?_⟩
        rw [g37_in]
        refine brn_Fa c0 ⟨hs, by omega, brn_Fa (by rw [hf]; rfl) ?_⟩
        unfold LoopI
        exact hk K hK q37 _ (by kernel_rfl)
end PF
set_option maxRecDepth 100000
namespace PF
open Go Go.AE Go.Proofs PE
noncomputable section
def blV (T : List Int) (I : List UInt8) (X : List Ty) (C : List UInt8) (L : List Lp) (S U : List Bool) (n s : Int) : Int := Classical.epsilon fun v : Int => (v = 0 → okBd T I X C L S U n) ∧ ∀ K : List AV → Prop, K [i64 v] → evSpec N22 Tryd.f21 [.agg (blC T I X C L S U), i64 n, i64 s] K
def okBp (T : List Int) (I : List UInt8) (X : List (List IV)) (C : List UInt8) (L : List (List IV)) (S U : List Bool) : Prop :=
  okT X ∧ okL L ∧ (T.length : Int) ≤ 1000000 ∧ (I.length : Int) ≤ 1000000 ∧ (X.length : Int) ≤ 1000000 ∧ (C.length : Int) ≤ 1000000 ∧ (L.length : Int) ≤ 1000000 ∧ (U.length : Int) ≤ 1000000
def sBlk : List AV → Option (List Prop × List AV)
  | [.agg [.imm (.ints .i64 T), .imm (.bytes I), .imm (.sl 3 X), .imm (.bytes C), .imm (.sl 2 L), .imm (.bools S), .imm (.bools U)], .imm (.int .i64 n), .imm (.int .i64 s)] => some ([okBp T I X C L S U, sz48 s], [i64 (blV T I (tys X) C (lps L) S U n s)])
  | _ => none
noncomputable def F35 := addE F34 21 sBlk
def N23 : Cx := ⟨Tryd.prog, F35, noCall, G16, 4010⟩
def fiC (v : Int) (T : List Int) (I : List UInt8) (X : List (List IV)) (C : List UInt8) (L : List (List IV)) (S U : List Bool) (T' : List Int) (I' : List UInt8) (X' : List (List IV)) (C' : List UInt8) (L' : List (List IV)) (S' U' : List Bool) (f : List UInt8) : List AV :=
  [i64 v, ii T, by' I, .imm (.sl 3 X), by' C, .imm (.sl 2 L), oo S, oo U, ii T', by' I', .imm (.sl 3 X'), by' C', .imm (.sl 2 L'), oo S', oo U', .imm (.str f)]
end
noncomputable section
def atO (s : List UInt8) (o : Int) (h : Bool) (t : List UInt8) (p a b c d e f a' b' c' d' e' f' x : Int) : Int := bif onV (ruC s o h t p (rdC a b c d e f) (rdC a' b' c' d' e' f')) (splD x) (splS x) (dtV (splD x)).1 then p else o
def atD (s : List UInt8) (o : Int) (h : Bool) (t : List UInt8) (p a b c d e f a' b' c' d' e' f' x : Int) : Bool := onV (ruC s o h t p (rdC a b c d e f) (rdC a' b' c' d' e' f')) (splD x) (splS x) (dtV (splD x)).1
def atN (s : List UInt8) (o : Int) (h : Bool) (t : List UInt8) (p a b c d e f a' b' c' d' e' f' x : Int) : List UInt8 := bif onV (ruC s o h t p (rdC a b c d e f) (rdC a' b' c' d' e' f')) (splD x) (splS x) (dtV (splD x)).1 then t else s
end
attribute [local irreducible] loopK evCode evSpec loopB norm
theorem ok37e : ∀ args pres res, sBlk args = some (pres, res) → SpecOK Tryd.prog G16 21 args pres res := by
  intro args pres res h
  unfold sBlk at h
  split at h
  case h_2 => cases h
  cases h
  rename_i T I X C L S U n s
  refine spec_ok (C := N22) okF34 noCall_ok Tryd.func21 (by kernel_rfl) (by kernel_rfl) (fun hp => ?_)
  obtain ⟨hX, hL, l1, l2, l3, l4, l5, l6⟩ := hp (okBp T I X C L S U) (by simp)
  have hs : sz48 s := hp _ (by simp)
  have e1 := xT_tys hX
  have hX' : okT ((tys X).map cellsT) := by rw [← hX.1]; exact hX
  obtain ⟨M, rfl, e, hM⟩ := okL_elim hL
  rw [List.length_map] at l5
  rw [e]
  have := (Classical.epsilon_spec (bl_ex T I (tys X) C M S U n s hX' hL hs l1 l2 (by rw [tys_len hX]; exact l3) l4 l5 l6)).2
  rw [e1]
  exact this _ rfl
theorem okF35 : EOK Tryd.prog F35 G16 := addE_ok okF34 ok37e
theorem bl_sp {T : List Int} {I : List UInt8} {X : List (List IV)} {C : List UInt8} {L : List (List IV)} {S U : List Bool} {n s : Int} (h : okBp T I X C L S U) (hs : sz48 s) : blV T I (tys X) C (lps L) S U n s = 0 → okBl T I (tys X) C S U ∧ desV T = -1 ∧ lvV (lps L) n = true := by
  obtain ⟨hX, hL, l1, l2, l3, l4, l5, l6⟩ := h
  have hX' : okT ((tys X).map cellsT) := by rw [← hX.1]; exact hX
  obtain ⟨M, rfl, e, hM⟩ := okL_elim hL
  rw [List.length_map] at l5
  rw [e]
  intro h0
  have := (Classical.epsilon_spec (bl_ex T I (tys X) C M S U n s hX' hL hs l1 l2 (by rw [tys_len hX]; exact l3) l4 l5 l6)).1 h0
  unfold okBd at this
  rw [e] at this
  exact this
end PF
set_option maxRecDepth 100000
namespace PF
open Go Go.AE Go.Proofs PE
attribute [local irreducible] loopK evCode evSpec loopB norm
theorem g39_in (v : Int) (T : List Int) (I : List UInt8) (X : List (List IV)) (C : List UInt8) (L : List (List IV)) (S : List Bool) (U : List Bool) (T' : List Int) (I' : List UInt8) (X' : List (List IV)) (C' : List UInt8) (L' : List (List IV)) (S' : List Bool) (U' : List Bool) (f : List UInt8) (K : List AV → Prop) (Q1 : Pz) (hQ1 : Q1 = (pzV f)) : evSpec N23 Tryd.f22 [.agg (fiC v T I X C L S U T' I' X' C' L' S' U' f)] K = ( let E1 : Prop := ((sm (St.mk (lapp [.agg [i64 v, .imm (.ints IntKind.i64 T), by' I, .imm (.sl 3 X), by' C, .imm (.sl 2 L), .imm (.bools S), .imm (.bools U), .imm (.ints IntKind.i64 T'), by' I', .imm (.sl 3 X'), by' C', .imm (.sl 2 L'), .imm (.bools S'), .imm (.bools U'), .imm (.str f)], .ptr 0 0, i64 0, i64 0, .ptr 1 0, i64 (Pz.er Q1), i64 (Pz.at' Q1), i64 (T'.length : Int), i64 (List.getD T' (IntKind.wrap .i64 ((T'.length : Int) - 1)).toNat (0 : Int)), i64 (minU (List.getD T' (IntKind.wrap .i64 ((T'.length : Int) - 1)).toNat (0 : Int)) (coV (lps L') (List.getD T' (IntKind.wrap .i64 ((T'.length : Int) - 1)).toNat (0 : Int))))] (lapp (dN 40) [.agg [.imm (.str (Pz.s Q1)), i64 (Pz.o Q1), bo (Pz.h Q1), .imm (.str (Pz.t Q1)), i64 (Pz.p Q1), i64 (Pz.a Q1), i64 (Pz.b
 Q1), i64 (Pz.c Q1), i64 (Pz.d Q1), i64 (Pz.e Q1), i64 (Pz.f Q1), i64 (Pz.a' Q1), i64 (Pz.b' Q1), i64 (Pz.c' Q1), i64 (Pz.d' Q1), i64 (Pz.e' Q1), i64 (Pz.f' Q1)], i64 (minU (List.getD T' (IntKind.wrap .i64 ((T'.length : Int) - 1)).toNat (0 : Int)) (coV (lps L') (List.getD T' (IntKind.wrap .i64 ((T'.length : Int) - 1)).toNat (0 : Int)))), .agg [bo true, i64 (atO (Pz.s Q1) (Pz.o Q1) (Pz.h Q1) (Pz.t Q1) (Pz.p Q1) (Pz.a Q1) (Pz.b Q1) (Pz.c Q1) (Pz.d Q1) (Pz.e Q1) (Pz.f Q1) (Pz.a' Q1) (Pz.b' Q1) (Pz.c' Q1) (Pz.d' Q1) (Pz.e' Q1) (Pz.f' Q1) (minU (List.getD T' (IntKind.wrap .i64 ((T'.length : Int) - 1)).toNat (0 : Int)) (coV (lps L') (List.getD T' (IntKind.wrap .i64 ((T'.length : Int) - 1)).toNat (0 : Int))))), bo (atD (Pz.s Q1) (Pz.o Q1) (Pz.h Q1) (Pz.t Q1) (Pz.p Q1) (Pz.a Q1) (Pz.b Q1) (Pz.c Q1) (Pz.d Q1) (Pz.e Q1) (Pz.f Q1) (Pz.a' Q1) (Pz.b' Q1) (Pz.c' Q1) (Pz.d' Q1) (Pz.e' Q1) (Pz.f' Q1) (minU (List.getD T' (IntKind.wrap .i64 ((T'.length : Int) - 1)).toNat (0 : Int)) (coV (lps L') (List.getD T' (IntKind.wrap .i64 ((T'.length : Int) - 1)).toNat (0 : Int))))), .imm (.str (atN (Pz.s Q1) (Pz.o Q1) (Pz.h Q1) (Pz.t Q1) (Pz.p Q1) (Pz.a Q1) (Pz.b Q1) (Pz.c Q1) (Pz.d Q1) (Pz.e Q1) (Pz.f Q1)
 (Pz.a' Q1) (Pz.b' Q1) (Pz.c' Q1) (Pz.d' Q1) (Pz.e' Q1) (Pz.f' Q1) (minU (List.getD T' (IntKind.wrap .i64 ((T'.length : Int) - 1)).toNat (0 : Int)) (coV (lps L') (List.getD T' (IntKind.wrap .i64 ((T'.length : Int) - 1)).toNat (0 : Int))))))], .ptr 0 8, .agg [.imm (.ints IntKind.i64 T'), by' I', .imm (.sl 3 X'), by' C', .imm (.sl 2 L'), .imm (.bools S'), .imm (.bools U')], .ptr 0 8, .ptr 0 9, by' I', i64 (T'.length : Int), i64 (IntKind.wrap .i64 ((T'.length : Int) - 1)), AV.elv [IV.int .u8 (↑(UInt8.toNat (List.getD I' (IntKind.wrap .i64 ((T'.length : Int) - 1)).toNat (0 : UInt8))) : Int)], .imm (.int .u8 (↑(UInt8.toNat (List.getD I' (IntKind.wrap .i64 ((T'.length : Int) - 1)).toNat (0 : UInt8))) : Int)), i64 (IntKind.wrap .i64 (↑(UInt8.toNat (List.getD I' (IntKind.wrap .i64 ((T'.length : Int) - 1)).toNat (0 : UInt8))) : Int)), .agg [bo true, i64 (IntKind.wrap .i64 (ivInt (ivNth (List.getD X' (IntKind.wrap .i64 (↑(UInt8.toNat (List.getD I' (IntKind.wrap .i64 ((T'.length : Int) - 1)).toNat (0 : UInt8))) : Int)).toNat []) 0))), bo (ivBool (ivNth (List.getD X' (IntKind.wrap .i64 (↑(UInt8.toNat (List.getD I' (IntKind.wrap .i64 ((T'.length : Int) - 1)).toNat (0 : UInt8))) : Int)).toNat [])
 (0 + 1))), .imm (.str (nmV C' (IntKind.wrap .i64 (ivInt (ivNth (List.getD X' (IntKind.wrap .i64 (↑(UInt8.toNat (List.getD I' (IntKind.wrap .i64 ((T'.length : Int) - 1)).toNat (0 : UInt8))) : Int)).toNat []) (0 + 1 + 1))))).1)], bo (!(true == true && (atO (Pz.s Q1) (Pz.o Q1) (Pz.h Q1) (Pz.t Q1) (Pz.p Q1) (Pz.a Q1) (Pz.b Q1) (Pz.c Q1) (Pz.d Q1) (Pz.e Q1) (Pz.f Q1) (Pz.a' Q1) (Pz.b' Q1) (Pz.c' Q1) (Pz.d' Q1) (Pz.e' Q1) (Pz.f' Q1) (minU (List.getD T' (IntKind.wrap .i64 ((T'.length : Int) - 1)).toNat (0 : Int)) (coV (lps L') (List.getD T' (IntKind.wrap .i64 ((T'.length : Int) - 1)).toNat (0 : Int)))) == IntKind.wrap .i64 (ivInt (ivNth (List.getD X' (IntKind.wrap .i64 (↑(UInt8.toNat (List.getD I' (IntKind.wrap .i64 ((T'.length : Int) - 1)).toNat (0 : UInt8))) : Int)).toNat []) 0)) && (atD (Pz.s Q1) (Pz.o Q1) (Pz.h Q1) (Pz.t Q1) (Pz.p Q1) (Pz.a Q1) (Pz.b Q1) (Pz.c Q1) (Pz.d Q1) (Pz.e Q1) (Pz.f Q1) (Pz.a' Q1) (Pz.b' Q1) (Pz.c' Q1) (Pz.d' Q1) (Pz.e' Q1) (Pz.f' Q1) (minU (List.getD T' (IntKind.wrap .i64 ((T'.length : Int) - 1)).toNat (0 : Int)) (coV (lps L') (List.getD T' (IntKind.wrap .i64 ((T'.length : Int) - 1)).toNat (0 : Int)))) == ivBool (ivNth (List.getD X' (IntKind.wrap .i64
 (↑(UInt8.toNat (List.getD I' (IntKind.wrap .i64 ((T'.length : Int) - 1)).toNat (0 : UInt8))) : Int)).toNat []) (0 + 1)) && (decide (atN (Pz.s Q1) (Pz.o Q1) (Pz.h Q1) (Pz.t Q1) (Pz.p Q1) (Pz.a Q1) (Pz.b Q1) (Pz.c Q1) (Pz.d Q1) (Pz.e Q1) (Pz.f Q1) (Pz.a' Q1) (Pz.b' Q1) (Pz.c' Q1) (Pz.d' Q1) (Pz.e' Q1) (Pz.f' Q1) (minU (List.getD T' (IntKind.wrap .i64 ((T'.length : Int) - 1)).toNat (0 : Int)) (coV (lps L') (List.getD T' (IntKind.wrap .i64 ((T'.length : Int) - 1)).toNat (0 : Int)))) = (nmV C' (IntKind.wrap .i64 (ivInt (ivNth (List.getD X' (IntKind.wrap .i64 (↑(UInt8.toNat (List.getD I' (IntKind.wrap .i64 ((T'.length : Int) - 1)).toNat (0 : UInt8))) : Int)).toNat []) (0 + 1 + 1))))).1) && true)))))])) [(0, Ob.mk true 0 (AObj.cells [i64 v, .imm (.ints IntKind.i64 T), by' I, .imm (.sl 3 X), by' C, .imm (.sl 2 L), .imm (.bools S), .imm (.bools U), .imm (.ints IntKind.i64 T'), by' I', .imm (.sl 3 X'), by' C', .imm (.sl 2 L'), .imm (.bools S'), .imm (.bools U'), .imm (.str f)])), (1, Ob.mk true 0 (AObj.cells [.imm (.str (Pz.s Q1)), i64 (Pz.o Q1), bo (Pz.h Q1), .imm (.str (Pz.t Q1)), i64 (Pz.p Q1), i64 (Pz.a Q1), i64 (Pz.b Q1), i64 (Pz.c Q1), i64 (Pz.d Q1), i64 (Pz.e Q1), i64 (Pz.f Q1), i64
 (Pz.a' Q1), i64 (Pz.b' Q1), i64 (Pz.c' Q1), i64 (Pz.d' Q1), i64 (Pz.e' Q1), i64 (Pz.f' Q1)]))] 2 []))); brn (decide (f = [])) (K [i64 0, i64 0]) ((f.length : Int) ≤ 1000000 ∧ brn (Pz.er Q1 != 0) (K [i64 14, i64 (Pz.at' Q1)]) (brn (v == 2 && extU (Pz.h Q1) (Pz.f Q1) (Pz.f' Q1)) (K [i64 16, i64 0]) (brn ((T'.length : Int) == 0) (K [i64 0, i64 0]) ((0 : Int) ≤ IntKind.wrap .i64 ((T'.length : Int) - 1) ∧ IntKind.wrap .i64 ((T'.length : Int) - 1) < (T'.length : Int) ∧ okL L' ∧ (L'.length : Int) ≤ 1000000 ∧ ((0 : Int) ≤ IntKind.wrap .i64 ((T'.length : Int) - 1) ∧ IntKind.wrap .i64 ((T'.length : Int) - 1) < (I'.length : Int) ∧ (okRu (Pz.o Q1) (Pz.p Q1) (Pz.h Q1) (vDay (Pz.a Q1) (Pz.b Q1) (Pz.c Q1) (Pz.d Q1) (Pz.e Q1) (Pz.f Q1)) (vDay (Pz.a' Q1) (Pz.b' Q1) (Pz.c' Q1) (Pz.d' Q1) (Pz.e' Q1) (Pz.f' Q1)) ∧ (-9223372036854775808 : Int) ≤ minU (List.getD T' (IntKind.wrap .i64 ((T'.length : Int) - 1)).toNat (0 : Int)) (coV (lps L') (List.getD T' (IntKind.wrap .i64 ((T'.length : Int) - 1)).toNat (0 : Int))) ∧ minU (List.getD T' (IntKind.wrap .i64 ((T'.length : Int) - 1)).toNat (0 : Int)) (coV (lps L') (List.getD T' (IntKind.wrap .i64 ((T'.length : Int) - 1)).toNat (0 : Int))) ≤ 9223372036854775807
 ∧ okT X' ∧ (0 : Int) ≤ IntKind.wrap .i64 (↑(UInt8.toNat (List.getD I' (IntKind.wrap .i64 ((T'.length : Int) - 1)).toNat (0 : UInt8))) : Int) ∧ IntKind.wrap .i64 (↑(UInt8.toNat (List.getD I' (IntKind.wrap .i64 ((T'.length : Int) - 1)).toNat (0 : UInt8))) : Int) < (X'.length : Int) ∧ (C'.length : Int) ≤ 1000000 ∧ E1) ∧ okRu (Pz.o Q1) (Pz.p Q1) (Pz.h Q1) (vDay (Pz.a Q1) (Pz.b Q1) (Pz.c Q1) (Pz.d Q1) (Pz.e Q1) (Pz.f Q1)) (vDay (Pz.a' Q1) (Pz.b' Q1) (Pz.c' Q1) (Pz.d' Q1) (Pz.e' Q1) (Pz.f' Q1)) ∧ (-9223372036854775808 : Int) ≤ minU (List.getD T' (IntKind.wrap .i64 ((T'.length : Int) - 1)).toNat (0 : Int)) (coV (lps L') (List.getD T' (IntKind.wrap .i64 ((T'.length : Int) - 1)).toNat (0 : Int))) ∧ minU (List.getD T' (IntKind.wrap .i64 ((T'.length : Int) - 1)).toNat (0 : Int)) (coV (lps L') (List.getD T' (IntKind.wrap .i64 ((T'.length : Int) - 1)).toNat (0 : Int))) ≤ 9223372036854775807 ∧ okT X' ∧ (0 : Int) ≤ IntKind.wrap .i64 (↑(UInt8.toNat (List.getD I' (IntKind.wrap .i64 ((T'.length : Int) - 1)).toNat (0 : UInt8))) : Int) ∧ IntKind.wrap .i64 (↑(UInt8.toNat (List.getD I' (IntKind.wrap .i64 ((T'.length : Int) - 1)).toNat (0 : UInt8))) : Int) < (X'.length : Int) ∧ (C'.length : Int) ≤ 1000000
 ∧ E1) ∧ brn (!(true == true && (atO (Pz.s Q1) (Pz.o Q1) (Pz.h Q1) (Pz.t Q1) (Pz.p Q1) (Pz.a Q1) (Pz.b Q1) (Pz.c Q1) (Pz.d Q1) (Pz.e Q1) (Pz.f Q1) (Pz.a' Q1) (Pz.b' Q1) (Pz.c' Q1) (Pz.d' Q1) (Pz.e' Q1) (Pz.f' Q1) (minU (List.getD T' (IntKind.wrap .i64 ((T'.length : Int) - 1)).toNat (0 : Int)) (coV (lps L') (List.getD T' (IntKind.wrap .i64 ((T'.length : Int) - 1)).toNat (0 : Int)))) == IntKind.wrap .i64 (ivInt (ivNth (List.getD X' (IntKind.wrap .i64 (↑(UInt8.toNat (List.getD I' (IntKind.wrap .i64 ((T'.length : Int) - 1)).toNat (0 : UInt8))) : Int)).toNat []) 0)) && (atD (Pz.s Q1) (Pz.o Q1) (Pz.h Q1) (Pz.t Q1) (Pz.p Q1) (Pz.a Q1) (Pz.b Q1) (Pz.c Q1) (Pz.d Q1) (Pz.e Q1) (Pz.f Q1) (Pz.a' Q1) (Pz.b' Q1) (Pz.c' Q1) (Pz.d' Q1) (Pz.e' Q1) (Pz.f' Q1) (minU (List.getD T' (IntKind.wrap .i64 ((T'.length : Int) - 1)).toNat (0 : Int)) (coV (lps L') (List.getD T' (IntKind.wrap .i64 ((T'.length : Int) - 1)).toNat (0 : Int)))) == ivBool (ivNth (List.getD X' (IntKind.wrap .i64 (↑(UInt8.toNat (List.getD I' (IntKind.wrap .i64 ((T'.length : Int) - 1)).toNat (0 : UInt8))) : Int)).toNat []) (0 + 1)) && (decide (atN (Pz.s Q1) (Pz.o Q1) (Pz.h Q1) (Pz.t Q1) (Pz.p Q1) (Pz.a Q1) (Pz.b Q1) (Pz.c Q1) (Pz.d Q1)
 (Pz.e Q1) (Pz.f Q1) (Pz.a' Q1) (Pz.b' Q1) (Pz.c' Q1) (Pz.d' Q1) (Pz.e' Q1) (Pz.f' Q1) (minU (List.getD T' (IntKind.wrap .i64 ((T'.length : Int) - 1)).toNat (0 : Int)) (coV (lps L') (List.getD T' (IntKind.wrap .i64 ((T'.length : Int) - 1)).toNat (0 : Int)))) = (nmV C' (IntKind.wrap .i64 (ivInt (ivNth (List.getD X' (IntKind.wrap .i64 (↑(UInt8.toNat (List.getD I' (IntKind.wrap .i64 ((T'.length : Int) - 1)).toNat (0 : UInt8))) : Int)).toNat []) (0 + 1 + 1))))).1) && true))))) (K [i64 15, i64 0]) (K [i64 0, i64 0])))))) := by subst hQ1; kernel_rfl
theorem wrap_b (n : Int) : -9223372036854775808 ≤ IntKind.wrap .i64 n ∧ IntKind.wrap .i64 n ≤ 9223372036854775807 := by
  rw [wrap64m]; omega
theorem min_b (t c : Int) : -9223372036854775808 ≤ minU t c ∧ minU t c ≤ 9223372036854775807 := by
  unfold minU
  split
  · decide
  · split
    · decide
    · exact wrap_b _
theorem brn_bif {K : List AV → Prop} {B : Bool} {x : Int} (h : K [i64 (bif B then x else 0), i64 0]) : brn B (K [i64 x, i64 0]) (K [i64 0, i64 0]) := by
  cases B with
  | true => exact brn_T rfl h
  | false => exact brn_Fa rfl h
def ftP (v : Int) (f : List UInt8) : Prop := f = [] ∨ (P9.whyP f = 0 ∧ (v = 2 → extU (pzV f).h (pzV f).f (pzV f).f' = false))
theorem ft_ex (v : Int) (T : List Int) (I : List UInt8) (X : List (List IV)) (C : List UInt8) (L : List (List IV)) (S U : List Bool) (T' : List Int) (I' : List UInt8) (X' : List (List IV)) (C' : List UInt8) (L' : List (List IV)) (S' U' : List Bool) (f : List UInt8)
    (hp : okBp T' I' X' C' L' S' U') (hb : okBl T' I' (tys X') C' S' U') (hf : (f.length : Int) ≤ 1000000) :
    ∃ r : Int × Int, (r.1 = 0 → ftP v f) ∧ ∀ K : List AV → Prop, K [i64 r.1, i64 r.2] → evSpec N23 Tryd.f22 [.agg (fiC v T I X C L S U T' I' X' C' L' S' U' f)] K := by
  obtain ⟨hX, hL, l1, l2, l3, l4, l5, l6⟩ := hp
  obtain ⟨b1, b2, b3, b4, b5, b6⟩ := hb
  obtain ⟨Q, hQ⟩ : ∃ Q, Q = pzV f := ⟨_, rfl⟩
  have g := fun K => g39_in v T I X C L S U T' I' X' C' L' S' U' f K Q hQ
  by_cases h0 : f = []
  · refine ⟨(0, 0), fun _ => .inl h0, fun K hK => ?_⟩
    · rw [g]
      intro E1
      exact brn_T (decide_eq_true h0) hK
  · have hz := decide_eq_false h0
    cases he : (Q.er != 0) with
    | true =>
      refine ⟨(14, Q.at'), fun h => absurd h (by show ¬ (14 : Int) = 0; decide), fun K hK => ?_⟩
      rw [g]
      intro E1
      exact brn_Fa hz ⟨hf, brn_T he hK⟩
    | false =>
      have he0 : Q.er = 0 := bne_eq_false_iff_eq.mp he
      have hru : okRu Q.o Q.p Q.h (vDay Q.a Q.b Q.c Q.d Q.e Q.f) (vDay Q.a' Q.b' Q.c' Q.d' Q.e' Q.f') := by rw [hQ] at he0 ⊢; exact pz_ru he0
      have hw : P9.whyP f = 0 := by rw [hQ] at he0; exact he0
      cases hx : (v == 2 && extU Q.h Q.f Q.f') with
      | true =>
        refine ⟨(16, 0), fun h => absurd h (by decide), fun K hK => ?_⟩
        rw [g]
        intro E1
        exact brn_Fa hz ⟨hf, brn_Fa he (brn_T hx hK)⟩
      | false =>
        have hcl : ftP v f := .inr ⟨hw, fun h2 => by
          rw [← hQ]
          have h3 : (v == 2) = true := by rw [h2]; first | done | rfl
          rw [h3, Bool.true_and] at hx
          exact hx⟩
        cases hn : ((T'.length : Int) == 0) with
        | true =>
          refine ⟨(0, 0), fun _ => hcl, fun K hK => ?_⟩
          rw [g]
          intro E1
          exact brn_Fa hz ⟨hf, brn_Fa he (brn_Fa hx (brn_T hn hK))⟩
        | false =>
          have hn0 : T'.length ≠ 0 := fun h => by rw [h] at hn; exact absurd hn (by decide)
          have ew : IntKind.wrap .i64 ((T'.length : Int) - 1) = (T'.length : Int) - 1 := wrap64 (by omega) (by omega)
          have w0 : 0 ≤ IntKind.wrap .i64 ((T'.length : Int) - 1) := by omega
          have wT : IntKind.wrap .i64 ((T'.length : Int) - 1) < T'.length := by omega
          have wI : IntKind.wrap .i64 ((T'.length : Int) - 1) < I'.length := by omega
          have hi := b6 (IntKind.wrap .i64 ((T'.length : Int) - 1)).toNat (by omega)
          rw [tys_len hX] at hi
          have eB := wrapB (I'.getD (IntKind.wrap .i64 ((T'.length : Int) - 1)).toNat 0)
          have x0 : 0 ≤ IntKind.wrap .i64 ((I'.getD (IntKind.wrap .i64 ((T'.length : Int) - 1)).toNat 0).toNat : Int) := by omega
          have x1 : IntKind.wrap .i64 ((I'.getD (IntKind.wrap .i64 ((T'.length : Int) - 1)).toNat 0).toNat : Int) < X'.length := by omega
          have mb := fun t c => min_b t c
          exact ⟨(bif _ then 15 else 0, 0), fun _ => hcl, fun K hK => by
            rw [g]
            intro E1
            have hE : E1 := rfl
            clear_value E1
            exact brn_Fa hz ⟨hf, brn_Fa he (brn_Fa hx (brn_Fa hn ⟨w0, wT, hL, l5, ⟨w0, wI, ⟨hru, (mb _ _).1, (mb _ _).2, hX, x0, x1, l4, hE⟩, hru, (mb _ _).1, (mb _ _).2, hX, x0, x1, l4, hE⟩, brn_bif hK⟩))⟩⟩
end PF
set_option maxRecDepth 100000
namespace PF
open Go Go.AE Go.Proofs PE
noncomputable section
def ftV (n : Int) (T : List Int) (I : List UInt8) (X : List (List IV)) (C : List UInt8) (L : List (List IV)) (S U : List Bool) (T' : List Int) (I' : List UInt8) (X' : List (List IV)) (C' : List UInt8) (L' : List (List IV)) (S' U' : List Bool) (f : List UInt8) : Int × Int := Classical.epsilon fun v : Int × Int => (v.1 = 0 → ftP n f) ∧ ∀ K : List AV → Prop, K [i64 v.1, i64 v.2] → evSpec N23 Tryd.f22 [.agg (fiC n T I X C L S U T' I' X' C' L' S' U' f)] K
def sFoot : List AV → Option (List Prop × List AV)
  | [.agg [.imm (.int .i64 n), .imm (.ints .i64 T), .imm (.bytes I), .imm (.sl 3 X), .imm (.bytes C), .imm (.sl 2 L), .imm (.bools S), .imm (.bools U), .imm (.ints .i64 T'), .imm (.bytes I'), .imm (.sl 3 X'), .imm (.bytes C'), .imm (.sl 2 L'), .imm (.bools S'), .imm (.bools U'), .imm (.str f)]] => some ([okBp T' I' X' C' L' S' U', okBl T' I' (tys X') C' S' U', (f.length : Int) ≤ 1000000], [i64 (ftV n T I X C L S U T' I' X' C' L' S' U' f).1, i64 (ftV n T I X C L S U T' I' X' C' L' S' U' f).2])
  | _ => none
noncomputable def F36 := addE F35 22 sFoot
def N24 : Cx := ⟨Tryd.prog, F36, noCall, G16, 4004⟩
def N25 : Cx := ⟨Tryd.prog, F36, noCall, G16, 4003⟩
end
attribute [local irreducible] loopK evCode evSpec loopB norm
theorem ok39e : ∀ args pres res, sFoot args = some (pres, res) → SpecOK Tryd.prog G16 22 args pres res := by
  intro args pres res h
  unfold sFoot at h
  split at h
  case h_2 => cases h
  cases h
  exact spec_ok (C := N23) okF35 noCall_ok Tryd.func22 (by kernel_rfl) (by kernel_rfl) (fun hp => (Classical.epsilon_spec (ft_ex _ _ _ _ _ _ _ _ _ _ _ _ _ _ _ _ (hp _ (by simp)) (hp _ (by simp)) (hp _ (by simp)))).2 _ rfl)
theorem okF36 : EOK Tryd.prog F36 G16 := addE_ok okF35 ok39e
end PF
set_option maxRecDepth 100000
namespace PF
open Go Go.AE Go.Proofs PE
attribute [local irreducible] loopK evCode evSpec loopB norm
theorem g19_in (n : Int) (T : List Int) (I : List UInt8) (X : List (List IV)) (C : List UInt8) (L : List (List IV)) (S : List Bool) (U : List Bool) (T' : List Int) (I' : List UInt8) (X' : List (List IV)) (C' : List UInt8) (L' : List (List IV)) (S' : List Bool) (U' : List Bool) (f : List UInt8) (K : List AV → Prop) : evSpec N24 Tryd.f13 [.agg (fiC n T I X C L S U T' I' X' C' L' S' U' f)] K = (brn (decide (n < 1) || decide (n > 4)) (K [i64 4]) (okBp T I X C L S U ∧ sz48 (4 : Int) ∧ brn (blV T I (tys X) C (lps L) S U n (4 : Int) != 0) (K [i64 (blV T I (tys X) C (lps L) S U n (4 : Int))]) (brn (n == 1) (((!decide (f = [])) = false → okB T' I' X' C' L' S' U') ∧ ((!decide (f = [])) = false → okB [] [] [] [] [] [] []) ∧ brn (!decide (f = []) || !sameK T' I' X' C' L' S' U' [] [] [] [] [] [] []) (K [i64 18]) (K [i64 0])) (okBp T' I' X' C' L' S' U' ∧ sz48 (8 : Int) ∧ brn (blV T' I' (tys X') C' (lps L') S' U' n (8 : Int) != 0) (K [i64 (blV T' I' (tys X') C' (lps L') S' U' n (8 : Int))]) (okBp T' I' X' C' L' S' U' ∧ okBl T' I' (tys X') C' S' U' ∧ (f.length : Int) ≤ 1000000 ∧ K [i64 ((ftV n T I X C L S U T' I' X' C' L' S' U' f).1)]))))) := by kernel_rfl
theorem g18_in (n : Int) (T : List Int) (I : List UInt8) (X : List (List IV)) (C : List UInt8) (L : List (List IV)) (S : List Bool) (U : List Bool) (T' : List Int) (I' : List UInt8) (X' : List (List IV)) (C' : List UInt8) (L' : List (List IV)) (S' : List Bool) (U' : List Bool) (f : List UInt8) (K : List AV → Prop) : evSpec N25 Tryd.f12 [.agg (fiC n T I X C L S U T' I' X' C' L' S' U' f)] K = (K [bo (fewB T I X C L S U && fewB T' I' X' C' L' S' U' && decide ((f.length : Int) ≤ 600))]) := by kernel_rfl
end PF
set_option maxRecDepth 100000
namespace PF
open Go Go.AE Go.Proofs PE
noncomputable section
def fiV (n : Int) (T : List Int) (I : List UInt8) (X : List (List IV)) (C : List UInt8) (L : List (List IV)) (S U : List Bool) (T' : List Int) (I' : List UInt8) (X' : List (List IV)) (C' : List UInt8) (L' : List (List IV)) (S' U' : List Bool) (f : List UInt8) : Int :=
  bif decide (n < 1) || decide (n > 4) then 4 else bif blV T I (tys X) C (lps L) S U n 4 != 0 then blV T I (tys X) C (lps L) S U n 4 else
  bif n == 1 then (bif !decide (f = []) || !sameK T' I' X' C' L' S' U' [] [] [] [] [] [] [] then 18 else 0) else
  bif blV T' I' (tys X') C' (lps L') S' U' n 8 != 0 then blV T' I' (tys X') C' (lps L') S' U' n 8 else (ftV n T I X C L S U T' I' X' C' L' S' U' f).1
def fewF (n : Int) (T : List Int) (I : List UInt8) (X : List (List IV)) (C : List UInt8) (L : List (List IV)) (S U : List Bool) (T' : List Int) (I' : List UInt8) (X' : List (List IV)) (C' : List UInt8) (L' : List (List IV)) (S' U' : List Bool) (f : List UInt8) : Bool := fewB T I X C L S U && fewB T' I' X' C' L' S' U' && decide ((f.length : Int) ≤ 600)
def okFi (n : Int) (T : List Int) (I : List UInt8) (X : List (List IV)) (C : List UInt8) (L : List (List IV)) (S U : List Bool) (T' : List Int) (I' : List UInt8) (X' : List (List IV)) (C' : List UInt8) (L' : List (List IV)) (S' U' : List Bool) (f : List UInt8) : Prop := okBp T I X C L S U ∧ okBp T' I' X' C' L' S' U' ∧ (S'.length : Int) ≤ 1000000 ∧ (f.length : Int) ≤ 1000000
def sFewF : List AV → Option (List Prop × List AV)
  | [.agg [.imm (.int .i64 n), .imm (.ints .i64 T), .imm (.bytes I), .imm (.sl 3 X), .imm (.bytes C), .imm (.sl 2 L), .imm (.bools S), .imm (.bools U), .imm (.ints .i64 T'), .imm (.bytes I'), .imm (.sl 3 X'), .imm (.bytes C'), .imm (.sl 2 L'), .imm (.bools S'), .imm (.bools U'), .imm (.str f)]] => some ([], [bo (fewF n T I X C L S U T' I' X' C' L' S' U' f)])
  | _ => none
def sFile : List AV → Option (List Prop × List AV)
  | [.agg [.imm (.int .i64 n), .imm (.ints .i64 T), .imm (.bytes I), .imm (.sl 3 X), .imm (.bytes C), .imm (.sl 2 L), .imm (.bools S), .imm (.bools U), .imm (.ints .i64 T'), .imm (.bytes I'), .imm (.sl 3 X'), .imm (.bytes C'), .imm (.sl 2 L'), .imm (.bools S'), .imm (.bools U'), .imm (.str f)]] => some ([okFi n T I X C L S U T' I' X' C' L' S' U' f], [i64 (fiV n T I X C L S U T' I' X' C' L' S' U' f)])
  | _ => none
noncomputable def F37 := addE (addE F36 12 sFewF) 13 sFile
end
attribute [local irreducible] loopK evCode evSpec loopB norm
theorem ok18e : ∀ args pres res, sFewF args = some (pres, res) → SpecOK Tryd.prog G16 12 args pres res := by
  intro args pres res h
  unfold sFewF at h
  split at h
  case h_2 => cases h
  cases h
  refine spec_ok (C := N25) okF36 noCall_ok Tryd.func12 (by kernel_rfl) (by kernel_rfl) (fun hp => ?_)
  exact Eq.mpr (g18_in _ _ _ _ _ _ _ _ _ _ _ _ _ _ _ _ _) rfl
theorem okB_of {T : List Int} {I : List UInt8} {X : List (List IV)} {C : List UInt8} {L : List (List IV)} {S U : List Bool} (h : okBp T I X C L S U) (hS : (S.length : Int) ≤ 1000000) : okB T I X C L S U := by
  obtain ⟨hX, hL, l1, l2, l3, l4, l5, l6⟩ := h
  have hb : (1000000 : Int) ≤ big' := by unfold big'; decide
  exact ⟨hX, hL, by omega, by omega, by omega, by omega, by omega, by omega, by omega⟩
theorem tys0 {X : List (List IV)} (h : okT X) (h0 : tys X = tys []) : X.length = 0 := by
  have := tys_len h
  rw [h0] at this
  exact this.symm
theorem lps0 {L : List (List IV)} (h : okL L) (h0 : lps L = lps []) : L.length = 0 := by
  have := h.1
  rw [h0] at this
  rw [this]; first | done | rfl
def okFile (n : Int) (T : List Int) (I : List UInt8) (X : List (List IV)) (C : List UInt8) (S U : List Bool) (T' : List Int) (I' : List UInt8) (X' : List (List IV)) (C' : List UInt8) (L' : List (List IV)) (S' U' : List Bool) (f : List UInt8) : Prop :=
  1 ≤ n ∧ n ≤ 4 ∧ okBl T I (tys X) C S U ∧ (n = 1 → f = [] ∧ T' = [] ∧ X'.length = 0 ∧ C' = [] ∧ L'.length = 0 ∧ S' = [] ∧ U' = []) ∧ (n ≠ 1 → okBl T' I' (tys X') C' S' U' ∧ ascP T' ∧ lvV (lps L') n = true ∧ ftP n f)
theorem fi_ev (n : Int) (T : List Int) (I : List UInt8) (X : List (List IV)) (C : List UInt8) (L : List (List IV)) (S U : List Bool) (T' : List Int) (I' : List UInt8) (X' : List (List IV)) (C' : List UInt8) (L' : List (List IV)) (S' U' : List Bool) (f : List UInt8)
    (hp : okFi n T I X C L S U T' I' X' C' L' S' U' f) : (fiV n T I X C L S U T' I' X' C' L' S' U' f = 0 → okFile n T I X C S U T' I' X' C' L' S' U' f) ∧
    ∀ K : List AV → Prop, K [i64 (fiV n T I X C L S U T' I' X' C' L' S' U' f)] → evSpec N24 Tryd.f13 [.agg (fiC n T I X C L S U T' I' X' C' L' S' U' f)] K := by
  obtain ⟨p1, p2, p3, p4⟩ := hp
  have s4 : sz48 4 := .inl rfl
  have s8 : sz48 8 := .inr rfl
  unfold fiV
  cases c1 : (decide (n < 1) || decide (n > 4)) with
  | true =>
    rw [cond_true]
    refine ⟨fun h => absurd h (by decide), fun K hK => ?_⟩
    rw [g19_in]
    exact brn_T c1 hK
  | false =>
    have c1' := c1
    simp only [Bool.or_eq_false_iff, decide_eq_false_iff_not] at c1'
    have n1 : 1 ≤ n := by omega
    have n4 : n ≤ 4 := by omega
    rw [cond_false]
    cases c2 : (blV T I (tys X) C (lps L) S U n 4 != 0) with
    | true =>
      rw [cond_true]
      refine ⟨fun h => absurd h (bne_iff_ne.mp c2), fun K hK => ?_⟩
      rw [g19_in]
      exact brn_Fa c1 ⟨p1, s4, brn_T c2 hK⟩
    | false =>
      have hb1 := (bl_sp p1 s4 (bne_eq_false_iff_eq.mp c2)).1
      rw [cond_false]
      cases c3 : (n == 1) with
      | true =>
        have hn : n = 1 := eq_of_beq c3
        rw [cond_true]
        cases c4 : (!decide (f = []) || !sameK T' I' X' C' L' S' U' [] [] [] [] [] [] []) with
        | true =>
          rw [cond_true]
          refine ⟨fun h => absurd h (by decide), fun K hK => ?_⟩
          rw [g19_in]
          exact brn_Fa c1 ⟨p1, s4, brn_Fa c2 (brn_T c3 ⟨fun _ => okB_of p2 p3, fun _ => okB_zero, brn_T c4 hK⟩)⟩
        | false =>
          rw [cond_false]
          refine ⟨fun _ => ⟨n1, n4, hb1, fun _ => ?_, fun h => absurd hn h⟩, fun K hK => ?_⟩
          · have c4' := c4
            unfold sameK at c4'
            simp only [Bool.or_eq_false_iff, Bool.not_eq_false', Bool.and_eq_true, decide_eq_true_eq] at c4'
            obtain ⟨f0, t0, i0, x0, ch0, q0, st0, ut0⟩ := c4'
            exact ⟨f0, t0, tys0 p2.1 x0, ch0, lps0 p2.2.1 q0, st0, ut0⟩
          · rw [g19_in]
            exact brn_Fa c1 ⟨p1, s4, brn_Fa c2 (brn_T c3 ⟨fun _ => okB_of p2 p3, fun _ => okB_zero, brn_Fa c4 hK⟩)⟩
      | false =>
        have hn : n ≠ 1 := fun h => by rw [h] at c3; exact absurd c3 (by decide)
        rw [cond_false]
        cases c5 : (blV T' I' (tys X') C' (lps L') S' U' n 8 != 0) with
        | true =>
          rw [cond_true]
          refine ⟨fun h => absurd h (bne_iff_ne.mp c5), fun K hK => ?_⟩
          rw [g19_in]
          exact brn_Fa c1 ⟨p1, s4, brn_Fa c2 (brn_Fa c3 ⟨p2, s8, brn_T c5 hK⟩)⟩
        | false =>
          obtain ⟨hb2, hd2, hl2⟩ := bl_sp p2 s8 (bne_eq_false_iff_eq.mp c5)
          have hd2 := desV_sp p2.2.2.1 hd2
          have hft := Classical.epsilon_spec (ft_ex n T I X C L S U T' I' X' C' L' S' U' f p2 hb2 p4)
          rw [cond_false]
          refine ⟨fun h => ⟨n1, n4, hb1, fun h => absurd h hn, fun _ => ⟨hb2, hd2, hl2, hft.1 h⟩⟩, fun K hK => ?_⟩
          rw [g19_in]
          exact brn_Fa c1 ⟨p1, s4, brn_Fa c2 (brn_Fa c3 ⟨p2, s8, brn_Fa c5 ⟨p2, hb2, p4, hK⟩⟩)⟩
theorem ok19e : ∀ args pres res, sFile args = some (pres, res) → SpecOK Tryd.prog G16 13 args pres res := by
  intro args pres res h
  unfold sFile at h
  split at h
  case h_2 => cases h
  cases h
  exact spec_ok (C := N24) okF36 noCall_ok Tryd.func13 (by kernel_rfl) (by kernel_rfl) (fun hp => (fi_ev _ _ _ _ _ _ _ _ _ _ _ _ _ _ _ _ (hp _ (by simp))).2 _ rfl)
theorem okF37 : EOK Tryd.prog F37 G16 := addE_ok (addE_ok okF36 ok18e) ok19e
end PF
namespace Q6
open Go Go.AE Go.Proofs
noncomputable section
def B1 := PF.F37
structure okXL (X : List (List IV)) (L : List (List IV)) : Prop where
  x : PE.okT X
  l : PF.okL L
def vaV (n : Int) (T : List Int) (I : List UInt8) (X : List (List IV)) (C : List UInt8) (L : List (List IV)) (S U : List Bool) (T' : List Int) (I' : List UInt8) (X' : List (List IV)) (C' : List UInt8) (L' : List (List IV)) (S' U' : List Bool) (f : List UInt8) : Bool := PF.fewF n T I X C L S U T' I' X' C' L' S' U' f && PF.fiV n T I X C L S U T' I' X' C' L' S' U' f == 0
def sVal : List AV → Option (List Prop × List AV)
  | [.agg [.imm (.int .i64 n), .imm (.ints .i64 T), .imm (.bytes I), .imm (.sl 3 X), .imm (.bytes C), .imm (.sl 2 L), .imm (.bools S), .imm (.bools U), .imm (.ints .i64 T'), .imm (.bytes I'), .imm (.sl 3 X'), .imm (.bytes C'), .imm (.sl 2 L'), .imm (.bools S'), .imm (.bools U'), .imm (.str f)]] => some ([okXL X L, okXL X' L'], [bo6 (vaV n T I X C L S U T' I' X' C' L' S' U' f)])
  | _ => none
def saF (n : Int) (T : List Int) (I : List UInt8) (X : List (List IV)) (C : List UInt8) (L : List (List IV)) (S U : List Bool) (T' : List Int) (I' : List UInt8) (X' : List (List IV)) (C' : List UInt8) (L' : List (List IV)) (S' U' : List Bool) (f : List UInt8) (m : Int) (T1 : List Int) (I1 : List UInt8) (X1 : List (List IV)) (C1 : List UInt8) (L1 : List (List IV)) (S1 U1 : List Bool) (T2 : List Int) (I2 : List UInt8) (X2 : List (List IV)) (C2 : List UInt8) (L2 : List (List IV)) (S2 U2 : List Bool) (g : List UInt8) : Bool := n == m && PF.sameK T I X C L S U T1 I1 X1 C1 L1 S1 U1 && PF.sameK T' I' X' C' L' S' U' T2 I2 X2 C2 L2 S2 U2 && decide (f = g)
structure okSa (n : Int) (T : List Int) (I : List UInt8) (X : List (List IV)) (C : List UInt8) (L : List (List IV)) (S U : List Bool) (T' : List Int) (I' : List UInt8) (X' : List (List IV)) (C' : List UInt8) (L' : List (List IV)) (S' U' : List Bool) (f : List UInt8) (m : Int) (T1 : List Int) (I1 : List UInt8) (X1 : List (List IV)) (C1 : List UInt8) (L1 : List (List IV)) (S1 U1 : List Bool) (T2 : List Int) (I2 : List UInt8) (X2 : List (List IV)) (C2 : List UInt8) (L2 : List (List IV)) (S2 U2 : List Bool) (g : List UInt8) : Prop where
  a : PF.okB T I X C L S U
  b : PF.okB T' I' X' C' L' S' U'
  c : PF.okB T1 I1 X1 C1 L1 S1 U1
  d : PF.okB T2 I2 X2 C2 L2 S2 U2
def sSaF : List AV → Option (List Prop × List AV)
  | [.agg [.imm (.int .i64 n), .imm (.ints .i64 T), .imm (.bytes I), .imm (.sl 3 X), .imm (.bytes C), .imm (.sl 2 L), .imm (.bools S), .imm (.bools U), .imm (.ints .i64 T'), .imm (.bytes I'), .imm (.sl 3 X'), .imm (.bytes C'), .imm (.sl 2 L'), .imm (.bools S'), .imm (.bools U'), .imm (.str f)], .agg [.imm (.int .i64 m), .imm (.ints .i64 T1), .imm (.bytes I1), .imm (.sl 3 X1), .imm (.bytes C1), .imm (.sl 2 L1), .imm (.bools S1), .imm (.bools U1), .imm (.ints .i64 T2), .imm (.bytes I2), .imm (.sl 3 X2), .imm (.bytes C2), .imm (.sl 2 L2), .imm (.bools S2), .imm (.bools U2), .imm (.str g)]] => some ([okSa n T I X C L S U T' I' X' C' L' S' U' f m T1 I1 X1 C1 L1 S1 U1 T2 I2 X2 C2 L2 S2 U2 g], [bo6 (saF n T I X C L S U T' I' X' C' L' S' U' f m T1 I1 X1 C1 L1 S1 U1 T2 I2 X2 C2 L2 S2 U2 g)])
  | _ => none
def sAwk : List AV → Option (List Prop × List AV)
  | [] => some ([], [bo6 true])
  | _ => none
def H14 := addE (addE B1 6 sVal) 11 sSaF
def H15 := addE H14 5 sAwk
def V6 : Cx := ⟨Tryd.prog, B1, noCall, G6, 4003⟩
def V11 : Cx := ⟨Tryd.prog, B1, noCall, G6, 4005⟩
def V5 : Cx := ⟨Tryd.prog, H14, noCall, G6, 4016⟩
end
end Q6
set_option maxRecDepth 100000
namespace Q6
open Go Go.AE Go.Proofs PE PF
attribute [local irreducible] loopK evCode evSpec loopB norm
def w19 : List UInt8 := [69, 83, 84, 53, 69, 68, 84, 44, 48, 47, 48, 44, 74, 51, 54, 53, 47, 50, 53]
def w4 : List UInt8 := [69, 83, 84, 53]
def tZ : List (List IV) := [[IV.int IntKind.i32 0, IV.bool false, IV.int IntKind.u8 0]]
def cZ : List UInt8 := (List.map u8 [0])
theorem g6_in (n : Int) (T : List Int) (I : List UInt8) (X : List (List IV)) (C : List UInt8) (L : List (List IV)) (S : List Bool) (U : List Bool) (T' : List Int) (I' : List UInt8) (X' : List (List IV)) (C' : List UInt8) (L' : List (List IV)) (S' : List Bool) (U' : List Bool) (f : List UInt8) (K : List AV → Prop) : evSpec V6 Tryd.f6 [.agg (fil n T I X C L S U T' I' X' C' L' S' U' f)] K = ((PF.fewF n T I X C L S U T' I' X' C' L' S' U' f = true → PF.okFi n T I X C L S U T' I' X' C' L' S' U' f) ∧ K [bo (PF.fewF n T I X C L S U T' I' X' C' L' S' U' f && PF.fiV n T I X C L S U T' I' X' C' L' S' U' f == 0)]) := by kernel_rfl
theorem g11_in (n : Int) (T : List Int) (I : List UInt8) (X : List (List IV)) (C : List UInt8) (L : List (List IV)) (S : List Bool) (U : List Bool) (T' : List Int) (I' : List UInt8) (X' : List (List IV)) (C' : List UInt8) (L' : List (List IV)) (S' : List Bool) (U' : List Bool) (f : List UInt8) (m : Int) (T1 : List Int) (I1 : List UInt8) (X1 : List (List IV)) (C1 : List UInt8) (L1 : List (List IV)) (S1 : List Bool) (U1 : List Bool) (T2 : List Int) (I2 : List UInt8) (X2 : List (List IV)) (C2 : List UInt8) (L2 : List (List IV)) (S2 : List Bool) (U2 : List Bool) (g : List UInt8) (K : List AV → Prop) : evSpec V11 Tryd.f11 [.agg (fil n T I X C L S U T' I' X' C' L' S' U' f), .agg (fil m T1 I1 X1 C1 L1 S1 U1 T2 I2 X2 C2 L2 S2 U2 g)] K = (((n == m) = true → PF.okB T I X C L S U) ∧ ((n == m) = true → PF.okB T1 I1 X1 C1 L1 S1 U1) ∧ ((n == m && PF.sameK T I X C L S U T1 I1 X1 C1 L1 S1 U1) = true → PF.okB T' I' X' C' L' S' U') ∧ ((n == m && PF.sameK T I X C L S U T1 I1 X1 C1 L1 S1 U1) = true → PF.okB T2 I2 X2 C2 L2 S2 U2) ∧ K [bo (n == m && PF.sameK T I X C L S U T1 I1 X1 C1 L1 S1 U1 && PF.sameK T' I' X' C' L' S' U' T2 I2 X2 C2 L2 S2 U2 && decide (f = g))]) := by kernel_rfl
theorem g5_in (K : List AV → Prop) : evSpec V5 Tryd.f5 [] K = ((0 : Int) ≤ 1 ∧ (1 : Int) ≤ 1 ∧ (↑8 : Int) * 1 ≤ 140737488355328 ∧ (1 : Int) ≤ 140737488355328 ∧ okTo (3 : Int) [] [] tZ cZ [] [] [] [] [] tZ cZ [] [] [] w19 (2 : Int) ∧ okTo (3 : Int) [] [] tZ cZ [] [] [] [] [] tZ cZ [] [] [] w19 (1 : Int) ∧ okTo (3 : Int) [] [] tZ cZ [] [] [] [] [] tZ cZ [] [] [] w19 (4 : Int) ∧ okTo (3 : Int) [] [] tZ cZ [] [] [] [] [] tZ cZ [] [] [] w4 (2 : Int) ∧ okTo (3 : Int) [] [] tZ cZ [] [] [] [] [] tZ cZ [] [] [] w4 (1 : Int) ∧ okTo (3 : Int) [] [] tZ cZ [] [] [] [] [] tZ cZ [] [] [] w4 (5 : Int) ∧ ((toE (toC (3 : Int) (2 : Int) [] [] w19) == 17 && toE (toC (3 : Int) (1 : Int) [] [] w19) == 17 && (0 : Int) == 0 && (3 : Int) == 3 && toE (toC (3 : Int) (2 : Int) [] [] w4) == 0 && p5 (toC (3 : Int) (2 : Int) [] [] w4) (0 : Int) (3 : Int) (2 : Int) (2 : Int) == 2 && decide (p5 (toC (3 : Int) (2 : Int) [] [] w4) [] w4 [] w4 = w4) && toE (toC (3 : Int) (1 : Int) [] [] w4) == 0 && p5 (toC (3 : Int) (1 : Int) [] [] w4) (0 : Int) (3 : Int) (1 : Int) (1 : Int) == 1 && decide (p5 (toC (3 : Int) (1 : Int) [] [] w4) [] w4 [] w4 = []) && (↑(p5 (toC (3 : Int) (1 : Int) [] [] w4) [] tZ [] (av (3 : Int) tZ
 tZ)).length : Int) == 0 && (↑(p5 (toC (3 : Int) (1 : Int) [] [] w4) [] tZ (sw (av (3 : Int) tZ tZ) [] (vK (av (3 : Int) [] []) (av (3 : Int) [] []))) tZ).length : Int) == 1 && (18 : Int) == 18) = true → Q6.okE (3 : Int) [] [] tZ cZ [] [] [] [] [] tZ cZ [] [] [] w19) ∧ ((toE (toC (3 : Int) (2 : Int) [] [] w19) == 17 && toE (toC (3 : Int) (1 : Int) [] [] w19) == 17 && (0 : Int) == 0 && (3 : Int) == 3 && toE (toC (3 : Int) (2 : Int) [] [] w4) == 0 && p5 (toC (3 : Int) (2 : Int) [] [] w4) (0 : Int) (3 : Int) (2 : Int) (2 : Int) == 2 && decide (p5 (toC (3 : Int) (2 : Int) [] [] w4) [] w4 [] w4 = w4) && toE (toC (3 : Int) (1 : Int) [] [] w4) == 0 && p5 (toC (3 : Int) (1 : Int) [] [] w4) (0 : Int) (3 : Int) (1 : Int) (1 : Int) == 1 && decide (p5 (toC (3 : Int) (1 : Int) [] [] w4) [] w4 [] w4 = []) && (↑(p5 (toC (3 : Int) (1 : Int) [] [] w4) [] tZ [] (av (3 : Int) tZ tZ)).length : Int) == 0 && (↑(p5 (toC (3 : Int) (1 : Int) [] [] w4) [] tZ (sw (av (3 : Int) tZ tZ) [] (vK (av (3 : Int) [] []) (av (3 : Int) [] []))) tZ).length : Int) == 1 && (18 : Int) == 18 && !exV (3 : Int) (2 : Int) [] [] w19) = true → Q6.okE (3 : Int) [] [] tZ cZ [] [] [] [] [] tZ cZ [] [] [] w19) ∧ ((toE (toC (3 : Int)
 (2 : Int) [] [] w19) == 17 && toE (toC (3 : Int) (1 : Int) [] [] w19) == 17 && (0 : Int) == 0 && (3 : Int) == 3 && toE (toC (3 : Int) (2 : Int) [] [] w4) == 0 && p5 (toC (3 : Int) (2 : Int) [] [] w4) (0 : Int) (3 : Int) (2 : Int) (2 : Int) == 2 && decide (p5 (toC (3 : Int) (2 : Int) [] [] w4) [] w4 [] w4 = w4) && toE (toC (3 : Int) (1 : Int) [] [] w4) == 0 && p5 (toC (3 : Int) (1 : Int) [] [] w4) (0 : Int) (3 : Int) (1 : Int) (1 : Int) == 1 && decide (p5 (toC (3 : Int) (1 : Int) [] [] w4) [] w4 [] w4 = []) && (↑(p5 (toC (3 : Int) (1 : Int) [] [] w4) [] tZ [] (av (3 : Int) tZ tZ)).length : Int) == 0 && (↑(p5 (toC (3 : Int) (1 : Int) [] [] w4) [] tZ (sw (av (3 : Int) tZ tZ) [] (vK (av (3 : Int) [] []) (av (3 : Int) [] []))) tZ).length : Int) == 1 && (18 : Int) == 18 && !exV (3 : Int) (2 : Int) [] [] w19 && exV (3 : Int) (3 : Int) [] [] w19) = true → Q6.okE (3 : Int) [] [] tZ cZ [] [] [] [] [] tZ cZ [] [] [] w4) ∧ K [bo (toE (toC (3 : Int) (2 : Int) [] [] w19) == 17 && toE (toC (3 : Int) (1 : Int) [] [] w19) == 17 && (0 : Int) == 0 && (3 : Int) == 3 && toE (toC (3 : Int) (2 : Int) [] [] w4) == 0 && p5 (toC (3 : Int) (2 : Int) [] [] w4) (0 : Int) (3 : Int) (2 : Int) (2 : Int) == 2 &&
 decide (p5 (toC (3 : Int) (2 : Int) [] [] w4) [] w4 [] w4 = w4) && toE (toC (3 : Int) (1 : Int) [] [] w4) == 0 && p5 (toC (3 : Int) (1 : Int) [] [] w4) (0 : Int) (3 : Int) (1 : Int) (1 : Int) == 1 && decide (p5 (toC (3 : Int) (1 : Int) [] [] w4) [] w4 [] w4 = []) && (↑(p5 (toC (3 : Int) (1 : Int) [] [] w4) [] tZ [] (av (3 : Int) tZ tZ)).length : Int) == 0 && (↑(p5 (toC (3 : Int) (1 : Int) [] [] w4) [] tZ (sw (av (3 : Int) tZ tZ) [] (vK (av (3 : Int) [] []) (av (3 : Int) [] []))) tZ).length : Int) == 1 && (18 : Int) == 18 && !exV (3 : Int) (2 : Int) [] [] w19 && exV (3 : Int) (3 : Int) [] [] w19 && exV (3 : Int) (1 : Int) [] [] w4)]) := by kernel_rfl
theorem okXn : okX [] := ⟨by decide, fun k h0 h => by simp at h; omega⟩
theorem ascn : asc [] := ⟨fun i j _ h => by simp at h⟩
def slX : List (List IV) := [[.int .i32 0, .bool false, .int .u8 0]]
theorem okT6s : okT6 slX := ⟨by decide, fun k h0 h => by
  have h : k < 1 := h
  obtain rfl : k = 0 := by omega
  rfl, rfl⟩
theorem okEc (v : Int) (f : List UInt8) (hf : (f.length : Int) ≤ 1000000) : Q6.okE 3 [] [] slX [0] [] [] [] [] [] slX [0] [] [] [] f := ⟨okXn, hf⟩
theorem okVc : okV [] [] slX [0] [] [] [] := ⟨by decide, ascn, rfl, okT6s, by decide, okXn, by decide, by decide⟩
theorem okToc (v : Int) (f : List UInt8) (hf : (f.length : Int) ≤ 1000000) : okTo 3 [] [] slX [0] [] [] [] [] [] slX [0] [] [] [] f v := ⟨okEc v f hf, fun _ _ => okVc⟩
theorem okH13b : EOK Tryd.prog B1 G6 := okF37
theorem few_lens {T : List Int} {I : List UInt8} {X : List (List IV)} {C : List UInt8} {L : List (List IV)} {S U : List Bool} (h : fewB T I X C L S U = true) : T.length ≤ 200 ∧ I.length ≤ 200 ∧ X.length ≤ 200 ∧ C.length ≤ 600 ∧ L.length ≤ 200 ∧ S.length ≤ 200 ∧ U.length ≤ 200 := by
  unfold fewB at h
  simp only [Bool.and_eq_true, decide_eq_true_eq] at h
  obtain ⟨⟨⟨⟨⟨⟨a, b⟩, c⟩, d⟩, e⟩, f⟩, g⟩ := h
  exact ⟨a, b, c, d, e, f, g⟩
theorem okBp_few {T : List Int} {I : List UInt8} {X : List (List IV)} {C : List UInt8} {L : List (List IV)} {S U : List Bool} (h : fewB T I X C L S U = true) (hx : okXL X L) : okBp T I X C L S U := by
  obtain ⟨a, b, c, d, e, f, g⟩ := few_lens h
  exact ⟨hx.x, hx.l, by omega, by omega, by omega, by omega, by omega, by omega⟩
theorem ok6 : ∀ args pres res, sVal args = some (pres, res) → SpecOK Tryd.prog G6 6 args pres res := by
  intro args pres res h
  unfold sVal at h
  split at h
  case h_2 => cases h
  cases h
  rename_i n T I X C L S U T' I' X' C' L' S' U' f
  refine spec_ok (C := V6) okH13b noCall_ok Tryd.func6 (by kernel_rfl) (by kernel_rfl) (fun hp => ?_)
  have h1 : okXL X L := hp (okXL X L) (by simp)
  have h2 : okXL X' L' := hp (okXL X' L') (by simp)
  refine Eq.mpr (g6_in n T I X C L S U T' I' X' C' L' S' U' f _) ⟨fun hf => ?_, rfl⟩
  unfold fewF at hf
  simp only [Bool.and_eq_true, decide_eq_true_eq] at hf
  obtain ⟨⟨f1, f2⟩, f3⟩ := hf
  obtain ⟨a, b, c, d, e, s, u⟩ := few_lens f2
  exact ⟨okBp_few f1 h1, okBp_few f2 h2, by omega, by omega⟩
theorem ok11 : ∀ args pres res, sSaF args = some (pres, res) → SpecOK Tryd.prog G6 11 args pres res := by
  intro args pres res h
  unfold sSaF at h
  split at h
  case h_2 => cases h
  cases h
  rename_i n T I X C L S U T' I' X' C' L' S' U' f m T1 I1 X1 C1 L1 S1 U1 T2 I2 X2 C2 L2 S2 U2 g
  refine spec_ok (C := V11) okH13b noCall_ok Tryd.func11 (by kernel_rfl) (by kernel_rfl) (fun hp => ?_)
  have hO : okSa n T I X C L S U T' I' X' C' L' S' U' f m T1 I1 X1 C1 L1 S1 U1 T2 I2 X2 C2 L2 S2 U2 g := hp (okSa n T I X C L S U T' I' X' C' L' S' U' f m T1 I1 X1 C1 L1 S1 U1 T2 I2 X2 C2 L2 S2 U2 g) (by simp)
  exact Eq.mpr (g11_in n T I X C L S U T' I' X' C' L' S' U' f m T1 I1 X1 C1 L1 S1 U1 T2 I2 X2 C2 L2 S2 U2 g _) ⟨fun _ => hO.a, fun _ => hO.c, fun _ => hO.b, fun _ => hO.d, rfl⟩
theorem okH14 : EOK Tryd.prog H14 G6 := addE_ok (addE_ok okH13b ok6) ok11
theorem ok5 : ∀ args pres res, sAwk args = some (pres, res) → SpecOK Tryd.prog G6 5 args pres res := by
  intro args pres res h
  unfold sAwk at h
  split at h
  case h_2 => cases h
  cases h
  refine spec_ok (C := V5) okH14 noCall_ok Tryd.func5 (by kernel_rfl) (by kernel_rfl) (fun hp => ?_)
  refine Eq.mpr (g5_in _) ?_
  repeat' apply And.intro
  all_goals first | exact okToc _ _ (by decide) | exact fun _ => okEc 0 _ (by decide) | decide | skip
  kernel_rfl
theorem okH15 : EOK Tryd.prog H15 G6 := addE_ok okH14 ok5
theorem asc_of {T : List Int} (h : ascP T) : asc T := by
  refine ⟨fun i j hij hj => ?_⟩
  induction j with
  | zero => omega
  | succ j ih =>
    have h1 := h j hj
    rcases Nat.lt_or_ge i j with hlt | hge
    · have := ih hlt (by omega)
      omega
    · have : i = j := by omega
      rw [this]; exact h1
theorem okX_of {L : List (List IV)} (h : okL L) (hl : L.length ≤ 1000000) : okX L := by
  obtain ⟨M, rfl, _, _⟩ := okL_elim h
  refine ⟨by omega, fun k h0 h1 => ?_⟩
  rw [List.length_map] at h1
  exact kcL h0 h1
theorem okT_isSl (M : List Ty) : (IV.sl 3 (M.map cellsT)).isSl = true := by
  show (M.map cellsT).all (fun x => Nat.beq x.length 3) = true
  rw [List.all_map, List.all_eq_true]
  intro t _
  rfl
theorem okT6_of {X : List (List IV)} (h : okT X) (hl : X.length ≤ 1000000) : okT6 X := by
  obtain ⟨e, h2⟩ := h
  have hlen : (tys X).length = X.length := tys_len ⟨e, h2⟩
  refine ⟨by omega, fun k h0 h1 => ?_, ?_⟩
  · rw [e]
    exact kcT h0 (by omega)
  · rw [e]
    exact okT_isSl _
theorem okV_of {T : List Int} {I : List UInt8} {X : List (List IV)} {C : List UInt8} {L : List (List IV)} {S U : List Bool} (hf : fewB T I X C L S U = true) (hx : okXL X L) (ha : ascP T) (hi : I.length = T.length) : okV T I X C L S U := by
  obtain ⟨a, b, c, d, e, s, u⟩ := few_lens hf
  exact ⟨by omega, asc_of ha, hi, okT6_of hx.x (by omega), by omega, okX_of hx.l (by omega), by omega, by omega⟩
end Q6
namespace Go.AE
open Go.ChangeShapes Go.WideShapes Go.ChangeAt Go.RowKit
section
variable {H : Type} {enc : TypeId × Value → H} {P : Program}
theorem args_stay (hl : laidOutB P = true) {W W' : World} {sp' : Nat → Bool} : ∀ {ts : List TypeId} {vs : List Value} {ds : List (DataW H)} {ps : List MemPlace},
    lall (fun t => bif P.readableRec t then decide (t < P.types.size) else false) ts = true → DataW.TrodAll enc P W 0 (fun _ => true) true ts vs ds ps → (∀ p ∈ ps, W.sameAt W' p) → (∀ p ∈ ps, sp' p.block = true) →
    DataW.TrodAll enc P W' 0 sp' true ts vs ds ps
  | [], [], [], _, _, h, _, _ => h
  | [], _ :: _, _, _, _, h, _, _ => h.elim
  | [], [], _ :: _, _, _, h, _, _ => h.elim
  | _ :: _, [], _, _, _, h, _, _ => h.elim
  | _ :: _, _ :: _, [], _, _, h, _, _ => h.elim
  | t :: ts, v :: vs, d :: ds, ps, hc, h, hs, hp => by
    obtain ⟨p, q, h1, h2, rfl⟩ := h
    rw [lall] at hc
    cases hb : (bif P.readableRec t then decide (t < P.types.size) else false) with
    | false => rw [hb] at hc; cases hc
    | true =>
      rw [hb] at hc
      cases hr : P.readableRec t with
      | false => rw [hr] at hb; cases hb
      | true =>
        rw [hr] at hb
        exact ⟨p, q, WideElems.Trod_stays hl hr (of_decide_eq_true hb) h1 (fun x hx => hs x (by simp [hx])) (fun x hx => hp x (by simp [hx])),
          args_stay hl hc h2 (fun x hx => hs x (by simp [hx])) (fun x hx => hp x (by simp [hx])), rfl⟩
end
inductive KRep : List CK → List IV → List Value → Prop
  | nil : KRep [] [] []
  | int {k : IntKind} {n : Int} {ks : List CK} {is : List IV} {vs : List Value} : InR k n → KRep ks is vs → KRep (.int k :: ks) (.int k n :: is) (.int k n :: vs)
  | bool {b : Bool} {ks : List CK} {is : List IV} {vs : List Value} : KRep ks is vs → KRep (.bool :: ks) (.bool b :: is) (.bool b :: vs)
  | str {s : ByteArray} {ks : List CK} {is : List IV} {vs : List Value} : (bytesOf s).length ≤ 9223372036854775807 → KRep ks is vs → KRep (.str :: ks) (.str (bytesOf s) :: is) (.string s :: vs)
theorem KRep.app {ks ks' : List CK} {is is' : List IV} {vs vs' : List Value} (h : KRep ks is vs) (h' : KRep ks' is' vs') : KRep (ks ++ ks') (is ++ is') (vs ++ vs') := by
  induction h with
  | nil => exact h'
  | int h1 _ ih => exact .int h1 ih
  | bool _ ih => exact .bool ih
  | str h1 _ ih => exact .str h1 ih
theorem KRep.len {ks : List CK} {is : List IV} {vs : List Value} (h : KRep ks is vs) : is.length = ks.length ∧ vs.length = ks.length := by
  induction h with
  | nil => exact ⟨rfl, rfl⟩
  | int _ _ ih => simp [ih]
  | bool _ ih => simp [ih]
  | str _ _ ih => simp [ih]
theorem KRep.cons_int {k : IntKind} {ks : List CK} {is : List IV} {vs : List Value} (h : KRep (.int k :: ks) is vs) : ∃ n is' vs', is = .int k n :: is' ∧ vs = .int k n :: vs' ∧ InR k n ∧ KRep ks is' vs' := by
  cases h with
  | int h1 h2 => exact ⟨_, _, _, rfl, rfl, h1, h2⟩
theorem KRep.cons_bool {ks : List CK} {is : List IV} {vs : List Value} (h : KRep (.bool :: ks) is vs) : ∃ b is' vs', is = .bool b :: is' ∧ vs = .bool b :: vs' ∧ KRep ks is' vs' := by
  cases h with
  | bool h2 => exact ⟨_, _, _, rfl, rfl, h2⟩
theorem KRep.end {is : List IV} {vs : List Value} (h : KRep [] is vs) : is = [] ∧ vs = [] := by
  cases h; exact ⟨rfl, rfl⟩
theorem KRep.rep {w : World} {own : Nat → Prop} {ks : List CK} {is : List IV} {vs : List Value} (h : KRep ks is vs) : ∀ (j : Nat) c, is[j]? = some c → Rep w own c (vs.getD j undef) ∧ (vs.getD j undef).oneCell' = true := by
  have one : ∀ {c : IV} {V : Value} {is : List IV} {vs : List Value}, Rep w own c V → (∀ (j : Nat) c, is[j]? = some c → Rep w own c (vs.getD j undef) ∧ (vs.getD j undef).oneCell' = true) →
      ∀ (j : Nat) c', (c :: is)[j]? = some c' → Rep w own c' ((V :: vs).getD j undef) ∧ ((V :: vs).getD j undef).oneCell' = true := by
    intro c V is vs h1 h2 j c' hc
    cases j with
    | zero => simp only [List.getElem?_cons_zero, Option.some.injEq] at hc; subst hc; exact ⟨h1, h1.oneCell⟩
    | succ j => exact h2 j c' (by simpa using hc)
  induction h with
  | nil => intro j c hc; simp at hc
  | int h1 _ ih => exact one (.int h1) ih
  | bool _ ih => exact one .bool ih
  | str h1 _ ih => exact one (.str rfl h1) ih
section
variable {H : Type} {enc : TypeId × Value → H} {P : Program} {w : World} {base : Nat} {sp : Nat → Bool} {held : Bool}
theorem inR_wf {k : IntKind} {n : Int} (h : (Lit.int k n).wf = true) : InR k n := by
  simp only [Lit.wf, Bool.and_eq_true, decide_eq_true_eq] at h
  exact ⟨by have := h.1; omega, by have := h.2; omega⟩
mutual
theorem flat_open : ∀ (d : Nat) {t : TypeId} {ks : List CK} {n : Nat} {cs : List Value} {x : DataW H × List MemPlace}, flatK P false d t = some ks → DataW.trod enc P w base sp held n t cs = some x → (∃ is, KRep ks is cs) ∧ x.2 = []
  | 0, t, ks, n, cs, x, h, _ => by simp [flatK] at h
  | d + 1, t, ks, n, cs, x, h, hx => by
    unfold flatK at h
    split at h
    · rename_i k hu
      cases h
      obtain ⟨m, rfl, rfl, hw⟩ := DataW.trod_int hu hx
      exact ⟨⟨[.int k m], .int (inR_wf hw) .nil⟩, rfl⟩
    · rename_i hu
      cases h
      obtain ⟨b, rfl, rfl⟩ := DataW.trod_bool hu hx
      exact ⟨⟨[.bool b], .bool .nil⟩, rfl⟩
    · rename_i hu
      cases h
      obtain ⟨s, rfl, rfl, hs⟩ := DataW.trod_string hu hx
      exact ⟨⟨[.str (bytesOf s)], .str (by rw [← size_bytes]; exact hs) .nil⟩, rfl⟩
    · rename_i fs hu
      obtain ⟨xs, m, rfl, rfl, hlen, hsz, hf⟩ := DataW.trod_struct hu hx
      cases hF : flatF P false d 0 fs.toList with
      | none => rw [hF] at h; cases h
      | some ks' =>
        rw [hF] at h
        cases hb : Nat.beq (llen ks') (P.cellsOf t) with
        | false => simp only [hb, cond_false] at h; cases h
        | true =>
          simp only [hb, cond_true] at h
          cases h
          have hb' := nbeq hb
          obtain ⟨⟨is, his⟩, hp⟩ := flatF_open d (o := 0) (xs := xs) (cs := cs) (n := m) hF (by simp [hsz]) (fun i f hi => hf i f (by simpa using hi))
          refine ⟨⟨is, ?_⟩, ?_⟩
          · rw [List.drop_zero, List.take_of_length_le (by rw [hlen, ← hb', llen_eq]; exact Nat.le_refl _)] at his
            exact his
          · simp only [List.flatMap_eq_nil_iff]
            exact hp
    · cases h
    · cases h
    · cases h
theorem flatF_open : ∀ (d : Nat) {o : Nat} {fs : List Field} {ks : List CK} {n : Nat} {cs : List Value} {xs : List (DataW H × List MemPlace)}, flatF P false d o fs = some ks → xs.length = fs.length →
    (∀ (i : Nat) (f : Field), fs[i]? = some f → DataW.trod enc P w base sp held n f.type ((cs.drop f.offset).take (P.cellsOf f.type)) = xs[i]?) → (∃ is, KRep ks is ((cs.drop o).take ks.length)) ∧ ∀ x ∈ xs, x.2 = []
  | 0, o, fs, ks, n, cs, xs, h, _, _ => by simp [flatF] at h
  | d + 1, o, [], ks, n, cs, xs, h, hl, _ => by
    simp only [flatF] at h
    cases h
    have : xs = [] := by simpa using hl
    subst this
    exact ⟨⟨[], by simpa using KRep.nil⟩, fun x hx => by cases hx⟩
  | d + 1, o, f :: r, ks, n, cs, xs, h, hl, hf => by
    unfold flatF at h
    cases hK : flatK P false d f.type with
    | none => rw [hK] at h; cases h
    | some k1 =>
      rw [hK] at h
      cases hb : Nat.beq f.offset o with
      | false => simp only [hb, cond_false] at h; cases h
      | true =>
        simp only [hb, cond_true] at h
        cases hb2 : Nat.beq (llen k1) (P.cellsOf f.type) with
        | false => simp only [hb2, cond_false] at h; cases h
        | true =>
          simp only [hb2, cond_true] at h
          cases hF : flatF P false d (o + llen k1) r with
          | none => rw [hF] at h; cases h
          | some k2 =>
            rw [hF] at h
            simp only [omap, Option.some.injEq] at h
            subst h
            match xs, hl with
            | x :: xs, hl =>
              have h0 := hf 0 f rfl
              have e1 := nbeq hb
              have e2 := nbeq hb2
              obtain ⟨⟨i1, hi1⟩, hp1⟩ := flat_open d hK (by simpa using h0)
              obtain ⟨⟨i2, hi2⟩, hp2⟩ := flatF_open d (n := n) (cs := cs) (xs := xs) hF (by simpa using hl) (fun i f hi => by simpa using hf (i + 1) f (by simpa using hi))
              refine ⟨⟨i1 ++ i2, ?_⟩, ?_⟩
              · rw [lapp_eq, List.length_append]
                have : (cs.drop o).take (k1.length + k2.length) = ((cs.drop o).take k1.length) ++ ((cs.drop (o + k1.length)).take k2.length) := by
                  rw [List.take_add, List.drop_drop]
                rw [this]
                have h3 : KRep k1 i1 ((cs.drop o).take k1.length) := by
                  rw [← llen_eq, e2, ← e1]; exact hi1
                refine h3.app ?_
                rw [llen_eq] at hi2
                exact hi2
              · intro y hy
                rcases List.mem_cons.1 hy with rfl | hy
                · exact hp1
                · exact hp2 y hy
end
end
theorem bool_calls {P : Program} {G : Nat → Option (List AV)} {f : FuncId} {args : List AV} {pres : List Prop} {b : Bool} (h : SpecOK P G f args pres [.imm (.bool b)]) (hp : ∀ p, p ∈ pres → p) (w : World) (vals : Array Value) (hs : vals.size = args.length)
    (ha : ∀ (j : Nat) c, args[j]? = some c → ARep (zeroGh w (fun _ => False)) c (vals.getD j undef)) (hG : GOK G w (fun _ => False)) : Calls P f vals w fun e w' => e = .returned (.bool b) ∧ RowKit.Below w.heap.size w w' := by
  refine (h.calls hp w (fun _ => False) vals (fun _ h => h.elim) hs ha hG).mono ?_
  rintro e w' ⟨Vs, bs, rfl, hb, hr, _⟩
  refine ⟨?_, hb⟩
  cases hr with
  | one _ h1 _ h2 =>
    cases h2
    cases h1 with
    | imm h3 _ =>
      have := rep_bool h3
      subst this
      rfl
theorem post_of_below {H : Type} {enc : TypeId × Value → H} {P : Program} {f : Func} {s : ChangeSpec} {apart fresh handsOn again : Bool} {W W' : World} {args : Array Value} {v : Value} {ds gs : List (DataW H)} {before pa pv : List MemPlace}
    (hW : DataW.Whole enc P f.params.toList s.vars apart W args.toList ds gs before)
    (hres : ∀ (b : Nat) (sp : Nat → Bool) (hd : Bool), DataW.TrodAll enc P W' b sp hd f.resultTypes.toList (v.resultList f.resultTypes.size) (s.fn H (ds ++ gs)).results [])
    (hargs : ∀ sp : Nat → Bool, (∀ p ∈ before, sp p.block = true) → DataW.TrodAll enc P W' 0 sp true f.params.toList args.toList (s.fn H (ds ++ gs)).args pa)
    (hvars : ∀ sp : Nat → Bool, (∀ p ∈ before, sp p.block = true) → DataW.TrodVars enc P W' sp s.vars (s.fn H (ds ++ gs)).vars pv)
    (hps : before = pa ++ pv) (hb : Below W.heap.size W W')
    (hok : ∀ (j : Nat) (t : TypeId) (r : Value), f.resultTypes[j]? = some t → (v.resultList f.resultTypes.size)[j]? = some r → Value.okWide P W' .any 0 t r) :
    s.post enc P f apart fresh handsOn again W args v W' := by
  have hold : ∀ p ∈ before, (fun b => decide (b < W.heap.size)) p.block = true := fun p hp => by simpa using hW.lt p hp
  have hlt : ∀ p ∈ before, p.block < W.heap.size := fun p hp => hW.lt p hp
  refine ⟨ds, gs, before, [], pa, pv, hW, hres _ _ _, hargs _ hold, hvars _ hold, World.keptBut_mono (fun p hp => ⟨hp, ?_⟩) (hb.frame (· ∈ before)), fun _ => ?_⟩
  · rw [hps, List.mem_append] at hp
    exact Or.inr hp
  · obtain ⟨_, _, _, _, _, hz, hn⟩ := hW
    refine ⟨hok, _, _, ([] ++ pa) ++ pv, ⟨[] ++ pa, pv, trodAll_append (hargs _ (fun _ _ => rfl)) (hres _ _ _), hvars _ (fun _ _ => rfl), rfl, ?_, ?_⟩, ?_⟩
    · intro b off hp
      have hp' : MemPlace.cell b off ∈ before := by rw [hps]; simpa using hp
      rw [World.frozen?_of_block (hb.block _ (hlt _ hp'))]
      exact hz b off hp'
    · intro ha
      have := hn ha
      rw [hps] at this
      simpa using this
    · intro p hp _
      rw [hps]
      simpa using hp
section
variable {H : Type} {enc : TypeId × Value → H} {P : Program} {w : World}
theorem all_cons {base : Nat} {sp : Nat → Bool} {held : Bool} {t : TypeId} {ts : List TypeId} {vs : List Value} {ds : List (DataW H)} {ps : List MemPlace} (h : DataW.TrodAll enc P w base sp held (t :: ts) vs ds ps) :
    ∃ v vs' d ds' p q, vs = v :: vs' ∧ ds = d :: ds' ∧ DataW.Trod enc P w base sp held t v d p ∧ DataW.TrodAll enc P w base sp held ts vs' ds' q ∧ ps = p ++ q := by
  match vs, ds, h with
  | v :: vs', d :: ds', h =>
    obtain ⟨p, q, h1, h2, h3⟩ := h
    exact ⟨v, vs', d, ds', p, q, rfl, rfl, h1, h2, h3⟩
theorem all_nil {base : Nat} {sp : Nat → Bool} {held : Bool} {vs : List Value} {ds : List (DataW H)} {ps : List MemPlace} (h : DataW.TrodAll enc P w base sp held [] vs ds ps) : vs = [] ∧ ds = [] ∧ ps = [] := by
  match vs, ds, h with
  | [], [], h => exact ⟨rfl, rfl, h⟩
theorem KRep.arep {g : Gh} {ks : List CK} {is : List IV} {vs : List Value} (h : KRep ks is vs) : ARep g (.agg (lmap .imm is)) (.agg ⟨vs⟩) := by
  have hl := h.len
  have e : ∀ j, (⟨vs⟩ : Array Value).getD j undef = vs.getD j undef := fun j => by simp [Array.getD_eq_getD_getElem?, List.getD_eq_getElem?_getD]
  refine .agg (by rw [lmap_eq]; simp [hl]) (fun j c hc => ?_) (fun j hj => ?_)
  · rw [lmap_eq, List.getElem?_map] at hc
    cases hi : is[j]? with
    | none => rw [hi] at hc; cases hc
    | some i =>
      rw [hi] at hc
      cases hc
      rw [e]
      exact .imm (h.rep (w := g.w) (own := g.own) j i hi).1
  · have hj' : j < is.length := by simp at hj; omega
    rw [e]
    exact (h.rep (w := g.w) (own := g.own) j is[j] (List.getElem?_eq_getElem hj')).2
theorem row_post {f : Func} {s : ChangeSpec} {apart fresh handsOn again : Bool} {W W' : World} {args : Array Value} {ds : List (DataW H)} {before : List MemPlace} {tb : TypeId}
    (hW : DataW.Whole enc P f.params.toList s.vars apart W args.toList ds [] before) (hv : s.vars = []) (hl : laidOutB P = true) (hc : lall (fun t => bif P.readableRec t then decide (t < P.types.size) else false) f.params.toList = true)
    (hfn : s.fn H (ds ++ []) = { results := [.lit (.bool true)], args := ds }) (hr : f.resultTypes = #[tb]) (hu : P.underlying tb = some .bool) (hb : Below W.heap.size W W') : s.post enc P f apart fresh handsOn again W args (.bool true) W' := by
  have hW0 := hW
  obtain ⟨p, q, hA, hV, rfl, _, _⟩ := hW
  rw [hv] at hV
  obtain ⟨_, rfl⟩ := trodVars_none hV
  refine post_of_below (ds := ds) (gs := []) (pa := p) (pv := []) hW0 (fun b sp hd => ?_) (fun sp hsp => ?_) (fun sp hsp => ?_) rfl hb ?_
  · rw [hfn, hr]
    exact trodAll_mk1 (shut_bool hu true)
  · rw [hfn]
    exact args_stay hl hc hA (fun x hx => hb.same (hW0.lt x (by simp [hx]))) (fun x hx => hsp x (by simp [hx]))
  · rw [hfn, hv]
    first | done | rfl
  · intro j t r ht hr'
    rw [hr] at ht hr'
    cases j with
    | zero =>
      cases ht
      cases hr'
      exact okWide_bool_mk hu true
    | succ j => simp at ht
end
end Go.AE
namespace Go.AE
open Go.ChangeShapes Go.WideShapes Go.ChangeAt Go.RowKit
section
variable {H : Type} {enc : TypeId × Value → H} {P : Program} {w : World}
theorem open_slice {t e : TypeId} {ks : List CK} {b0 : Nat} {v : Value} {d : DataW H} {ps : List MemPlace} {r : Reach} {sp : Nat → Bool} {held : Bool} {base : Nat} (ht : P.underlying t = some (.slice e)) (hk : flatK P false 40 e = some ks) (hc : P.cellsOf e = ks.length) (hb : 1 ≤ P.bytesOf e)
    (hval : Value.okWide P w r b0 t v) (hd : DataW.Trod enc P w base sp held t v d ps) (hsz : ∀ el rs, d = .slice el rs → (el.length + rs.length) * P.bytesOf e ≤ reachBytes) :
    ∃ xs : List (List IV), (∀ x ∈ xs, ∃ vs, KRep ks x vs) ∧ xs.length ≤ 281474976710656 ∧ ∀ iv : IV, iv.isSl = true → iv.len = some xs.length → iv.esize = ks.length → (∀ i j c, iv.cellAt i j = some c → (xs[i]?).bind (·[j]?) = some c) → Rep w (fun _ => False) iv v := by
  obtain ⟨fuel, hf⟩ := hd
  rcases DataW.trod_slice ht hf with ⟨h0, _⟩ | ⟨a, len, cap, elems, rest, n, _, hcs, hx, _, hl, hm, hlen, hel, _⟩
  · refine ⟨[], ⟨(fun x hx => absurd hx (by simp)), by simp, fun iv h1 h2 _ _ => ?_⟩⟩
    obtain ⟨a', l', c', rfl⟩ := okWide_slice ht hval
    simp only [Value.cells, List.cons.injEq, and_true] at h0
    rw [h0]
    exact .nilSlice h1 h2
  · obtain ⟨a', l', c', rfl⟩ := okWide_slice ht hval
    simp only [Value.cells, List.cons.injEq, and_true] at hcs
    simp only [Value.slice.injEq] at hcs
    obtain ⟨rfl, rfl, rfl⟩ := hcs
    have hv : l' ≤ c' ∧ (c' : Int) ≤ IntKind.i64.max ∧ w.has P r b0 a e c' := by
      simpa [Value.okWide, Cell.okWide, Cell.ok, ht] using hval
    obtain ⟨_, hcap, _, _, row, cells, hsh, _⟩ := hv
    have hblk : a.block < w.heap.size := by
      unfold World.shape? at hsh
      cases hq : w.heap[a.block]? with
      | none => rw [hq] at hsh; cases hsh
      | some o => exact (Array.getElem?_eq_some_iff.1 hq).1
    have each : ∀ i (hi : i < elems.length), ∃ cs is, w.cells? base (a.add (i * P.cellsOf e)) (P.cellsOf e) = some cs ∧ KRep ks is cs := by
      intro i hi
      have h1 := hel i (by omega)
      rw [List.getElem?_eq_getElem hi, Option.bind_eq_some_iff] at h1
      obtain ⟨cs, hcs, hy⟩ := h1
      obtain ⟨⟨is, his⟩, _⟩ := flat_open 40 hk hy
      exact ⟨cs, is, hcs, his⟩
    have hcap' : c' ≤ 9223372036854775807 := by
      have h9 : IntKind.i64.max = 9223372036854775807 := rfl
      rw [h9] at hcap; omega
    have hch : ∃ F : Nat → List Value × List IV, ∀ i, i < elems.length → w.cells? base (a.add (i * P.cellsOf e)) (P.cellsOf e) = some (F i).1 ∧ KRep ks (F i).2 (F i).1 := by
      refine ⟨fun i => if hi : i < elems.length then ((each i hi).choose, (each i hi).choose_spec.choose) else ([], []), fun i hi => ?_⟩
      simp only [dif_pos hi]
      exact (each i hi).choose_spec.choose_spec
    obtain ⟨F, hF⟩ := hch
    have hlen2 : l' ≤ 281474976710656 := by
      have hxs := hsz (elems.map (·.1)) (rest.map (·.1)) (congrArg Prod.fst hx)
      simp only [List.length_map] at hxs
      have : elems.length + rest.length ≤ (elems.length + rest.length) * P.bytesOf e := Nat.le_mul_of_pos_right _ hb
      unfold reachBytes at hxs
      omega
    refine ⟨(List.range l').map fun i => (F i).2, fun x hx => ?_, by simpa using hlen2, fun iv h1 h2 h3 h4 => ?_⟩
    · obtain ⟨i, hi, rfl⟩ := List.mem_map.1 hx
      have := List.mem_range.1 hi
      exact ⟨_, (hF i (by omega)).2⟩
    · have key : ∀ i j c, iv.cellAt i j = some c → i < l' ∧ (F i).2[j]? = some c := by
        intro i j c hcc
        have h5 := h4 i j c hcc
        rw [List.getElem?_map] at h5
        cases hi : (List.range l')[i]? with
        | none => rw [hi] at h5; cases h5
        | some i' =>
          rw [hi] at h5
          obtain ⟨h6, h7⟩ := List.getElem?_eq_some_iff.1 hi
          simp only [List.length_range] at h6
          simp only [List.getElem_range] at h7
          subst h7
          exact ⟨h6, by simpa using h5⟩
      refine .slice (fun i j => (F i).1.getD j undef) h1 (by simpa using h2) hl hcap' hlen2 (fun h => h) hblk (fun i j c hcc => ?_) (fun i j c hcc => ?_)
      · obtain ⟨hi, hj⟩ := key i j c hcc
        obtain ⟨hc1, hk1⟩ := hF i (by omega)
        obtain ⟨_, hn1, hcell⟩ := World.cells?_some hc1
        have hj' : j < ks.length := by rw [← hk1.len.1]; exact (List.getElem?_eq_some_iff.1 hj).1
        have := hcell j (by rw [hc]; exact hj')
        rw [h3, ← hc]
        have e1 : (a.add (i * P.cellsOf e)).add j = a.add (i * P.cellsOf e + j) := by
          unfold Addr.add; split <;> split <;> simp_all <;> omega
        rw [e1] at this
        rw [this, List.getElem?_eq_getElem (by rw [hn1, hc]; exact hj')]
        simp [List.getD_eq_getElem?_getD, List.getElem?_eq_getElem (show j < (F i).1.length by rw [hn1, hc]; exact hj')]
      · obtain ⟨hi, hj⟩ := key i j c hcc
        obtain ⟨hc1, hk1⟩ := hF i (by omega)
        exact (hk1.rep j c hj).1
end
end Go.AE
namespace Go.AE
open Go.ChangeShapes Go.WideShapes Go.ChangeAt Go.RowKit
inductive MK where
  | ck (c : CK)
  | sl (ks : List CK)
mutual
def mixK (P : Program) : Nat → TypeId → Option (List (TypeId × MK))
  | 0, _ => none
  | d + 1, t => match P.underlying t with
    | some (.int k) => some [(t, .ck (.int k))]
    | some .bool => some [(t, .ck .bool)]
    | some .string => some [(t, .ck .str)]
    | some (.slice e) => match flatK P false 40 e with
      | some ks => bif Nat.beq (P.cellsOf e) (llen ks) then (bif Nat.ble 1 (P.bytesOf e) then some [(t, .sl ks)] else none) else none
      | none => none
    | some (.struct fs) => match mixF P d 0 fs.toList with
      | some ks => bif Nat.beq (llen ks) (P.cellsOf t) then some ks else none
      | none => none
    | _ => none
def mixF (P : Program) : Nat → Nat → List Field → Option (List (TypeId × MK))
  | 0, _, _ => none
  | _ + 1, _, [] => some []
  | d + 1, o, f :: r => match mixK P d f.type with
    | some ks => bif Nat.beq f.offset o then (bif Nat.beq (llen ks) (P.cellsOf f.type) then omap (lapp ks) (mixF P d (o + llen ks) r) else none) else none
    | none => none
end
def MOk (w : World) : MK → Value → Prop
  | .ck (.int k), v => ∃ n, v = .int k n ∧ InR k n
  | .ck .bool, v => ∃ b, v = .bool b
  | .ck .str, v => ∃ s, v = .string s ∧ (bytesOf s).length ≤ 9223372036854775807
  | .ck .any, _ => False
  | .sl ks, v => ∃ xs : List (List IV), (∀ x ∈ xs, ∃ vs, KRep ks x vs) ∧ xs.length ≤ 281474976710656 ∧ ∀ iv : IV, iv.isSl = true → iv.len = some xs.length → iv.esize = ks.length → (∀ i j c, iv.cellAt i j = some c → (xs[i]?).bind (·[j]?) = some c) → Rep w (fun _ => False) iv v
def mall (w : World) : List (TypeId × MK) → List Value → Prop
  | [], [] => True
  | k :: ks, v :: vs => MOk w k.2 v ∧ mall w ks vs
  | _, _ => False
theorem mall_cons {w : World} {k : TypeId × MK} {ks : List (TypeId × MK)} {vs : List Value} (h : mall w (k :: ks) vs) : ∃ v vs', vs = v :: vs' ∧ MOk w k.2 v ∧ mall w ks vs' := by
  match vs, h with
  | v :: vs', h => exact ⟨v, vs', rfl, h.1, h.2⟩
theorem mall_nil {w : World} {vs : List Value} (h : mall w [] vs) : vs = [] := by
  match vs, h with
  | [], _ => rfl
theorem mall_app {w : World} : ∀ {ks ks' : List (TypeId × MK)} {vs vs' : List Value}, mall w ks vs → mall w ks' vs' → mall w (ks ++ ks') (vs ++ vs')
  | [], _, [], _, _, h' => h'
  | _ :: _, _, _ :: _, _, h, h' => ⟨h.1, mall_app h.2 h'⟩
  | [], _, _ :: _, _, h, _ => h.elim
  | _ :: _, _, [], _, h, _ => h.elim
section
variable {H : Type} {enc : TypeId × Value → H} {P : Program} {w : World} {base b0 : Nat} {sp : Nat → Bool} {held : Bool} {r : Reach}
theorem all_weights_field {fs : List Field} {xs : List (DataW H × List MemPlace)} (h : (DataW.weightsEach P (fs.map (·.type)) (xs.map (·.1))).all (· ≤ reachBytes) = true) {i : Nat} {f : Field} {x : DataW H × List MemPlace} (hf : fs[i]? = some f) (hx : xs[i]? = some x) :
    (x.1.weights P f.type).all (· ≤ reachBytes) = true := by
  rw [List.all_eq_true] at h ⊢
  exact fun n hn => h n (DataW.weights_mem_each (j := i) (t := f.type) (d := x.1) (by simp [List.getElem?_map, hf]) (by simp [List.getElem?_map, hx]) n hn)
mutual
theorem mix_open : ∀ (d : Nat) {t : TypeId} {ks : List (TypeId × MK)} {n : Nat} {cs : List Value} {x : DataW H × List MemPlace}, mixK P d t = some ks → DataW.trod enc P w base sp held n t cs = some x → (x.1.weights P t).all (· ≤ reachBytes) = true →
    (∀ (j : Nat) v, cs[j]? = some v → ∃ u, (ks.map (·.1))[j]? = some u ∧ Cell.okWide P w r b0 u v) → mall w ks cs
  | 0, t, ks, n, cs, x, h, _, _, _ => by simp [mixK] at h
  | d + 1, t, ks, n, cs, x, h, hx, hz, hw => by
    unfold mixK at h
    split at h
    · rename_i k hu
      cases h
      obtain ⟨m, rfl, rfl, hm⟩ := DataW.trod_int hu hx
      exact ⟨⟨m, rfl, inR_wf hm⟩, trivial⟩
    · rename_i hu
      cases h
      obtain ⟨b, rfl, rfl⟩ := DataW.trod_bool hu hx
      exact ⟨⟨b, rfl⟩, trivial⟩
    · rename_i hu
      cases h
      obtain ⟨s, rfl, rfl, hs⟩ := DataW.trod_string hu hx
      exact ⟨⟨s, rfl, by rw [← size_bytes]; exact hs⟩, trivial⟩
    · rename_i e hu
      cases hk : flatK P false 40 e with
      | none => rw [hk] at h; cases h
      | some k1 =>
        rw [hk] at h
        cases hb : Nat.beq (P.cellsOf e) (llen k1) with
        | false => simp only [hb, cond_false] at h; cases h
        | true =>
          simp only [hb, cond_true] at h
          cases hb2 : Nat.ble 1 (P.bytesOf e) with
          | false => simp only [hb2, cond_false] at h; cases h
          | true =>
            simp only [hb2, cond_true] at h
            cases h
            have e1 : P.cellsOf e = k1.length := by rw [nbeq hb, llen_eq]
            have e2 : 1 ≤ P.bytesOf e := Nat.le_of_ble_eq_true hb2
            have hone : ∃ v, cs = [v] ∧ v.cells.toList = [v] := by
              rcases DataW.trod_slice hu hx with ⟨h0, _⟩ | ⟨a, len, cap, _, _, _, _, h0, _⟩
              · exact ⟨_, h0, rfl⟩
              · exact ⟨_, h0, rfl⟩
            obtain ⟨v, rfl, hv⟩ := hone
            obtain ⟨u, hu1, hu2⟩ := hw 0 v rfl
            simp only [List.map_cons, List.map_nil, List.getElem?_cons_zero, Option.some.injEq] at hu1
            subst hu1
            have hval : Value.okWide P w r b0 t v := by
              unfold Value.okWide
              rw [hu]
              exact hu2
            refine ⟨open_slice (ks := k1) hu hk e1 e2 hval (d := x.1) (ps := x.2) ⟨n, by rw [hv]; exact hx⟩ (fun el rs hd => ?_), trivial⟩
            rw [hd, List.all_eq_true] at hz
            have := hz ((el.length + rs.length) * P.bytesOf e) (by simp [DataW.weights, hu])
            simpa using this
    · rename_i fs hu
      obtain ⟨xs, m, rfl, rfl, hlen, hsz, hf⟩ := DataW.trod_struct hu hx
      cases hF : mixF P d 0 fs.toList with
      | none => rw [hF] at h; cases h
      | some ks' =>
        rw [hF] at h
        cases hb : Nat.beq (llen ks') (P.cellsOf t) with
        | false => simp only [hb, cond_false] at h; cases h
        | true =>
          simp only [hb, cond_true] at h
          cases h
          have hb' := nbeq hb
          have hz' : (DataW.weightsEach P (fs.toList.map (·.type)) (xs.map (·.1))).all (· ≤ reachBytes) = true := by
            have := hz
            simpa [DataW.weights, hu] using this
          have := mixF_open d (o := 0) (xs := xs) (cs := cs) (n := m) hF (by simp [hsz]) (fun i f hi => hf i f (by simpa using hi)) hz' (by simpa using hw)
          rw [List.drop_zero, List.take_of_length_le (by rw [hlen, ← hb', llen_eq]; exact Nat.le_refl _)] at this
          exact this
    · cases h
theorem mixF_open : ∀ (d : Nat) {o : Nat} {fs : List Field} {ks : List (TypeId × MK)} {n : Nat} {cs : List Value} {xs : List (DataW H × List MemPlace)}, mixF P d o fs = some ks → xs.length = fs.length →
    (∀ (i : Nat) (f : Field), fs[i]? = some f → DataW.trod enc P w base sp held n f.type ((cs.drop f.offset).take (P.cellsOf f.type)) = xs[i]?) → (DataW.weightsEach P (fs.map (·.type)) (xs.map (·.1))).all (· ≤ reachBytes) = true →
    (∀ (j : Nat) v, (cs.drop o)[j]? = some v → ∃ u, (ks.map (·.1))[j]? = some u ∧ Cell.okWide P w r b0 u v) → mall w ks ((cs.drop o).take ks.length)
  | 0, o, fs, ks, n, cs, xs, h, _, _, _, _ => by simp [mixF] at h
  | d + 1, o, [], ks, n, cs, xs, h, hl, _, _, _ => by
    simp only [mixF] at h
    cases h
    simp [mall]
  | d + 1, o, f :: q, ks, n, cs, xs, h, hl, hf, hz, hw => by
    unfold mixF at h
    cases hK : mixK P d f.type with
    | none => rw [hK] at h; cases h
    | some k1 =>
      rw [hK] at h
      cases hb : Nat.beq f.offset o with
      | false => simp only [hb, cond_false] at h; cases h
      | true =>
        simp only [hb, cond_true] at h
        cases hb2 : Nat.beq (llen k1) (P.cellsOf f.type) with
        | false => simp only [hb2, cond_false] at h; cases h
        | true =>
          simp only [hb2, cond_true] at h
          cases hF : mixF P d (o + llen k1) q with
          | none => rw [hF] at h; cases h
          | some k2 =>
            rw [hF] at h
            simp only [omap, Option.some.injEq] at h
            subst h
            match xs, hl with
            | x :: xs, hl =>
              have h0 := hf 0 f rfl
              have e1 := nbeq hb
              have e2 := nbeq hb2
              have e3 : llen k1 = k1.length := llen_eq k1
              rw [lapp_eq] at hw ⊢
              have w1 : ∀ (j : Nat) v, ((cs.drop f.offset).take (P.cellsOf f.type))[j]? = some v → ∃ u, (k1.map (·.1))[j]? = some u ∧ Cell.okWide P w r b0 u v := by
                intro j v hv
                rw [List.getElem?_take] at hv
                split at hv
                · rename_i hj
                  obtain ⟨u, hu1, hu2⟩ := hw j v (by rw [← e1]; exact hv)
                  refine ⟨u, ?_, hu2⟩
                  rw [List.map_append, List.getElem?_append_left (by simp; omega)] at hu1
                  exact hu1
                · cases hv
              have w2 : ∀ (j : Nat) v, (cs.drop (o + llen k1))[j]? = some v → ∃ u, (k2.map (·.1))[j]? = some u ∧ Cell.okWide P w r b0 u v := by
                intro j v hv
                obtain ⟨u, hu1, hu2⟩ := hw (k1.length + j) v (by rw [List.getElem?_drop] at hv ⊢; rw [← hv, e3]; congr 1; omega)
                refine ⟨u, ?_, hu2⟩
                rw [List.map_append, List.getElem?_append_right (by simp)] at hu1
                simpa using hu1
              have i1 := mix_open d hK (x := x) (by simpa using h0) (all_weights_field hz (i := 0) rfl rfl) w1
              have i2 := mixF_open d (n := n) (cs := cs) (xs := xs) hF (by simpa using hl) (fun i f hi => by simpa using hf (i + 1) f (by simpa using hi))
                (by
                  rw [List.all_eq_true] at hz ⊢
                  intro m hm
                  exact hz m (by simp only [List.map_cons, DataW.weightsEach, List.mem_append]; exact Or.inr hm)) w2
              rw [List.length_append]
              have : (cs.drop o).take (k1.length + k2.length) = ((cs.drop o).take k1.length) ++ ((cs.drop (o + k1.length)).take k2.length) := by
                rw [List.take_add, List.drop_drop]
              rw [this]
              have h3 : mall w k1 ((cs.drop o).take k1.length) := by
                rw [← llen_eq, e2, ← e1]; exact i1
              refine mall_app h3 ?_
              rw [llen_eq] at i2
              exact i2
end
theorem open_mix {t : TypeId} {fs : Array Field} {ks : List (TypeId × MK)} {v : Value} {d : DataW H} {ps : List MemPlace} (hu : P.underlying t = some (.struct fs)) (hk : mixK P 40 t = some ks) (hc : P.cellTypes P.depth t = some (ks.map (·.1))) (hn : P.cellsOf t = ks.length)
    (hval : Value.okWide P w r b0 t v) (hd : DataW.Trod enc P w base sp held t v d ps) (hz : (d.weights P t).all (· ≤ reachBytes) = true) : ∃ l, v = .agg ⟨l⟩ ∧ mall w ks l := by
  have hv := hval
  unfold Value.okWide at hv
  rw [hu] at hv
  obtain ⟨⟨l⟩, rfl, hs, ts, h1, h2, h3⟩ := hv
  obtain ⟨fuel, hf⟩ := hd
  rw [hc] at h1
  cases h1
  refine ⟨l, rfl, mix_open (r := r) (b0 := b0) 40 hk hf hz (fun j v hj => ?_)⟩
  have hj' : j < l.length := (List.getElem?_eq_some_iff.1 hj).1
  have hl : l.length = ks.length := by simpa [hn] using hs
  obtain ⟨u, hu1, hu2⟩ := h3 j v (by simpa using hj)
  refine ⟨u, ?_, hu2⟩
  rw [Nat.mod_eq_of_lt (by simp; omega)] at hu1
  exact hu1
theorem weights_arg {ts : List TypeId} {ds : List (DataW H)} (h : (DataW.weightsEach P ts ds).all (· ≤ reachBytes) = true) {j : Nat} {t : TypeId} {d : DataW H} (ht : ts[j]? = some t) (hd : ds[j]? = some d) : (d.weights P t).all (· ≤ reachBytes) = true := by
  rw [List.all_eq_true] at h ⊢
  exact fun n hn => h n (DataW.weights_mem_each ht hd n hn)
end
def MIs (w : World) : List IV → List Value → Prop
  | [], [] => True
  | i :: is, v :: vs => Rep w (fun _ => False) i v ∧ MIs w is vs
  | _, _ => False
theorem MIs.get {w : World} : ∀ {is : List IV} {vs : List Value}, MIs w is vs → is.length = vs.length ∧ ∀ (j : Nat) i, is[j]? = some i → Rep w (fun _ => False) i (vs.getD j undef)
  | [], [], _ => ⟨rfl, fun j i h => by simp at h⟩
  | i :: is, v :: vs, h => ⟨by simp [(MIs.get h.2).1], fun j c hj => by
      cases j with
      | zero => simp only [List.getElem?_cons_zero, Option.some.injEq] at hj; subst hj; exact h.1
      | succ j => exact (MIs.get h.2).2 j c (by simpa using hj)⟩
  | [], _ :: _, h => h.elim
  | _ :: _, [], h => h.elim
theorem MIs.arep {w : World} {is : List IV} {vs : List Value} (h : MIs w is vs) : ARep (zeroGh w (fun _ => False)) (.agg (lmap .imm is)) (.agg ⟨vs⟩) := by
  obtain ⟨hl, hr⟩ := h.get
  have e : ∀ j, (⟨vs⟩ : Array Value).getD j undef = vs.getD j undef := fun j => by simp [Array.getD_eq_getD_getElem?, List.getD_eq_getElem?_getD]
  refine .agg (by rw [lmap_eq]; simp [hl]) (fun j c hc => ?_) (fun j hj => ?_)
  · rw [lmap_eq, List.getElem?_map] at hc
    cases hi : is[j]? with
    | none => rw [hi] at hc; cases hc
    | some i =>
      rw [hi] at hc
      cases hc
      rw [e]
      exact .imm (Rep.mono (w := w) (w' := w) (Nat.le_refl _) (fun b _ h => zero_own.1 h) (fun _ _ _ => rfl) (hr j i hi))
  · have hj' : j < is.length := by simp at hj; omega
    rw [e]
    exact (hr j is[j] (List.getElem?_eq_getElem hj')).oneCell
theorem MIs.cell {w : World} {is : List IV} {vs : List Value} (h : MIs w is vs) {v : Value} (hv : v = .agg ⟨vs⟩) {arr : Array Value} {j : Nat} (ha : arr.getD j undef = v) : ARep (zeroGh w (fun _ => False)) (.agg (lmap .imm is)) (arr.getD j undef) := by
  rw [ha, hv]; exact h.arep
theorem MOk.bytes {w : World} {v : Value} (h : MOk w (.sl [.int .u8]) v) : ∃ l : List UInt8, l.length ≤ 281474976710656 ∧ Rep w (fun _ => False) (.bytes l) v := by
  obtain ⟨xs, h1, h2, h3⟩ := h
  have key : ∀ xs : List (List IV), (∀ x ∈ xs, ∃ vs, KRep [.int .u8] x vs) → ∃ l : List UInt8, xs = l.map fun b => [.int .u8 (b.toNat : Int)] := by
    intro xs
    induction xs with
    | nil => exact fun _ => ⟨[], rfl⟩
    | cons x xs ih =>
      intro h
      obtain ⟨l, hl⟩ := ih fun y hy => h y (by simp [hy])
      obtain ⟨vs, hx⟩ := h x (by simp)
      obtain ⟨n, is, vs', rfl, rfl, hr, hx⟩ := hx.cons_int
      obtain ⟨rfl, rfl⟩ := hx.end
      have hr' : (0 : Int) ≤ n ∧ n ≤ 255 := hr
      refine ⟨UInt8.ofNat n.toNat :: l, ?_⟩
      rw [hl, List.map_cons]
      have : ((UInt8.ofNat n.toNat).toNat : Int) = n := by
        have : (UInt8.ofNat n.toNat).toNat = n.toNat % 256 := by simp
        omega
      rw [this]
  obtain ⟨l, rfl⟩ := key xs h1
  refine ⟨l, by simpa using h2, h3 _ rfl (by simp [IV.len]) rfl (fun i j c hcc => ?_)⟩
  cases j with
  | zero =>
    simp only [IV.cellAt] at hcc
    rw [List.getElem?_map]
    cases hi : l[i]? with
    | none => rw [hi] at hcc; cases hcc
    | some b => rw [hi] at hcc; simpa using hcc
  | succ j => simp [IV.cellAt] at hcc
theorem MOk.ints {w : World} {v : Value} {k : IntKind} (h : MOk w (.sl [.int k]) v) : ∃ l : List Int, (∀ n ∈ l, InR k n) ∧ l.length ≤ 281474976710656 ∧ Rep w (fun _ => False) (.ints k l) v := by
  obtain ⟨xs, h1, h2, h3⟩ := h
  have key : ∀ xs : List (List IV), (∀ x ∈ xs, ∃ vs, KRep [.int k] x vs) → ∃ l : List Int, (∀ n ∈ l, InR k n) ∧ xs = l.map fun b => [.int k b] := by
    intro xs
    induction xs with
    | nil => exact fun _ => ⟨[], fun n h => by simp at h, rfl⟩
    | cons x xs ih =>
      intro h
      obtain ⟨l, hl1, hl⟩ := ih fun y hy => h y (by simp [hy])
      obtain ⟨vs, hx⟩ := h x (by simp)
      obtain ⟨n, is, vs', rfl, rfl, hr, hx⟩ := hx.cons_int
      obtain ⟨rfl, rfl⟩ := hx.end
      refine ⟨n :: l, fun m hm => ?_, by rw [hl, List.map_cons]⟩
      rcases List.mem_cons.1 hm with rfl | hm
      · exact hr
      · exact hl1 m hm
  obtain ⟨l, hl, rfl⟩ := key xs h1
  refine ⟨l, hl, by simpa using h2, h3 _ rfl (by simp [IV.len]) rfl (fun i j c hcc => ?_)⟩
  cases j with
  | zero =>
    simp only [IV.cellAt] at hcc
    rw [List.getElem?_map]
    cases hi : l[i]? with
    | none => rw [hi] at hcc; cases hcc
    | some b => rw [hi] at hcc; simpa using hcc
  | succ j => simp [IV.cellAt] at hcc
theorem MOk.bools {w : World} {v : Value} (h : MOk w (.sl [.bool]) v) : ∃ l : List Bool, l.length ≤ 281474976710656 ∧ Rep w (fun _ => False) (.bools l) v := by
  obtain ⟨xs, h1, h2, h3⟩ := h
  have key : ∀ xs : List (List IV), (∀ x ∈ xs, ∃ vs, KRep [.bool] x vs) → ∃ l : List Bool, xs = l.map fun b => [.bool b] := by
    intro xs
    induction xs with
    | nil => exact fun _ => ⟨[], rfl⟩
    | cons x xs ih =>
      intro h
      obtain ⟨l, hl⟩ := ih fun y hy => h y (by simp [hy])
      obtain ⟨vs, hx⟩ := h x (by simp)
      obtain ⟨n, is, vs', rfl, rfl, hx2⟩ := hx.cons_bool
      obtain ⟨rfl, rfl⟩ := hx2.end
      exact ⟨n :: l, by rw [hl, List.map_cons]⟩
  obtain ⟨l, rfl⟩ := key xs h1
  refine ⟨l, by simpa using h2, h3 _ rfl (by simp [IV.len]) rfl (fun i j c hcc => ?_)⟩
  cases j with
  | zero =>
    simp only [IV.cellAt] at hcc
    rw [List.getElem?_map]
    cases hi : l[i]? with
    | none => rw [hi] at hcc; cases hcc
    | some b => rw [hi] at hcc; simpa using hcc
  | succ j => simp [IV.cellAt] at hcc
theorem MOk.structs {w : World} {v : Value} {ks : List CK} (hn : Nat.ble 1 ks.length = true) (h : MOk w (.sl ks) v) : ∃ xs : List (List IV), (∀ x ∈ xs, ∃ vs, KRep ks x vs) ∧ xs.length ≤ 281474976710656 ∧ Rep w (fun _ => False) (.sl ks.length xs) v := by
  obtain ⟨xs, h1, h2, h3⟩ := h
  refine ⟨xs, h1, h2, h3 _ ?_ rfl rfl (fun i j c hcc => hcc)⟩
  show (bif Nat.ble 1 ks.length then xs.all (fun x => Nat.beq x.length ks.length) else false) = true
  rw [hn, cond_true, List.all_eq_true]
  intro x hx
  obtain ⟨vs, hv⟩ := h1 x hx
  rw [hv.len.1]
  exact Nat.beq_refl _
theorem MOk.int {w : World} {v : Value} {k : IntKind} (h : MOk w (.ck (.int k)) v) : ∃ n, InR k n ∧ Rep w (fun _ => False) (.int k n) v := by
  obtain ⟨n, rfl, hr⟩ := h
  exact ⟨n, hr, .int hr⟩
theorem MOk.bool {w : World} {v : Value} (h : MOk w (.ck .bool) v) : ∃ b, Rep w (fun _ => False) (.bool b) v := by
  obtain ⟨b, rfl⟩ := h
  exact ⟨b, .bool⟩
theorem MOk.str {w : World} {v : Value} (h : MOk w (.ck .str) v) : ∃ l : List UInt8, l.length ≤ 9223372036854775807 ∧ Rep w (fun _ => False) (.str l) v := by
  obtain ⟨s, rfl, hr⟩ := h
  exact ⟨_, hr, .str rfl hr⟩
end Go.AE
set_option maxRecDepth 100000
namespace Q6
open Go Go.AE Go.Proofs
theorem gW : Tryd.prog.globalNamed "zoneinfo/downgrade.ways" = some 0 := by kernel_rfl
theorem gR : Tryd.prog.globalNamed "zoneinfo/leaps.rules" = some 1 := by kernel_rfl
def nm119 : List UInt8 := [122, 111, 110, 101, 105, 110, 102, 111, 47, 100, 111, 119, 110, 103, 114, 97, 100, 101, 46, 119, 97, 121, 115, 36, 49]
def nm121 : List UInt8 := [122, 111, 110, 101, 105, 110, 102, 111, 47, 100, 111, 119, 110, 103, 114, 97, 100, 101, 46, 119, 105, 100, 101]
def nm137 : List UInt8 := [122, 111, 110, 101, 105, 110, 102, 111, 47, 108, 101, 97, 112, 115, 46, 114, 117, 108, 101, 115, 36, 49]
def nm138 : List UInt8 := [122, 111, 110, 101, 105, 110, 102, 111, 47, 108, 101, 97, 112, 115, 46, 114, 117, 108, 101, 115, 36, 50]
def nm139 : List UInt8 := [122, 111, 110, 101, 105, 110, 102, 111, 47, 108, 101, 97, 112, 115, 46, 114, 117, 108, 101, 115, 36, 51]
theorem find_ints {n : Int} : ∀ (l : List MapEntry) (i : Nat), (∀ x ∈ l, ∃ m, x.key = .int .i64 m) →
    ∃ r, Instr.findNow (.int .i64) (.int .i64 n) l i = some r ∧ (r = none → ∀ x ∈ l, x.key ≠ .int .i64 n) ∧ (∀ p, r = some p → ∃ x ∈ l, x.key = .int .i64 n ∧ x.val = p.2)
  | [], i, _ => ⟨none, rfl, fun _ x hx => (by cases hx), fun p h => (by cases h)⟩
  | e :: l, i, h => by
    obtain ⟨m, hm⟩ := h e (List.mem_cons_self ..)
    unfold Instr.findNow
    rw [hm]
    by_cases he : n = m
    · refine ⟨some (i, e.val), by simp [Instr.sameNow, he], fun h => (by cases h), fun p hp => ?_⟩
      cases hp
      exact ⟨e, List.mem_cons_self .., by rw [hm, he], rfl⟩
    · obtain ⟨r, k1, k2, k3⟩ := find_ints (n := n) l (i + 1) (fun x hx => h x (List.mem_cons_of_mem _ hx))
      have hne : (n == m) = false := by simp [he]
      refine ⟨r, by simp [Instr.sameNow, hne, k1], fun hr x hx => ?_, fun p hp => ?_⟩
      · rcases List.mem_cons.1 hx with rfl | hx
        · rw [hm]; intro e; cases e; exact he rfl
        · exact k2 hr x hx
      · obtain ⟨x, hx, q⟩ := k3 p hp
        exact ⟨x, List.mem_cons_of_mem _ hx, q⟩
def waysD : DataW Unit := .map [(.int .i64 1, .iface "func" (.lit (.string nm119))), (.int .i64 2, .iface "func" (.lit (.string nm121))), (.int .i64 3, .iface "func" (.lit (.string nm121))), (.int .i64 4, .iface "func" (.lit (.string nm121)))]
def rulesD : DataW Unit := .slice [.agg [.lit (.string [116, 105, 109, 101]), .iface "func" (.lit (.string nm137))], .agg [.lit (.string [102, 105, 114, 115, 116, 32, 99, 111, 114, 114, 101, 99, 116, 105, 111, 110]), .iface "func" (.lit (.string nm138))], .agg [.lit (.string [115, 116, 101, 112]), .iface "func" (.lit (.string nm139))]] []
def esW : List (Int × FuncId) := [(1, 119), (2, 121), (3, 121), (4, 121)]
theorem var_heap {W : World} {n : String} {g : Nat} {cs : Array Value} (hg : Tryd.prog.globalNamed n = some g) (h : W.var? Tryd.prog n = some cs) : ∃ T fr, W.heap[g]? = some (.cells cs T fr) := by
  unfold World.var? at h
  rw [hg] at h
  simp only [Option.bind_some] at h
  split at h
  case h_2 => cases h
  rename_i c T fr hc
  cases h
  exact ⟨T, fr, hc⟩
theorem ways_of_laid {W : World} (h : laidMetH Tryd.prog YtmhnajhokkieoaaDoor.Rows.downgradeKeepsDataRow.laid W) : ∃ V, W.var? Tryd.prog "zoneinfo/downgrade.ways" = some #[V] ∧ Rep W (fun _ => False) (.mp esW) V := by
  obtain ⟨g, t, cs, fuel, p, hg, ht, hv, hd⟩ := h.funcs (n := "zoneinfo/downgrade.ways") (d := waysD) (List.mem_cons_of_mem _ (List.mem_singleton.2 rfl))
  obtain rfl := Option.some.inj (gW.symm.trans hg)
  have ht' : (Tryd.prog.globals[0]?).map (·.type) = some 51 := by kernel_rfl
  obtain rfl := Option.some.inj (ht'.symm.trans ht)
  have hd' : DataW.trod (funcToken Tryd.prog) Tryd.prog W 0 (fun _ => true) true fuel 51 cs.toList = some (.map [(.int .i64 1, .held nm119), (.int .i64 2, .held nm121), (.int .i64 3, .held nm121), (.int .i64 4, .held nm121)], p) := hd
  rcases WideElems.open_map (k := 3) (e := 49) Tryd.underlying51 hd' with ⟨_, hx⟩ | ⟨b, es, clock, n, _, hcs, hb, _, hF, hx⟩
  · exact absurd (congrArg Prod.fst hx) (by simp)
  have hL := congrArg Prod.fst hx
  simp only [DataW.map.injEq] at hL
  have hperm := WideShapes.sorted_perm (es.toList.map (WideElems.rg Tryd.prog 3 (WideElems.elemAt (funcToken Tryd.prog) Tryd.prog W 0 (fun _ => true) true n 49)))
  rw [← hL] at hperm
  have hu49 : ∃ ps rs va, Tryd.prog.underlying 49 = some (.func ps rs va) := ⟨_, _, _, Tryd.underlying49⟩
  obtain ⟨ps, rs, va, hu49⟩ := hu49
  have each : ∀ x ∈ es.toList, ∃ m f, x.key = .int .i64 m ∧ x.val = .func (.func f) #[] #[] ∧ (m, f) ∈ esW := by
    intro x hx
    obtain ⟨y, hy⟩ := hF.reads x hx
    have hm : y ∈ es.toList.map (WideElems.rg Tryd.prog 3 (WideElems.elemAt (funcToken Tryd.prog) Tryd.prog W 0 (fun _ => true) true n 49)) := List.mem_map.2 ⟨x, hx, WideElems.rg_of hy⟩
    have hm := (hperm.mem_iff).2 hm
    unfold WideElems.rd at hy
    simp only [Option.bind_eq_some_iff, Option.map_eq_some_iff] at hy
    obtain ⟨key, h1, z, h2, rfl⟩ := hy
    have hkey : ∀ m : Int, key = .int .i64 m → x.key = .int .i64 m := by
      intro m e
      subst e
      unfold keyOf at h1
      rw [Tryd.underlying3] at h1
      unfold mapKey at h1
      rw [Tryd.underlying3] at h1
      simp only at h1
      split at h1
      all_goals first | (cases h1; done) | skip
      all_goals simp_all
    have hval : ∀ (b0 : UInt8) (r0 : List UInt8) (f0 : FuncId), z.1 = .held (b0 :: r0) → ((List.range Tryd.prog.funcs.size).filter fun f => (Tryd.prog.funcs[f]?).any (·.name.toUTF8.data.toList == b0 :: r0)) = [f0] → x.val = .func (.func f0) #[] #[] := by
      intro b0 r0 f0 e h3
      unfold WideElems.elemAt at h2
      split at h2
      case isFalse => cases h2
      rename_i hform
      have hc : x.val.cells.toList = [x.val] := by
        cases hxv : x.val <;> rw [hxv] at hform <;> first | rfl | (simp [Value.formed, hu49] at hform)
      rw [hc] at h2
      obtain ⟨zd, zp⟩ := z
      have e : zd = .held (b0 :: r0) := e
      subst e
      exact func_of_trod (f0 := f0) hu49 h3 h2
    simp only [List.mem_cons, Prod.mk.injEq, List.not_mem_nil, or_false] at hm
    rcases hm with ⟨k, v⟩ | ⟨k, v⟩ | ⟨k, v⟩ | ⟨k, v⟩
    · exact ⟨1, 119, hkey _ k, hval _ _ 119 v (by kernel_rfl), by simp [esW]⟩
    · exact ⟨2, 121, hkey _ k, hval _ _ 121 v (by kernel_rfl), by simp [esW]⟩
    · exact ⟨3, 121, hkey _ k, hval _ _ 121 v (by kernel_rfl), by simp [esW]⟩
    · exact ⟨4, 121, hkey _ k, hval _ _ 121 v (by kernel_rfl), by simp [esW]⟩
  have all : ∀ m f, (m, f) ∈ esW → ∃ x ∈ es.toList, x.key = .int .i64 m := by
    intro m f hmf
    have : ∃ d, ((.int .i64 m : Lit), d) ∈ ([(.int .i64 1, .held nm119), (.int .i64 2, .held nm121), (.int .i64 3, .held nm121), (.int .i64 4, .held nm121)] : List (Lit × DataW (List UInt8))) := by
      simp only [esW, List.mem_cons, Prod.mk.injEq, List.not_mem_nil, or_false] at hmf
      rcases hmf with ⟨rfl, _⟩ | ⟨rfl, _⟩ | ⟨rfl, _⟩ | ⟨rfl, _⟩
      · exact ⟨.held nm119, by simp⟩
      · exact ⟨.held nm121, by simp⟩
      · exact ⟨.held nm121, by simp⟩
      · exact ⟨.held nm121, by simp⟩
    obtain ⟨d, hd⟩ := this
    obtain ⟨x, hx, hxe⟩ := List.mem_map.1 ((hperm.mem_iff).1 hd)
    obtain ⟨m', f', hk, _, _⟩ := each x hx
    obtain ⟨y, hy⟩ := hF.reads x hx
    have := WideElems.rd_key hy
    rw [← WideElems.rg_of hy, hxe, hk] at this
    refine ⟨x, hx, ?_⟩
    rw [hk]
    unfold keyOf at this
    rw [Tryd.underlying3] at this
    unfold mapKey at this
    rw [Tryd.underlying3] at this
    simp at this
    rw [this.2]
  have hone : cs = #[.map (some b)] := by
    obtain ⟨cs⟩ := cs
    have : cs = [.map (some b)] := hcs
    rw [this]
  refine ⟨_, by rw [hv, hone], ?_⟩
  refine .mp (fun h => h) (Array.getElem?_eq_some_iff.1 hb).1 hb (fun n hn => ?_)
  obtain ⟨r, k1, k2, k3⟩ := find_ints (n := n) es.toList 0 (fun x hx => by obtain ⟨m, f, hk, _⟩ := each x hx; exact ⟨m, hk⟩)
  refine ⟨r, k1, ?_⟩
  have uniq : ∀ m f, (m, f) ∈ esW → lookF esW m = some (.func (.func f) #[] #[]) := by
    intro m f hmf
    simp only [esW, List.mem_cons, Prod.mk.injEq, List.not_mem_nil, or_false] at hmf
    rcases hmf with ⟨rfl, rfl⟩ | ⟨rfl, rfl⟩ | ⟨rfl, rfl⟩ | ⟨rfl, rfl⟩ <;> rfl
  cases r with
  | none =>
    have hno := k2 rfl
    have : ∀ f, (n, f) ∉ esW := fun f hf => by
      obtain ⟨x, hx, hk⟩ := all n f hf
      exact hno x hx hk
    simp only [esW, List.mem_cons, Prod.mk.injEq, List.not_mem_nil, or_false] at this
    have n1 : n ≠ 1 := fun e => this 119 (.inl ⟨e, rfl⟩)
    have n2 : n ≠ 2 := fun e => this 121 (.inr (.inl ⟨e, rfl⟩))
    have n3 : n ≠ 3 := fun e => this 121 (.inr (.inr (.inl ⟨e, rfl⟩)))
    have n4 : n ≠ 4 := fun e => this 121 (.inr (.inr (.inr ⟨e, rfl⟩)))
    simp [esW, lookF, n1, n2, n3, n4]
  | some p =>
    obtain ⟨x, hx, hk, hv⟩ := k3 p rfl
    obtain ⟨m, f, hk', hv', hmf⟩ := each x hx
    rw [hk] at hk'
    cases hk'
    rw [uniq n f hmf]
    simp only [Option.map_some]
    rw [← hv, hv']
def esR : List (List IV) := [[.str [116, 105, 109, 101], .val (.func (.func 137) #[] #[])], [.str [102, 105, 114, 115, 116, 32, 99, 111, 114, 114, 101, 99, 116, 105, 111, 110], .val (.func (.func 138) #[] #[])], [.str [115, 116, 101, 112], .val (.func (.func 139) #[] #[])]]
theorem rules_of_laid {W : World} (h : laidMetH Tryd.prog YtmhnajhokkieoaaDoor.Rows.downgradeKeepsDataRow.laid W) : ∃ V, W.var? Tryd.prog "zoneinfo/leaps.rules" = some #[V] ∧ Rep W (fun _ => False) (.sl 2 esR) V := by
  obtain ⟨g, t, cs, fuel, p, hg, ht, hv, hd⟩ := h.funcs (n := "zoneinfo/leaps.rules") (d := rulesD) (List.mem_cons_self ..)
  obtain rfl := Option.some.inj (gR.symm.trans hg)
  have ht' : (Tryd.prog.globals[1]?).map (·.type) = some 96 := by kernel_rfl
  obtain rfl := Option.some.inj (ht'.symm.trans ht)
  have hd' : DataW.trod (funcToken Tryd.prog) Tryd.prog W 0 (fun _ => true) true fuel 96 cs.toList = some (.slice [.agg [.lit (.string [116, 105, 109, 101]), .held nm137], .agg [.lit (.string [102, 105, 114, 115, 116, 32, 99, 111, 114, 114, 101, 99, 116, 105, 111, 110]), .held nm138], .agg [.lit (.string [115, 116, 101, 112]), .held nm139]] [], p) := hd
  rcases DataW.trod_slice (e := 99) Tryd.underlying96 hd' with ⟨_, hx⟩ | ⟨a, len, cap, elems, rest, n, _, hcs, hx, _, hl, hm, hlen, hel, _⟩
  · exact absurd (congrArg Prod.fst hx) (by simp)
  have hE := congrArg Prod.fst hx
  simp only [DataW.slice.injEq] at hE
  obtain ⟨hE, _⟩ := hE
  have h3 : elems.length = 3 := by have := congrArg List.length hE; simpa using this.symm
  have hc99 : Tryd.prog.cellsOf 99 = 2 := by kernel_rfl
  have hc9 : Tryd.prog.cellsOf 9 = 1 := by kernel_rfl
  have hc97 : Tryd.prog.cellsOf 97 = 1 := by kernel_rfl
  have hu97 : ∃ ps rs va, Tryd.prog.underlying 97 = some (.func ps rs va) := ⟨_, _, _, Tryd.underlying97⟩
  obtain ⟨ps, rs, va, hu97⟩ := hu97
  have each : ∀ (i : Nat) (l : List UInt8) (b0 : UInt8) (r0 : List UInt8) (f0 : FuncId), (elems.map (·.1))[i]? = some (.agg [.lit (.string l), .held (b0 :: r0)]) → ((List.range Tryd.prog.funcs.size).filter fun f => (Tryd.prog.funcs[f]?).any (·.name.toUTF8.data.toList == b0 :: r0)) = [f0] →
      ∃ s : ByteArray, bytesOf s = l ∧ W.cell? (a.add (i * 2)) = some (.string s) ∧ W.cell? (a.add (i * 2 + 1)) = some (.func (.func f0) #[] #[]) := by
    intro i l b0 r0 f0 he hone
    rw [List.getElem?_map] at he
    obtain ⟨y, hy, hy1⟩ := Option.map_eq_some_iff.1 he
    have hi : i < len := by rw [← hlen]; exact (List.getElem?_eq_some_iff.1 hy).1
    have h1 := hel i hi
    rw [hy, hc99, Option.bind_eq_some_iff] at h1
    obtain ⟨cc, hcc, htr⟩ := h1
    obtain ⟨_, hlen2, hcell⟩ := World.cells?_some hcc
    obtain ⟨y0, y1, n2, hag, _, t0, t1⟩ := _root_.Go.ChangeShapes.trod_struct2 Tryd.underlying99 htr
    have hag1 := congrArg Prod.fst hag
    rw [hy1] at hag1
    simp only [DataW.agg.injEq, List.cons.injEq, and_true] at hag1
    obtain ⟨q0, q1⟩ := hag1
    match cc, hlen2 with
    | [c0, c1], _ =>
    have t0' : DataW.trod (funcToken Tryd.prog) Tryd.prog W 0 (fun _ => true) true n2 9 [c0] = some y0 := t0
    have t1' : DataW.trod (funcToken Tryd.prog) Tryd.prog W 0 (fun _ => true) true n2 97 [c1] = some y1 := t1
    obtain ⟨s, e0, e1, _⟩ := DataW.trod_string Tryd.underlying9 t0'
    simp only [List.cons.injEq, and_true] at e0
    subst e0
    rw [e1] at q0
    simp only [DataW.lit.injEq, Lit.string.injEq] at q0
    obtain ⟨yd, yp⟩ := y1
    have q1 : DataW.held (b0 :: r0) = yd := q1
    subst q1
    have hf := func_of_trod (f0 := f0) hu97 hone t1'
    subst hf
    refine ⟨s, q0.symm, ?_, ?_⟩
    · have := hcell 0 (by omega)
      rw [add_add, Nat.add_zero] at this
      simpa using this
    · have := hcell 1 (by omega)
      rw [add_add] at this
      simpa using this
  rw [← hE] at each
  obtain ⟨s0, b0, c00, c01⟩ := each 0 _ _ _ 137 rfl (by kernel_rfl)
  obtain ⟨s1, b1, c10, c11⟩ := each 1 _ _ _ 138 rfl (by kernel_rfl)
  obtain ⟨s2, b2, c20, c21⟩ := each 2 _ _ _ 139 rfl (by kernel_rfl)
  have hone : cs = #[.slice (some a) len cap] := by
    obtain ⟨cs⟩ := cs
    have : cs = [.slice (some a) len cap] := hcs
    rw [this]
  have hblk : a.block < W.heap.size := by
    unfold World.cell? at c00
    rw [show (a.add (0 * 2)).block = a.block from add_block _ _] at c00
    cases hq : W.heap[a.block]? with
    | none => rw [hq] at c00; cases c00
    | some o => exact (Array.getElem?_eq_some_iff.1 hq).1
  have hcap : cap ≤ 9223372036854775807 := hm
  have hlen3 : len = 3 := by omega
  refine ⟨_, by rw [hv, hone], ?_⟩
  refine .slice (fun i j => match i, j with
    | 0, 0 => .string s0 | 0, _ => .func (.func 137) #[] #[] | 1, 0 => .string s1 | 1, _ => .func (.func 138) #[] #[] | _, 0 => .string s2 | _, _ => .func (.func 139) #[] #[]) rfl (by rw [hlen3]; rfl) hl hcap (by omega) (fun h => h) hblk (fun i j c hc => ?_) (fun i j c hc => ?_)
  all_goals
    have hsplit : (i = 0 ∧ j = 0 ∧ c = .str [116, 105, 109, 101]) ∨ (i = 0 ∧ j = 1 ∧ c = .val (.func (.func 137) #[] #[])) ∨ (i = 1 ∧ j = 0 ∧ c = .str [102, 105, 114, 115, 116, 32, 99, 111, 114, 114, 101, 99, 116, 105, 111, 110]) ∨ (i = 1 ∧ j = 1 ∧ c = .val (.func (.func 138) #[] #[])) ∨ (i = 2 ∧ j = 0 ∧ c = .str [115, 116, 101, 112]) ∨ (i = 2 ∧ j = 1 ∧ c = .val (.func (.func 139) #[] #[])) := by
      simp only [IV.cellAt, esR] at hc
      match i with
      | 0 => match j with
        | 0 => simp at hc; simp [hc]
        | 1 => simp at hc; simp [hc]
        | j + 2 => simp at hc
      | 1 => match j with
        | 0 => simp at hc; simp [hc]
        | 1 => simp at hc; simp [hc]
        | j + 2 => simp at hc
      | 2 => match j with
        | 0 => simp at hc; simp [hc]
        | 1 => simp at hc; simp [hc]
        | j + 2 => simp at hc
      | i + 3 => simp at hc
  · rcases hsplit with ⟨rfl, rfl, _⟩ | ⟨rfl, rfl, _⟩ | ⟨rfl, rfl, _⟩ | ⟨rfl, rfl, _⟩ | ⟨rfl, rfl, _⟩ | ⟨rfl, rfl, _⟩
    · exact c00
    · exact c01
    · exact c10
    · exact c11
    · exact c20
    · exact c21
  · rcases hsplit with ⟨rfl, rfl, rfl⟩ | ⟨rfl, rfl, rfl⟩ | ⟨rfl, rfl, rfl⟩ | ⟨rfl, rfl, rfl⟩ | ⟨rfl, rfl, rfl⟩ | ⟨rfl, rfl, rfl⟩
    · exact .str b0 (by decide)
    · exact .val rfl
    · exact .str b1 (by decide)
    · exact .val rfl
    · exact .str b2 (by decide)
    · exact .val rfl
theorem gok_of_laid {W : World} (h : laidMetH Tryd.prog YtmhnajhokkieoaaDoor.Rows.downgradeKeepsDataRow.laid W) : GOK G6 W (fun _ => False) := by
  obtain ⟨Vw, hw, rw_⟩ := ways_of_laid h
  obtain ⟨Vr, hr, rr⟩ := rules_of_laid h
  obtain ⟨Tw, fw, hW⟩ := var_heap gW hw
  obtain ⟨Tr, fr, hR⟩ := var_heap gR hr
  intro n l hl
  unfold G6 P8.G8 at hl
  cases hn : Nat.beq n 0 with
  | true =>
    rw [hn, cond_true] at hl
    cases hl
    have := nbeq hn
    subst this
    refine ⟨fun h => h, _, _, _, hW, rfl, fun j v hv => ?_, fun j hj => ?_⟩
    · match j with
      | 0 => simp only [List.getElem?_cons_zero, Option.some.injEq] at hv; subst hv; exact rw_
      | j + 1 => simp at hv
    · match j, hj with
      | 0, _ => exact rw_.oneCell
      | j + 1, hj => simp at hj
  | false =>
    rw [hn, cond_false] at hl
    cases hn1 : Nat.beq n 1 with
    | true =>
      rw [hn1, cond_true] at hl
      cases hl
      have := nbeq hn1
      subst this
      refine ⟨fun h => h, _, _, _, hR, rfl, fun j v hv => ?_, fun j hj => ?_⟩
      · match j with
        | 0 => simp only [List.getElem?_cons_zero, Option.some.injEq] at hv; subst hv; exact rr
        | j + 1 => simp at hv
      · match j, hj with
        | 0, _ => exact rr.oneCell
        | j + 1, hj => simp at hj
    | false => rw [hn1, cond_false] at hl; cases hl
section
open PE PF
theorem types_of {xs : List (List IV)} (h : ∀ x ∈ xs, ∃ vs, KRep [.int .i32, .bool, .int .u8] x vs) : okT xs := by
  have : ∃ L : List Ty, xs = L.map cellsT ∧ ∀ t ∈ L, okTy t := by
    induction xs with
    | nil => exact ⟨[], rfl, fun t h => by cases h⟩
    | cons x xs ih =>
      obtain ⟨L, rfl, hL⟩ := ih fun y hy => h y (by simp [hy])
      obtain ⟨vs, hx⟩ := h x (by simp)
      obtain ⟨o, is1, vs1, e1, e2, ho, hx1⟩ := hx.cons_int
      obtain ⟨d, is2, vs2, e3, e4, hx2⟩ := hx1.cons_bool
      obtain ⟨g, is3, vs3, e5, e6, hg, hx3⟩ := hx2.cons_int
      obtain ⟨e7, e8⟩ := hx3.end
      subst e7 e8 e5 e6 e3 e4 e1 e2
      have ho' : (-2147483648 : Int) ≤ o ∧ o ≤ 2147483647 := ho
      have hg' : (0 : Int) ≤ g ∧ g ≤ 255 := hg
      exact ⟨⟨o, d, g⟩ :: L, rfl, fun t ht => by
        rcases List.mem_cons.1 ht with rfl | ht
        · exact ⟨ho'.1, ho'.2, hg'.1, hg'.2⟩
        · exact hL t ht⟩
  obtain ⟨L, rfl, hL⟩ := this
  have e : tys (L.map cellsT) = L := by
    simp only [tys, List.map_map]
    conv => rhs; rw [← List.map_id L]
    exact List.map_congr_left fun t _ => rfl
  exact ⟨by rw [e], by rw [e]; exact hL⟩
theorem leaps_of {xs : List (List IV)} (h : ∀ x ∈ xs, ∃ vs, KRep [.int .i64, .int .i32] x vs) : okL xs := by
  have : ∃ L : List Lp, xs = L.map cellsL ∧ ∀ t ∈ L, okLp t := by
    induction xs with
    | nil => exact ⟨[], rfl, fun t h => by cases h⟩
    | cons x xs ih =>
      obtain ⟨L, rfl, hL⟩ := ih fun y hy => h y (by simp [hy])
      obtain ⟨vs, hx⟩ := h x (by simp)
      obtain ⟨o, is1, vs1, e1, e2, ho, hx1⟩ := hx.cons_int
      obtain ⟨g, is3, vs3, e5, e6, hg, hx3⟩ := hx1.cons_int
      obtain ⟨e7, e8⟩ := hx3.end
      subst e7 e8 e5 e6 e1 e2
      have ho' : (-9223372036854775808 : Int) ≤ o ∧ o ≤ 9223372036854775807 := ho
      have hg' : (-2147483648 : Int) ≤ g ∧ g ≤ 2147483647 := hg
      exact ⟨⟨o, g⟩ :: L, rfl, fun t ht => by
        rcases List.mem_cons.1 ht with rfl | ht
        · exact ⟨ho'.1, ho'.2, hg'.1, hg'.2⟩
        · exact hL t ht⟩
  obtain ⟨L, rfl, hL⟩ := this
  have e : lps (L.map cellsL) = L := by
    simp only [lps, List.map_map]
    conv => rhs; rw [← List.map_id L]
    exact List.map_congr_left fun t _ => rfl
  exact ⟨by rw [e], by rw [e]; exact hL⟩
end
theorem door_met (os : Os) (args : Array Value) : laidMetH Tryd.prog YtmhnajhokkieoaaDoor.Rows.downgradeKeepsDataRow.laid ((World.doorLaid Tryd.prog 600 os).forCall (fun _ _ => 0) ⟨#[], args, []⟩).memory :=
  laidMetH_of_parts3 (fuel := 8) (laidMet_of_run' 8 (by kernel_rfl) (by kernel_rfl)) (by kernel_rfl) (by kernel_rfl)
end Q6
namespace Q6
open Go Go.AE Go.Proofs
noncomputable section
def av1 {α : Type} (n : Int) (x y : α) : α := bif n == 1 then x else y
def sAct8 : List AV → Option (List Prop × List AV)
  | [.agg [.imm (.int .i64 n), .imm (.ints .i64 T), .imm (.bytes I), .imm (.sl 3 X), .imm (.bytes C), .imm (.sl 2 L), .imm (.bools S), .imm (.bools U), .imm (.ints .i64 T'), .imm (.bytes I'), .imm (.sl 3 X'), .imm (.bytes C'), .imm (.sl 2 L'), .imm (.bools S'), .imm (.bools U'), .imm (.str f)]] => some ([], [.agg [.imm (.ints .i64 (av1 n T T')), .imm (.bytes (av1 n I I')), .imm (.sl 3 (av1 n X X')), .imm (.bytes (av1 n C C')), .imm (.sl 2 (av1 n L L')), .imm (.bools (av1 n S S')), .imm (.bools (av1 n U U'))]])
  | _ => none
def sNe7 : List AV → Option (List Prop × List AV)
  | [.imm (.sl 2 xs)] => some ([PF.okL xs, (xs.length : Int) ≤ 1000000], [bo6 (!PF.lvV (PF.lps xs) 3 && PF.lvV (PF.lps xs) 4)])
  | _ => none
def H16 := addE (addE H15 7 sNe7) 8 sAct8
def V7 : Cx := ⟨Tryd.prog, B1, noCall, G6, 4003⟩
def V3M : Cx := ⟨Tryd.prog, H16, noCall, G6, 44007⟩
end
end Q6
set_option maxRecDepth 100000
namespace Q6
open Go Go.AE Go.Proofs PE PF
attribute [local irreducible] loopK evCode evSpec loopB norm
theorem g7_in (xs : List (List IV)) (K : List AV → Prop) : evSpec V7 Tryd.f7 [.imm (.sl 2 xs)] K = (PF.okL xs ∧ (xs.length : Int) ≤ 1000000 ∧ ((!PF.lvV (PF.lps xs) (3 : Int)) = true → PF.okL xs) ∧ ((!PF.lvV (PF.lps xs) (3 : Int)) = true → (xs.length : Int) ≤ 1000000) ∧ K [bo (!PF.lvV (PF.lps xs) (3 : Int) && PF.lvV (PF.lps xs) (4 : Int))]) := by kernel_rfl
theorem g8_in (n : Int) (T : List Int) (I : List UInt8) (X : List (List IV)) (C : List UInt8) (L : List (List IV)) (S : List Bool) (U : List Bool) (T' : List Int) (I' : List UInt8) (X' : List (List IV)) (C' : List UInt8) (L' : List (List IV)) (S' : List Bool) (U' : List Bool) (f : List UInt8) (K : List AV → Prop) : evSpec V7 Tryd.f8 [.agg (fil n T I X C L S U T' I' X' C' L' S' U' f)] K = (brn (n == 1) (K [.agg [.imm (.ints IntKind.i64 T), by' I, .imm (.sl 3 X), by' C, .imm (.sl 2 L), .imm (.bools S), .imm (.bools U)]]) (K [.agg [.imm (.ints IntKind.i64 T'), by' I', .imm (.sl 3 X'), by' C', .imm (.sl 2 L'), .imm (.bools S'), .imm (.bools U')]])) := by kernel_rfl
theorem g3_in (n : Int) (T : List Int) (I : List UInt8) (X : List (List IV)) (C : List UInt8) (L : List (List IV)) (S : List Bool) (U : List Bool) (T' : List Int) (I' : List UInt8) (X' : List (List IV)) (C' : List UInt8) (L' : List (List IV)) (S' : List Bool) (U' : List Bool) (f : List UInt8) (K : List AV → Prop) : evSpec V3M Tryd.f3 [.agg (fil n T I X C L S U T' I' X' C' L' S' U' f)] K = (let E1 : Prop := ((sm (St.mk (lapp [.agg [i64 n, .imm (.ints IntKind.i64 T), by' I, .imm (.sl 3 X), by' C, .imm (.sl 2 L), .imm (.bools S), .imm (.bools U), .imm (.ints IntKind.i64 T'), by' I', .imm (.sl 3 X'), by' C', .imm (.sl 2 L'), .imm (.bools S'), .imm (.bools U'), .imm (.str f)], .ptr 0 0, bo (exV n (1 : Int) L L' f == exV n (2 : Int) L L' f), bo (!PF.lvV (PF.lps (av1 n L L')) (3 : Int) && PF.lvV (PF.lps (av1 n L L')) (4 : Int)), i64 4, .ptr 1 0, i64 (toE (toC n (3 : Int) L L' f))] (lapp (dN 66) [.agg [i64 n, .imm (.ints IntKind.i64 T), by' I, .imm (.sl 3 X), by' C, .imm (.sl 2 L), .imm (.bools S), .imm (.bools U), .imm (.ints IntKind.i64 T'), by' I', .imm (.sl 3 X'), by' C', .imm (.sl 2 L'), .imm (.bools S'), .imm (.bools U'), .imm (.str f)], bo (exV n (1 : Int) L L' f), .agg [i64 n, .imm
 (.ints IntKind.i64 T), by' I, .imm (.sl 3 X), by' C, .imm (.sl 2 L), .imm (.bools S), .imm (.bools U), .imm (.ints IntKind.i64 T'), by' I', .imm (.sl 3 X'), by' C', .imm (.sl 2 L'), .imm (.bools S'), .imm (.bools U'), .imm (.str f)], bo (exV n (2 : Int) L L' f), bo (exV n (1 : Int) L L' f == exV n (2 : Int) L L' f)])) [(0, Ob.mk true 0 (AObj.cells [i64 n, .imm (.ints IntKind.i64 T), by' I, .imm (.sl 3 X), by' C, .imm (.sl 2 L), .imm (.bools S), .imm (.bools U), .imm (.ints IntKind.i64 T'), by' I', .imm (.sl 3 X'), by' C', .imm (.sl 2 L'), .imm (.bools S'), .imm (.bools U'), .imm (.str f)])), (1, Ob.mk true 0 (AObj.cells [i64 (p5 (toC n (3 : Int) L L' f) (0 : Int) n (3 : Int) (3 : Int)), .imm (.ints IntKind.i64 (p5 (toC n (3 : Int) L L' f) [] T (vT (av n T T')) [])), by' (p5 (toC n (3 : Int) L L' f) [] I (List.map (renB (vK (av n T T') (av n I I'))) (vJ (av n T T') (av n I I'))) []), .imm (.sl 3 (p5 (toC n (3 : Int) L L' f) [] X (sw (av n X X') [] (vK (av n T T') (av n I I'))) [[IV.int IntKind.i32 (0 : Int), IV.bool false, IV.int .u8 0]])), by' (p5 (toC n (3 : Int) L L' f) [] C (av n C C') [(0 : UInt8)]), .imm (.sl 2 (p5 (toC n (3 : Int) L L' f) [] L (List.filter isLow (av n L L'))
 [])), .imm (.bools (p5 (toC n (3 : Int) L L' f) [] S (sw (av n S S') false (vK (av n T T') (av n I I'))) [])), .imm (.bools (p5 (toC n (3 : Int) L L' f) [] U (sw (av n U U') false (vK (av n T T') (av n I I'))) [])), .imm (.ints IntKind.i64 (p5 (toC n (3 : Int) L L' f) [] T' [] (av n T T'))), by' (p5 (toC n (3 : Int) L L' f) [] I' [] (av n I I')), .imm (.sl 3 (p5 (toC n (3 : Int) L L' f) [] X' [] (av n X X'))), by' (p5 (toC n (3 : Int) L L' f) [] C' [] (av n C C')), .imm (.sl 2 (p5 (toC n (3 : Int) L L' f) [] L' [] (av n L L'))), .imm (.bools (p5 (toC n (3 : Int) L L' f) [] S' [] (av n S S'))), .imm (.bools (p5 (toC n (3 : Int) L L' f) [] U' [] (av n U U'))), .imm (.str (p5 (toC n (3 : Int) L L' f) [] f [] f))]))] 2 []))); ((!true) = false → okXL X L) ∧ ((!true) = false → okXL X' L') ∧ brn (!true || !vaV n T I X C L S U T' I' X' C' L' S' U' f) (K [bo true]) (PF.okL (av1 n L L') ∧ (↑(av1 n L L').length : Int) ≤ 1000000 ∧ Q6.okE n T I X C L S U T' I' X' C' L' S' U' f ∧ ((!exV n n L L' f && decide (n > 1)) = false → Q6.okE n T I X C L S U T' I' X' C' L' S' U' f) ∧ ((!exV n n L L' f && decide (n > 1) || !exV n (4 : Int) L L' f) = false → Q6.okE n T I X C L S U T' I' X' C' L' S' U' f) ∧
 brn (!exV n n L L' f && decide (n > 1) || !exV n (4 : Int) L L' f || !exV n (3 : Int) L L' f == !(!PF.lvV (PF.lps (av1 n L L')) (3 : Int) && PF.lvV (PF.lps (av1 n L L')) (4 : Int))) (K [bo false]) (Q6.okE n T I X C L S U T' I' X' C' L' S' U' f ∧ (exV n (1 : Int) L L' f = true → Q6.okE n T I X C L S U T' I' X' C' L' S' U' f) ∧ brn (exV n (1 : Int) L L' f && !exV n (IntKind.wrap .i64 ((1 : Int) + 1)) L L' f) (K [bo false]) (okTo n T I X C L S U T' I' X' C' L' S' U' f (1 : Int) ∧ (decide (n ≤ 1) = false → Q6.okE n T I X C L S U T' I' X' C' L' S' U' f) ∧ brn (!(toE (toC n (1 : Int) L L' f) == 0) == (decide (n ≤ 1) || exV n (1 : Int) L L' f)) (K [bo false]) (Q6.okE n T I X C L S U T' I' X' C' L' S' U' f ∧ (exV n (2 : Int) L L' f = true → Q6.okE n T I X C L S U T' I' X' C' L' S' U' f) ∧ brn (exV n (2 : Int) L L' f && !exV n (IntKind.wrap .i64 ((2 : Int) + 1)) L L' f) (K [bo false]) (okTo n T I X C L S U T' I' X' C' L' S' U' f (2 : Int) ∧ (decide (n ≤ 2) = false → Q6.okE n T I X C L S U T' I' X' C' L' S' U' f) ∧ brn (!(toE (toC n (2 : Int) L L' f) == 0) == (decide (n ≤ 2) || exV n (2 : Int) L L' f)) (K [bo false]) (Q6.okE n T I X C L S U T' I' X' C' L' S' U' f ∧ (exV n (3 : Int) L L' f =
 true → Q6.okE n T I X C L S U T' I' X' C' L' S' U' f) ∧ brn (exV n (3 : Int) L L' f && !exV n (IntKind.wrap .i64 ((3 : Int) + 1)) L L' f) (K [bo false]) (okTo n T I X C L S U T' I' X' C' L' S' U' f (3 : Int) ∧ (decide (n ≤ 3) = false → Q6.okE n T I X C L S U T' I' X' C' L' S' U' f) ∧ brn (!(toE (toC n (3 : Int) L L' f) == 0) == (decide (n ≤ 3) || exV n (3 : Int) L L' f)) (K [bo false]) ((Q6.okE n T I X C L S U T' I' X' C' L' S' U' f ∧ Q6.okE n T I X C L S U T' I' X' C' L' S' U' f ∧ E1) ∧ K [bo (exV n (1 : Int) L L' f == exV n (2 : Int) L L' f)]))))))))) := by kernel_rfl
theorem ok7 : ∀ args pres res, sNe7 args = some (pres, res) → SpecOK Tryd.prog G6 7 args pres res := by
  intro args pres res h
  unfold sNe7 at h
  split at h
  case h_2 => cases h
  cases h
  rename_i xs
  refine spec_ok (C := V7) okH13b noCall_ok Tryd.func7 (by kernel_rfl) (by kernel_rfl) (fun hp => ?_)
  have h1 : PF.okL xs := hp (PF.okL xs) (by simp)
  have h2 : (xs.length : Int) ≤ 1000000 := hp ((xs.length : Int) ≤ 1000000) (by simp)
  exact Eq.mpr (g7_in xs _) ⟨h1, h2, fun _ => h1, fun _ => h2, rfl⟩
theorem ok8 : ∀ args pres res, sAct8 args = some (pres, res) → SpecOK Tryd.prog G6 8 args pres res := by
  intro args pres res h
  unfold sAct8 at h
  split at h
  case h_2 => cases h
  cases h
  rename_i n T I X C L S U T' I' X' C' L' S' U' f
  refine spec_ok (C := V7) okH13b noCall_ok Tryd.func8 (by kernel_rfl) (by kernel_rfl) (fun hp => ?_)
  refine Eq.mpr (g8_in n T I X C L S U T' I' X' C' L' S' U' f _) ?_
  unfold av1
  exact brn_intro (fun h => by rw [h]; rfl) (fun h => by rw [h]; rfl)
theorem okH16 : EOK Tryd.prog H16 G6 := addE_ok (addE_ok okH15 ok7) ok8
theorem gd_eq {xs : List (List IV)} (h : okL xs) (hl : (xs.length : Int) ≤ 1000000) (n : Int) (i : Nat) (hi : i < xs.length) : gdL (lps xs) n i = (ru1 xs i && ru2 xs i n && ru3 xs i n) := by
  obtain ⟨e, ho⟩ := h
  have hc : IntKind.wrap .i64 (cL xs i) = cL xs i := by
    have hk' : i < (lps xs).length := by unfold lps; rw [List.length_map]; exact hi
    have : okLp (lps xs)[i] := ho _ (List.getElem_mem hk')
    obtain ⟨_, _, c1, c2⟩ := this
    have hx : cL xs i = ((lps xs)[i]).c := by
      have h2 : (lps xs)[i] = lpOf xs[i] := List.getElem_map (f := lpOf)
      rw [h2]
      unfold cL
      rw [Int.toNat_natCast, List.getD_eq_getElem?_getD, List.getElem?_eq_getElem hi, Option.getD_some]
      first | done | rfl
    rw [hx]
    exact wrap64 (by omega) (by omega)
  have hg : gdL (lps xs) n i = bif ((i : Int) == (0 : Int)) then !(decide (aL xs 0 < 0) || decide (n < 4) && IntKind.wrap .i64 (cL xs i) != 1 && IntKind.wrap .i64 (cL xs i) != -1)
      else !decide (aL xs i < aL xs (i - 1)) && (!decide (IntKind.wrap .i64 (aL xs i - aL xs (i - 1)) < 2419199) && !(stL xs i != 1 && stL xs i != -1 && (stL xs i != 0 || decide (n < 4) || !((i : Int) == IntKind.wrap .i64 ((xs.length : Int) - 1))))) := by
    unfold gdL
    rw [← e]
    first | done | rfl
  rw [hg, hc, wrap64 (n := (xs.length : Int) - 1) (by omega) (by omega)]
  unfold ru1 ru2 ru3
  cases hz : ((i : Int) == (0 : Int)) with
  | true =>
    have h0 : i = 0 := by simpa using hz
    subst h0
    simp only [cond_true]
    show (!(decide (aL xs 0 < 0) || decide (n < 4) && cL xs 0 != 1 && cL xs 0 != -1)) = (decide (aL xs 0 ≥ 0) && (decide ((0 : Int) > 0) || decide (n ≥ 4) || cL xs 0 == 1 || cL xs 0 == -1) && (true || _))
    generalize aL xs 0 = a
    generalize cL xs 0 = c
    rw [Bool.true_or, Bool.and_true, Bool.eq_iff_iff]
    simp only [Bool.not_eq_true', Bool.or_eq_false_iff, Bool.and_eq_false_iff, decide_eq_false_iff_not, bne_eq_false_iff_eq, Bool.and_eq_true, Bool.or_eq_true, decide_eq_true_eq, beq_iff_eq]
    omega
  | false =>
    have h0 : ¬ (i : Int) = 0 := by simpa using hz
    simp only [cond_false, Bool.false_or]
    have hp : decide ((i : Int) > 0) = true := decide_eq_true (by omega)
    rw [hp]
    generalize aL xs i = a
    generalize aL xs (i - 1) = b
    generalize stL xs i = c
    generalize IntKind.wrap .i64 (a - b) = d
    rw [Bool.eq_iff_iff]
    simp only [Bool.true_or, Bool.and_true, Bool.not_eq_true', Bool.or_eq_false_iff, Bool.and_eq_false_iff, decide_eq_false_iff_not, bne_eq_false_iff_eq, Bool.and_eq_true, Bool.or_eq_true, decide_eq_true_eq, beq_iff_eq, bne_iff_ne, Bool.not_eq_false']
    omega
theorem all_same {f g : Nat → Bool} (n : Nat) (h : ∀ i, i < n → f i = g i) : (List.range n).all f = (List.range n).all g := by
  rw [Bool.eq_iff_iff, List.all_eq_true, List.all_eq_true]
  exact ⟨fun H i hi => by rw [← h i (List.mem_range.1 hi)]; exact H i hi, fun H i hi => by rw [h i (List.mem_range.1 hi)]; exact H i hi⟩
theorem lv_eq {xs : List (List IV)} (h : okL xs) (hl : (xs.length : Int) ≤ 1000000) (n : Int) : lvV (lps xs) n = lvA xs n := by
  have hlen : (lps xs).length = xs.length := by unfold lps; rw [List.length_map]
  rw [lvV_eq n (by rw [hlen]; exact hl)]
  unfold lvC lvA
  rw [hlen]
  exact all_same _ (fun i hi => gd_eq h hl n i hi)
theorem lvA_23 (xs : List (List IV)) : lvA xs 2 = lvA xs 3 := by
  unfold lvA
  exact all_same _ (fun i _ => rfl)
theorem f3_ev (n : Int) (T : List Int) (I : List UInt8) (X : List (List IV)) (C : List UInt8) (L : List (List IV)) (S U : List Bool) (T' : List Int) (I' : List UInt8) (X' : List (List IV)) (C' : List UInt8) (L' : List (List IV)) (S' U' : List Bool) (f : List UInt8)
    (h1 : okXL X L) (h2 : okXL X' L') (K : List AV → Prop) (hK : K [bo6 true]) : evSpec V3M Tryd.f3 [.agg (fil n T I X C L S U T' I' X' C' L' S' U' f)] K := by
  rw [g3_in]
  intro E1
  have hE1 : E1 := rfl
  clear_value E1
  refine ⟨fun _ => h1, fun _ => h2, brn_intro (fun _ => hK) (fun hv => ?_)⟩
  simp only [Bool.not_true, Bool.false_or, Bool.not_eq_false'] at hv
  unfold vaV at hv
  simp only [Bool.and_eq_true, beq_iff_eq] at hv
  obtain ⟨hf, h0⟩ := hv
  unfold fewF at hf
  simp only [Bool.and_eq_true, decide_eq_true_eq] at hf
  obtain ⟨⟨f1, f2⟩, f3⟩ := hf
  obtain ⟨l1, l2, l3, l4, l5, l6, l7⟩ := few_lens f2
  have hfi : okFi n T I X C L S U T' I' X' C' L' S' U' f := ⟨okBp_few f1 h1, okBp_few f2 h2, by omega, by omega⟩
  obtain ⟨n1, n4, hb1, _, hb2⟩ := (fi_ev n T I X C L S U T' I' X' C' L' S' U' f hfi).1 h0
  have hav1 : n < 2 → ∀ {α : Type} (x y : α), av n x y = x := fun h _ x y => by unfold av; rw [decide_eq_true h]; first | done | rfl
  have hav : ¬ n < 2 → ∀ {α : Type} (x y : α), av n x y = y := fun h _ x y => by unfold av; rw [decide_eq_false h]; first | done | rfl
  have hA : av1 n L L' = av n L L' := by
    unfold av1 av
    have : (n == 1) = decide (n < 2) := by rw [Bool.eq_iff_iff]; simp only [beq_iff_eq, decide_eq_true_eq]; omega
    rw [this]
  have hx : okL (av n L L') ∧ ((av n L L').length : Int) ≤ 1000000 := by
    by_cases h : n < 2
    · rw [hav1 h]; exact ⟨h1.l, by have := (few_lens f1).2.2.2.2.1; omega⟩
    · rw [hav h]; exact ⟨h2.l, by omega⟩
  have hoE : Q6.okE n T I X C L S U T' I' X' C' L' S' U' f := ⟨okX_of hx.1 (by omega), by omega⟩
  have hTo : ∀ v, okTo n T I X C L S U T' I' X' C' L' S' U' f v := by
    refine fun v => ⟨hoE, fun _ hn => ?_⟩
    have hn2 : ¬ n < 2 := by omega
    obtain ⟨q1, q2, _, _⟩ := hb2 (by omega)
    simp only [hav hn2]
    exact okV_of f2 h2 q2 q1.1
  have hlv := lv_eq hx.1 hx.2
  have x4 : exV n 4 L L' f = true := rfl
  have x3 : exV n 3 L L' f = !neV (av n L L') := rfl
  have x12 : exV n 1 L L' f = exV n 2 L L' f := rfl
  have x23 : exV n 2 L L' f = true → exV n 3 L L' f = true := by
    unfold exV
    intro h
    cases hc : (decide ((2 : Int) < 3) && P9.whyP f == 0 && extP f) with
    | true => rw [hc, cond_true] at h; cases h
    | false => rw [hc] at h; exact h
  have xn : (!exV n n L L' f && decide (n > 1)) = false := by
    by_cases hn : n > 1
    · obtain ⟨_, _, q3, q4⟩ := hb2 (by omega)
      have hne : n ≠ 4 → neV (av n L L') = false := by
        intro hn4
        have hl3 : lvA (av n L L') 3 = true := by
          have := hlv n
          rw [hav (by omega)] at this
          rw [this] at q3
          rw [hav (by omega)]
          by_cases h2n : n = 2
          · rw [h2n, lvA_23] at q3; exact q3
          · rw [show n = 3 by omega] at q3; exact q3
        unfold neV
        rw [hl3]; simp
      have : exV n n L L' f = true := by
        by_cases hn4 : n = 4
        · rw [hn4]; first | done | rfl
        · have he : (decide (n < 3) && P9.whyP f == 0 && extP f) = false := by
            by_cases h2n : n = 2
            · rcases q4 with rfl | ⟨_, q4⟩
              · have : extP [] = false := by kernel_rfl
                rw [this, Bool.and_false]
              · have : extP f = false := q4 h2n
                rw [this, Bool.and_false]
            · rw [decide_eq_false (show ¬ n < 3 by omega)]; first | done | rfl
          unfold exV
          rw [he, hne hn4]
          simp
      rw [this]; first | done | rfl
    · rw [decide_eq_false hn, Bool.and_false]
  have ht : ∀ v, 1 ≤ v → v ≤ 4 → (!(toE (toC n v L L' f) == (0 : Int)) == (decide (n ≤ v) || exV n v L L' f)) = false := by
    intro v v1 v4
    unfold toC
    rw [decide_eq_false (show ¬ v < 1 by omega), decide_eq_false (show ¬ v > 4 by omega)]
    cases decide (n ≤ v) <;> cases exV n v L L' f <;> cases (v == 1) <;> rfl
  have w1 : IntKind.wrap .i64 ((1 : Int) + 1) = 2 := rfl
  have w2 : IntKind.wrap .i64 ((2 : Int) + 1) = 3 := rfl
  have w3 : IntKind.wrap .i64 ((3 : Int) + 1) = 4 := rfl
  rw [hA, hlv 3, hlv 4, w1, w2, w3]
  refine ⟨hx.1, hx.2, hoE, fun _ => hoE, fun _ => hoE, brn_Fa ?_ ⟨hoE, fun _ => hoE, brn_Fa ?_ ⟨hTo 1, fun _ => hoE, brn_Fa (ht 1 (by decide) (by decide)) ⟨hoE, fun _ => hoE, brn_Fa ?_ ⟨hTo 2, fun _ => hoE, brn_Fa (ht 2 (by decide) (by decide))
    ⟨hoE, fun _ => hoE, brn_Fa ?_ ⟨hTo 3, fun _ => hoE, brn_Fa (ht 3 (by decide) (by decide)) ⟨⟨hoE, hoE, hE1⟩, ?_⟩⟩⟩⟩⟩⟩⟩⟩
  · rw [xn, x4, x3]
    unfold neV
    cases lvA (av n L L') 4 <;> cases lvA (av n L L') 3 <;> rfl
  · rw [x12]; cases exV n 2 L L' f <;> rfl
  · cases h : exV n 2 L L' f with
    | true => rw [x23 h]; first | done | rfl
    | false => rfl
  · rw [x4]; cases exV n 3 L L' f <;> rfl
  · rw [x12]
    have : (exV n 2 L L' f == exV n 2 L L' f) = true := by cases exV n 2 L L' f <;> rfl
    rw [this]; exact hK
end Q6
namespace Go.Proofs.YtmhnajhokkieoaaDoor
open Go Go.AE Go.Proofs Q6
open Go.ChangeShapes Go.WideShapes Go.ChangeAt Go.RowKit Go.ChangeMaps
attribute [local irreducible] loopK evCode evSpec loopB norm evFunc
theorem Tryd.own : ownKnob Tryd.prog.godebug = none := by kernel_rfl
set_option maxRecDepth 100000 in
theorem f3_lifted (os : Os) (started : os.Started) (H : Type) (enc : TypeId × Value → H) :
    ReturnsInHanded {} Tryd.checked os 3 .any (fun w args => (Rows.downgradeInexpressibleSpec.pre enc Tryd.prog Tryd.f3 [] false w args ∧ laidMetH Tryd.prog Rows.downgradeKeepsDataRow.laid w) ∧ sizedMet enc Tryd.prog Tryd.f3 (OpenSpec.ofChange Rows.downgradeInexpressibleSpec) false w args)
      (Rows.downgradeInexpressibleSpec.post enc Tryd.prog Tryd.f3 false true false false) := by
  refine returnsInHanded_of_change_and (C := Tryd.checked) (X := fun w _ => laidMetH Tryd.prog Rows.downgradeKeepsDataRow.laid w) (fun _ _ _ hh h => h.of_heap hh) Tryd.own started (by kernel_rfl) Tryd.func3
    (ChangeSpec.witness_shaped (enc := enc) (C := Tryd.checked) (os := os) (X := fun w _ => laidMetH Tryd.prog Rows.downgradeKeepsDataRow.laid w) false (World.doorLaid Tryd.prog 600 os) #[.agg #[.int .i64 0, .slice none 0 0, .slice none 0 0, .slice none 0 0, .slice none 0 0, .slice none 0 0, .slice none 0 0, .slice none 0 0, .slice none 0 0, .slice none 0 0, .slice none 0 0, .slice none 0 0, .slice none 0 0, .slice none 0 0, .slice none 0 0, .string ⟨#[]⟩]] 8 rfl (World.shaped_of_RefB (by kernel_rfl) (by kernel_rfl)) (by kernel_rfl) (by kernel_rfl) (by kernel_rfl) (door_met os _)) ?_
  intro W base args ds gs before hval0 hW _ hsz hL _
  obtain ⟨l⟩ := args
  have hval : ∀ (j : Nat) t v, Tryd.f3.params[j]? = some t → l[j]? = some v → Value.okWide Tryd.prog W .any base t v := fun j t v h1 h2 => hval0 j t v h1 (by simpa using h2)
  have hW' := hW
  obtain ⟨p, q, hB, hV, rfl, hfz, hnd⟩ := hW
  obtain ⟨rfl, rfl⟩ := trodVars_none hV
  have hA0 : DataW.TrodAll enc Tryd.prog W 0 (fun _ => true) true [30] l ds p := by have h := hB; rw [Tryd.params3] at h; exact h
  rw [Tryd.params3] at hval
  clear hB hval0
  obtain ⟨v0, l, d0, ds, p0, p, rfl, rfl, h0, hA1, rfl⟩ := all_cons hA0
  obtain ⟨rfl, rfl, rfl⟩ := all_nil hA1
  obtain ⟨l0, rfl, M0⟩ := open_mix Tryd.underlying30 (by kernel_rfl : mixK Tryd.prog 40 30 = some [(3, .ck (.int .i64)), (22, .sl [.int .i64]), (23, .sl [.int .u8]), (24, .sl [(.int .i32), .bool, (.int .u8)]), (23, .sl [.int .u8]), (25, .sl [(.int .i64), (.int .i32)]), (26, .sl [.bool]), (26, .sl [.bool]), (22, .sl [.int .i64]), (23, .sl [.int .u8]), (24, .sl [(.int .i32), .bool, (.int .u8)]), (23, .sl [.int .u8]), (25, .sl [(.int .i64), (.int .i32)]), (26, .sl [.bool]), (26, .sl [.bool]), (9, .ck .str)]) (by kernel_rfl) (by kernel_rfl) (hval 0 30 v0 rfl rfl) h0 (weights_arg hsz (j := 0) (by rw [Tryd.params3]; rfl) rfl)
  obtain ⟨u0a, l0, rfl, c0a, M0⟩ := mall_cons M0
  obtain ⟨x0a, g0a, r0a⟩ := c0a.int
  obtain ⟨u0b, l0, rfl, c0b, M0⟩ := mall_cons M0
  obtain ⟨x0b, g0b, s0b, r0b⟩ := c0b.ints
  obtain ⟨u0c, l0, rfl, c0c, M0⟩ := mall_cons M0
  obtain ⟨x0c, s0c, r0c⟩ := c0c.bytes
  obtain ⟨u0d, l0, rfl, c0d, M0⟩ := mall_cons M0
  obtain ⟨x0d, k0d, s0d, r0d⟩ := MOk.structs rfl c0d
  have o0d := types_of k0d
  obtain ⟨u0e, l0, rfl, c0e, M0⟩ := mall_cons M0
  obtain ⟨x0e, s0e, r0e⟩ := c0e.bytes
  obtain ⟨u0f, l0, rfl, c0f, M0⟩ := mall_cons M0
  obtain ⟨x0f, k0f, s0f, r0f⟩ := MOk.structs rfl c0f
  have o0f := leaps_of k0f
  obtain ⟨u0g, l0, rfl, c0g, M0⟩ := mall_cons M0
  obtain ⟨x0g, s0g, r0g⟩ := c0g.bools
  obtain ⟨u0h, l0, rfl, c0h, M0⟩ := mall_cons M0
  obtain ⟨x0h, s0h, r0h⟩ := c0h.bools
  obtain ⟨u0i, l0, rfl, c0i, M0⟩ := mall_cons M0
  obtain ⟨x0i, g0i, s0i, r0i⟩ := c0i.ints
  obtain ⟨u0j, l0, rfl, c0j, M0⟩ := mall_cons M0
  obtain ⟨x0j, s0j, r0j⟩ := c0j.bytes
  obtain ⟨u0k, l0, rfl, c0k, M0⟩ := mall_cons M0
  obtain ⟨x0k, k0k, s0k, r0k⟩ := MOk.structs rfl c0k
  have o0k := types_of k0k
  obtain ⟨u0l, l0, rfl, c0l, M0⟩ := mall_cons M0
  obtain ⟨x0l, s0l, r0l⟩ := c0l.bytes
  obtain ⟨u0m, l0, rfl, c0m, M0⟩ := mall_cons M0
  obtain ⟨x0m, k0m, s0m, r0m⟩ := MOk.structs rfl c0m
  have o0m := leaps_of k0m
  obtain ⟨u0n, l0, rfl, c0n, M0⟩ := mall_cons M0
  obtain ⟨x0n, s0n, r0n⟩ := c0n.bools
  obtain ⟨u0o, l0, rfl, c0o, M0⟩ := mall_cons M0
  obtain ⟨x0o, s0o, r0o⟩ := c0o.bools
  obtain ⟨u0p, l0, rfl, c0p, M0⟩ := mall_cons M0
  obtain ⟨x0p, s0p, r0p⟩ := c0p.str
  obtain rfl := mall_nil M0
  have hspec : SpecOK Tryd.prog G6 3 [.agg [.imm (.int .i64 x0a), .imm (.ints .i64 x0b), .imm (.bytes x0c), .imm (.sl 3 x0d), .imm (.bytes x0e), .imm (.sl 2 x0f), .imm (.bools x0g), .imm (.bools x0h), .imm (.ints .i64 x0i), .imm (.bytes x0j), .imm (.sl 3 x0k), .imm (.bytes x0l), .imm (.sl 2 x0m), .imm (.bools x0n), .imm (.bools x0o), .imm (.str x0p)]] [] [.imm (.bool true)] := spec_ok (C := V3M) okH16 noCall_ok Tryd.func3 (by kernel_rfl) (by kernel_rfl) (fun _ => f3_ev x0a x0b x0c x0d x0e x0f x0g x0h x0i x0j x0k x0l x0m x0n x0o x0p ⟨o0d, o0f⟩ ⟨o0k, o0m⟩ _ rfl)
  refine (bool_calls hspec (fun p h => by cases h) W _ rfl (fun j c hc => ?_) (gok_of_laid hL)).mono fun e W' ⟨he, hw⟩ => ?_
  · match j with
    | 0 => simp only [List.getElem?_cons_zero, Option.some.injEq] at hc; subst hc; exact MIs.arep (is := [.int .i64 x0a, .ints .i64 x0b, .bytes x0c, .sl 3 x0d, .bytes x0e, .sl 2 x0f, .bools x0g, .bools x0h, .ints .i64 x0i, .bytes x0j, .sl 3 x0k, .bytes x0l, .sl 2 x0m, .bools x0n, .bools x0o, .str x0p]) (vs := [u0a, u0b, u0c, u0d, u0e, u0f, u0g, u0h, u0i, u0j, u0k, u0l, u0m, u0n, u0o, u0p]) ⟨r0a, r0b, r0c, r0d, r0e, r0f, r0g, r0h, r0i, r0j, r0k, r0l, r0m, r0n, r0o, r0p, trivial⟩
    | j + 1 => simp at hc
  subst he
  exact ⟨_, rfl, row_post hW' rfl (by kernel_rfl) (by kernel_rfl) rfl rfl Tryd.underlying4 hw⟩
theorem f3_row : Rows.DowngradeInexpressibleSaid :=
  OpenClaim.holds_of_wide 3 Tryd.f3 rfl rfl rfl rfl rfl rfl rfl ⟨rfl, rfl, rfl, rfl, rfl⟩ rfl rfl rfl rfl rfl (by kernel_rfl) Tryd.func3 (by kernel_rfl)
    (of_decide_eq_true (by kernel_rfl)) (by unfold Func.isWrapper; first | (rw [if_pos (by decide +kernel)]; kernel_rfl) | (rw [if_neg (by decide +kernel)]; exact ⟨rfl, rfl⟩))
    (fun os started H enc _ => f3_lifted os started H enc)
theorem f3_holds : Rows.DowngradeInexpressibleCardSaid :=
  Claim7.holds_tied_plain_at .later [] [.funcs, .funcs] true Rows.downgradeInexpressibleCard.stood.harness true
    f3_row (fun _ h => by cases h) (by kernel_rfl) (fun _ h => by cases h) downgradeInexpressible_row_tie rfl ⟨rfl, rfl⟩ (by kernel_rfl) rfl
    (fun f fn hf hfn => by
      obtain rfl : f = 3 := Option.some.inj ((show Tryd.prog.funcNamed "zoneinfo/zoneinfolaw26.DowngradeInexpressible" = some 3 by kernel_rfl).symm.trans hf) |>.symm
      obtain rfl : fn = Tryd.f3 := (Option.some.inj (Tryd.func3.symm.trans hfn)).symm
      exact ⟨by kernel_rfl, fun j t ht => by
        rw [Tryd.params3] at ht
        have hm : t ∈ [30] := by simpa using Array.mem_of_getElem? ht
        have hall : ([30].all fun u => !Tryd.prog.wantsStandIn u) = true := by kernel_rfl
        exact (show Tryd.prog.wantsStandIn t = false by simpa using List.all_eq_true.1 hall t hm)⟩)
    (by kernel_rfl)
end Go.Proofs.YtmhnajhokkieoaaDoor
