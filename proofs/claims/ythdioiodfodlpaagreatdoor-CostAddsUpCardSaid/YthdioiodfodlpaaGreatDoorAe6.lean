/- For all headers and byte slices the law CostAddsUp returns true and its arguments read as before. No further condition. -/
import Derived.Test.YthdioiodfodlpaaGreatDoorAe5
import Derived.KernelRfl
import Derived.ProofKit
import Derived.WideKeyArgs
import Derived.SizedLaws
import Derived.ChangeSlices
import Derived.Test.YthdioiodfodlpaaGreatDoorRows
import Derived.Test.YthdioiodfodlpaaGreatDoorTie
import Derived.Test.YthdioiodfodlpaaGreatDoorCards
import Derived.LaidMore
import Derived.LaidHandle
import Derived.LaidLaws
import Derived.OpenShut
import Derived.Stop.Joined
import Derived.SevenTiedAt
set_option linter.all false
set_option maxRecDepth 100000
namespace Y27
open Go Go.AE Go.Proofs E6
def isSlim (T : List Int) (I : List UInt8) (X : List (List IV)) (C : List UInt8) (L : List (List IV)) (S U : List Bool) : Bool := decide (T = []) && (decide (I = []) && (decide (tys X = [⟨0, false, 0⟩]) && (decide (C = [0]) && (decide (L.length = 0) && (decide (S = []) && decide (U = []))))))
def isZero (T : List Int) (I : List UInt8) (X : List (List IV)) (C : List UInt8) (L : List (List IV)) (S U : List Bool) : Bool := decide (T = []) && (decide (I = []) && (decide (X.length = 0) && (decide (C = []) && (decide (L.length = 0) && (decide (S = []) && decide (U = []))))))
def sSer : List AV → Option (List Prop × List AV)
  | [.agg [.imm (.int .i64 v), .imm (.ints .i64 T), .imm (.bytes I), .imm (.sl 3 X), .imm (.bytes C), .imm (.sl 2 L), .imm (.bools S), .imm (.bools U), .imm (.ints .i64 T'), .imm (.bytes I'), .imm (.sl 3 X'), .imm (.bytes C'), .imm (.sl 2 L'), .imm (.bools S'), .imm (.bools U'), .imm (.str f)]] =>
    bif decide (v = 1) && (isSlim T I X C L S U && (isZero T' I' X' C' L' S' U' && decide (f = []))) then some ([okT X], [.new (.bytes serOne), i64 0])
    else bif decide (v = 2) && (isSlim T I X C L S U && (isSlim T' I' X' C' L' S' U' && decide (f = [85, 84, 67, 48]))) then some ([okT X, okT X'], [.new (.bytes serTwo), i64 0]) else none
  | _ => none
def sAwake : List AV → Option (List Prop × List AV)
  | [] => some ([], [bo true])
  | _ => none
theorem slim_elim {T : List Int} {I : List UInt8} {X : List (List IV)} {C : List UInt8} {L : List (List IV)} {S U : List Bool} (h : isSlim T I X C L S U = true) (hX : okT X) : T = [] ∧ I = [] ∧ X = [[.int .i32 0, .bool false, .int .u8 0]] ∧ C = [0] ∧ L = [] ∧ S = [] ∧ U = [] := by
  unfold isSlim at h
  simp only [Bool.and_eq_true, decide_eq_true_eq] at h
  obtain ⟨h1, h2, h3, h4, h5, h6, h7⟩ := h
  refine ⟨h1, h2, ?_, h4, List.length_eq_zero_iff.1 h5, h6, h7⟩
  have := hX.1
  rw [h3] at this
  exact this
theorem zero_elim {T : List Int} {I : List UInt8} {X : List (List IV)} {C : List UInt8} {L : List (List IV)} {S U : List Bool} (h : isZero T I X C L S U = true) : T = [] ∧ I = [] ∧ X = [] ∧ C = [] ∧ L = [] ∧ S = [] ∧ U = [] := by
  unfold isZero at h
  simp only [Bool.and_eq_true, decide_eq_true_eq] at h
  obtain ⟨h1, h2, h3, h4, h5, h6, h7⟩ := h
  exact ⟨h1, h2, List.length_eq_zero_iff.1 h3, h4, List.length_eq_zero_iff.1 h5, h6, h7⟩
theorem IS_ok : ∀ f fn, IS f = some fn → Tryz.prog.funcs[f]? = some fn ∧ (fn.name == "runtime.NumGoroutine") = false := by
  intro f fn h
  unfold IS at h
  by_cases h19 : Nat.beq f 19 = true
  · rw [h19, cond_true] at h; cases h; obtain rfl := nbeq h19; exact ⟨Tryz.func19, by kernel_rfl⟩
  rw [Bool.eq_false_iff.2 h19, cond_false] at h
  by_cases h37 : Nat.beq f 37 = true
  · rw [h37, cond_true] at h; cases h; obtain rfl := nbeq h37; exact ⟨Tryz.func37, by kernel_rfl⟩
  rw [Bool.eq_false_iff.2 h37, cond_false] at h
  by_cases h39 : Nat.beq f 39 = true
  · rw [h39, cond_true] at h; cases h; obtain rfl := nbeq h39; exact ⟨Tryz.func39, by kernel_rfl⟩
  rw [Bool.eq_false_iff.2 h39, cond_false] at h
  by_cases h57 : Nat.beq f 57 = true
  · rw [h57, cond_true] at h; cases h; obtain rfl := nbeq h57; exact ⟨Tryz.func57, by kernel_rfl⟩
  rw [Bool.eq_false_iff.2 h57, cond_false] at h
  by_cases h58 : Nat.beq f 58 = true
  · rw [h58, cond_true] at h; cases h; obtain rfl := nbeq h58; exact ⟨Tryz.func58, by kernel_rfl⟩
  rw [Bool.eq_false_iff.2 h58, cond_false] at h
  by_cases h59 : Nat.beq f 59 = true
  · rw [h59, cond_true] at h; cases h; obtain rfl := nbeq h59; exact ⟨Tryz.func59, by kernel_rfl⟩
  rw [Bool.eq_false_iff.2 h59, cond_false] at h
  by_cases h60 : Nat.beq f 60 = true
  · rw [h60, cond_true] at h; cases h; obtain rfl := nbeq h60; exact ⟨Tryz.func60, by kernel_rfl⟩
  rw [Bool.eq_false_iff.2 h60, cond_false] at h
  by_cases h61 : Nat.beq f 61 = true
  · rw [h61, cond_true] at h; cases h; obtain rfl := nbeq h61; exact ⟨Tryz.func61, by kernel_rfl⟩
  rw [Bool.eq_false_iff.2 h61, cond_false] at h
  by_cases h67 : Nat.beq f 67 = true
  · rw [h67, cond_true] at h; cases h; obtain rfl := nbeq h67; exact ⟨Tryz.func67, by kernel_rfl⟩
  rw [Bool.eq_false_iff.2 h67, cond_false] at h
  by_cases h92 : Nat.beq f 92 = true
  · rw [h92, cond_true] at h; cases h; obtain rfl := nbeq h92; exact ⟨Tryz.func92, by kernel_rfl⟩
  rw [Bool.eq_false_iff.2 h92, cond_false] at h
  by_cases h93 : Nat.beq f 93 = true
  · rw [h93, cond_true] at h; cases h; obtain rfl := nbeq h93; exact ⟨Tryz.func93, by kernel_rfl⟩
  rw [Bool.eq_false_iff.2 h93, cond_false] at h
  by_cases h94 : Nat.beq f 94 = true
  · rw [h94, cond_true] at h; cases h; obtain rfl := nbeq h94; exact ⟨Tryz.func94, by kernel_rfl⟩
  rw [Bool.eq_false_iff.2 h94, cond_false] at h
  by_cases h95 : Nat.beq f 95 = true
  · rw [h95, cond_true] at h; cases h; obtain rfl := nbeq h95; exact ⟨Tryz.func95, by kernel_rfl⟩
  rw [Bool.eq_false_iff.2 h95, cond_false] at h
  by_cases h113 : Nat.beq f 113 = true
  · rw [h113, cond_true] at h; cases h; obtain rfl := nbeq h113; exact ⟨Tryz.func113, by kernel_rfl⟩
  rw [Bool.eq_false_iff.2 h113, cond_false] at h
  by_cases h114 : Nat.beq f 114 = true
  · rw [h114, cond_true] at h; cases h; obtain rfl := nbeq h114; exact ⟨Tryz.func114, by kernel_rfl⟩
  rw [Bool.eq_false_iff.2 h114, cond_false] at h
  by_cases h116 : Nat.beq f 116 = true
  · rw [h116, cond_true] at h; cases h; obtain rfl := nbeq h116; exact ⟨Tryz.func116, by kernel_rfl⟩
  rw [Bool.eq_false_iff.2 h116, cond_false] at h
  cases h
attribute [local irreducible] loopK evCode evSpec loopB norm
theorem ok20s : ∀ args pres res, sSer args = some (pres, res) → SpecOK Tryz.prog G16 20 args pres res := by
  intro args pres res h
  unfold sSer at h
  split at h
  case h_2 => cases h
  rename_i v T I X C L S U T' I' X' C' L' S' U' f
  by_cases h1 : (decide (v = 1) && (isSlim T I X C L S U && (isZero T' I' X' C' L' S' U' && decide (f = [])))) = true
  · rw [h1, cond_true] at h
    cases h
    simp only [Bool.and_eq_true, decide_eq_true_eq] at h1
    obtain ⟨hv, hs, hz, hf⟩ := h1
    refine spec_ok (C := LS) okF13 (inl_ok okF13 IS_ok 8) Tryz.func20 (by kernel_rfl) (by kernel_rfl) (fun hp => ?_)
    obtain ⟨rfl, rfl, rfl, rfl, rfl, rfl, rfl⟩ := slim_elim hs (hp _ (by simp))
    obtain ⟨rfl, rfl, rfl, rfl, rfl, rfl, rfl⟩ := zero_elim hz
    subst hv hf
    exact g20_1 _ rfl
  · rw [Bool.eq_false_iff.2 h1, cond_false] at h
    by_cases h2 : (decide (v = 2) && (isSlim T I X C L S U && (isSlim T' I' X' C' L' S' U' && decide (f = [85, 84, 67, 48])))) = true
    · rw [h2, cond_true] at h
      cases h
      simp only [Bool.and_eq_true, decide_eq_true_eq] at h2
      obtain ⟨hv, hs, hz, hf⟩ := h2
      refine spec_ok (C := LS) okF13 (inl_ok okF13 IS_ok 8) Tryz.func20 (by kernel_rfl) (by kernel_rfl) (fun hp => ?_)
      obtain ⟨rfl, rfl, rfl, rfl, rfl, rfl, rfl⟩ := slim_elim hs (hp _ (by simp))
      obtain ⟨rfl, rfl, rfl, rfl, rfl, rfl, rfl⟩ := slim_elim hz (hp _ (by simp))
      subst hv hf
      exact g20_2 _ rfl
    · rw [Bool.eq_false_iff.2 h2, cond_false] at h
      cases h
def F14 := addE F13 20 sSer
theorem okF14 : EOK Tryz.prog F14 G16 := addE_ok okF13 ok20s
noncomputable def LA : Cx := ⟨Tryz.prog, F14, noCall, G16, 4007⟩
end Y27
set_option maxRecDepth 100000
namespace Y27
open Go Go.AE Go.Proofs E6
attribute [local irreducible] loopK evCode evSpec loopB norm
theorem g8_in (K : List AV → Prop) : evSpec LA Tryz.f8 [] K = (let Q1 : Int × Int := (measU serOne); let Q2 : Int × Int := (measU serTwo); let Q3 : List UInt8 := (hdB (Hd.mk (2 : Int) (0 : Int) (0 : Int) (0 : Int) (4294967295 : Int) (1 : Int) (1 : Int))); let Q4 : Int × Int := (measU Q3); let Q5 : Int × Int := (measU []); (0 : Int) ≤ 1 ∧ (1 : Int) ≤ 1 ∧ (↑(8 : Nat) : Int) * 1 ≤ 140737488355328 ∧ (1 : Int) ≤ 140737488355328 ∧ okT [[IV.int IntKind.i32 (0 : Int), IV.bool false, IV.int .u8 0]] ∧ okT [[IV.int IntKind.i32 (0 : Int), IV.bool false, IV.int .u8 0]] ∧ okT [[IV.int IntKind.i32 (0 : Int), IV.bool false, IV.int .u8 0]] ∧ (1 : Int) ≤ 2 ∧ (2 : Int) ≤ 4 ∧ okH (Hd.mk (2 : Int) (0 : Int) (0 : Int) (0 : Int) (4294967295 : Int) (1 : Int) (1 : Int)) ∧ (↑(List.length serOne) : Int) ≤ big' ∧ ((Prod.fst Q1 == 2 && (Prod.snd Q1 == 8 && true)) = true → (↑(List.length serTwo) : Int) ≤ big') ∧ ((Prod.fst Q1 == 2 && (Prod.snd Q1 == 8 && true) && (Prod.fst Q2 == 8 && (Prod.snd Q2 == 20 && true))) = true → (↑(List.length Q3) : Int) ≤ big') ∧ ((Prod.fst Q1 == 2 && (Prod.snd Q1 == 8 && true) && (Prod.fst Q2 == 8 && (Prod.snd Q2 == 20 && true)) && (Prod.fst Q4 == 0 && (Prod.snd Q4 == 6 && true))) =
 true → (↑([] : List UInt8).length : Int) ≤ big') ∧ ((Prod.fst Q1 == 2 && (Prod.snd Q1 == 8 && true) && (Prod.fst Q2 == 8 && (Prod.snd Q2 == 20 && true)) && (Prod.fst Q4 == 0 && (Prod.snd Q4 == 6 && true)) && (Prod.fst Q5 == 0 && (Prod.snd Q5 == 0 && true))) = true → (0 : Int) ≤ 10) ∧ ((Prod.fst Q1 == 2 && (Prod.snd Q1 == 8 && true) && (Prod.fst Q2 == 8 && (Prod.snd Q2 == 20 && true)) && (Prod.fst Q4 == 0 && (Prod.snd Q4 == 6 && true)) && (Prod.fst Q5 == 0 && (Prod.snd Q5 == 0 && true))) = true → (10 : Int) ≤ 1099511627776) ∧ ((Prod.fst Q1 == 2 && (Prod.snd Q1 == 8 && true) && (Prod.fst Q2 == 8 && (Prod.snd Q2 == 20 && true)) && (Prod.fst Q4 == 0 && (Prod.snd Q4 == 6 && true)) && (Prod.fst Q5 == 0 && (Prod.snd Q5 == 0 && true)) && ((4 : Int) * 10 + 64 == 104 && ((16 : Int) * 10 + 64 == 224 && true))) = true → (↑(List.length serTwo) : Int) ≤ big') ∧ ((Prod.fst Q1 == 2 && (Prod.snd Q1 == 8 && true) && (Prod.fst Q2 == 8 && (Prod.snd Q2 == 20 && true)) && (Prod.fst Q4 == 0 && (Prod.snd Q4 == 6 && true)) && (Prod.fst Q5 == 0 && (Prod.snd Q5 == 0 && true)) && ((4 : Int) * 10 + 64 == 104 && ((16 : Int) * 10 + 64 == 224 && true)) && wbU serTwo) = true → okH (Hd.mk (0 : Int) (0 : Int) (0 :
 Int) (0 : Int) (4294967295 : Int) (3 : Int) (0 : Int))) ∧ K [.imm (.bool (Prod.fst Q1 == 2 && (Prod.snd Q1 == 8 && true) && (Prod.fst Q2 == 8 && (Prod.snd Q2 == 20 && true)) && (Prod.fst Q4 == 0 && (Prod.snd Q4 == 6 && true)) && (Prod.fst Q5 == 0 && (Prod.snd Q5 == 0 && true)) && ((4 : Int) * 10 + 64 == 104 && ((16 : Int) * 10 + 64 == 224 && true)) && wbU serTwo && elems (Hd.mk (0 : Int) (0 : Int) (0 : Int) (0 : Int) (4294967295 : Int) (3 : Int) (0 : Int)) == 8589934593))]) := by kernel_rfl
end Y27
set_option maxRecDepth 100000
namespace Y27
open Go Go.AE Go.Proofs E6
attribute [local irreducible] loopK evCode evSpec loopB norm
theorem g8_ev (K : List AV → Prop) (hK : K [bo true]) : evSpec LA Tryz.f8 [] K := by
  refine Eq.mpr (g8_in K) ?_
  have kX : okT [[.int .i32 0, .bool false, .int .u8 0]] := okE_slim.1
  have kH : okH ⟨2, 0, 0, 0, 4294967295, 1, 1⟩ := by
    refine ⟨⟨?_, ?_⟩, ⟨?_, ?_⟩, ⟨?_, ?_⟩, ⟨?_, ?_⟩, ⟨?_, ?_⟩, ⟨?_, ?_⟩⟩ <;> decide
  have kG : okH ⟨0, 0, 0, 0, 4294967295, 3, 0⟩ := by
    refine ⟨⟨?_, ?_⟩, ⟨?_, ?_⟩, ⟨?_, ?_⟩, ⟨?_, ?_⟩, ⟨?_, ?_⟩, ⟨?_, ?_⟩⟩ <;> decide
  have d1 : (serOne.length : Int) ≤ big' := of_decide_eq_true (by kernel_rfl)
  have d2 : (serTwo.length : Int) ≤ big' := of_decide_eq_true (by kernel_rfl)
  have d3 : ((hdB ⟨2, 0, 0, 0, 4294967295, 1, 1⟩).length : Int) ≤ big' := of_decide_eq_true (by kernel_rfl)
  have d4 : (([] : List UInt8).length : Int) ≤ big' := of_decide_eq_true (by kernel_rfl)
  have hb : ((measU serOne).1 == (2 : Int) && ((measU serOne).2 == (8 : Int) && true) && ((measU serTwo).1 == (8 : Int) && ((measU serTwo).2 == (20 : Int) && true)) && ((measU (hdB ⟨2, 0, 0, 0, 4294967295, 1, 1⟩)).1 == (0 : Int) && ((measU (hdB ⟨2, 0, 0, 0, 4294967295, 1, 1⟩)).2 == (6 : Int) && true)) && ((measU []).1 == (0 : Int) && ((measU []).2 == (0 : Int) && true)) &&
      ((4 : Int) * (10 : Int) + (64 : Int) == (104 : Int) && ((16 : Int) * (10 : Int) + (64 : Int) == (224 : Int) && true)) && wbU serTwo && elems ⟨0, 0, 0, 0, 4294967295, 3, 0⟩ == (8589934593 : Int)) = true := by kernel_rfl
  intro Q1 Q2 Q3 Q4 Q5
  refine ⟨by decide, by decide, by decide, by decide, kX, kX, kX, by decide, by decide, kH, d1, fun _ => d2, fun _ => d3, fun _ => d4, fun _ => by decide, fun _ => by decide, fun _ => d2, fun _ => kG, ?_⟩
  exact Eq.mpr (congrArg (fun b => K [.imm (.bool b)]) hb) hK
theorem ok8a : ∀ args pres res, sAwake args = some (pres, res) → SpecOK Tryz.prog G16 8 args pres res := by
  intro args pres res h
  unfold sAwake at h
  split at h
  case h_2 => cases h
  cases h
  exact spec_ok (C := LA) okF14 noCall_ok Tryz.func8 (by kernel_rfl) (by kernel_rfl) (fun hp => g8_ev _ rfl)
def F15 := addE F14 8 sAwake
theorem okF15 : EOK Tryz.prog F15 G16 := addE_ok okF14 ok8a
noncomputable def M3 : Cx := ⟨Tryz.prog, F15, noCall, G16, 4009⟩
noncomputable def M4 : Cx := ⟨Tryz.prog, F15, noCall, G16, 4004⟩
noncomputable def M7 : Cx := ⟨Tryz.prog, F15, noCall, G16, 4014⟩
end Y27
namespace Go.AE
open Go.ChangeShapes Go.WideShapes Go.ChangeAt Go.RowKit
section
variable {H : Type} {enc : TypeId × Value → H} {P : Program}
theorem args_stay (hl : laidOutB P = true) {W W' : World} {sp' : Nat → Bool} : ∀ {ts : List TypeId} {vs : List Value} {ds : List (DataW H)} {ps : List MemPlace},
    lall (fun t => bif P.readableRec t then decide (t < P.types.size) else false) ts = true → DataW.TrodAll enc P W 0 (fun _ => true) true ts vs ds ps → (∀ p ∈ ps, W.sameAt W' p) → (∀ p ∈ ps, sp' p.block = true) →
    DataW.TrodAll enc P W' 0 sp' true ts vs ds ps
  | [], [], [], _, _, h, _, _ => h
  | [], _ :: _, _, _, _, h, _, _ => h.elim
  | [], [], _ :: _, _, _, h, _, _ => h.elim
  | _ :: _, [], _, _, _, h, _, _ => h.elim
  | _ :: _, _ :: _, [], _, _, h, _, _ => h.elim
  | t :: ts, v :: vs, d :: ds, ps, hc, h, hs, hp => by
    obtain ⟨p, q, h1, h2, rfl⟩ := h
    rw [lall] at hc
    cases hb : (bif P.readableRec t then decide (t < P.types.size) else false) with
    | false => rw [hb] at hc; cases hc
    | true =>
      rw [hb] at hc
      cases hr : P.readableRec t with
      | false => rw [hr] at hb; cases hb
      | true =>
        rw [hr] at hb
        exact ⟨p, q, WideElems.Trod_stays hl hr (of_decide_eq_true hb) h1 (fun x hx => hs x (by simp [hx])) (fun x hx => hp x (by simp [hx])),
          args_stay hl hc h2 (fun x hx => hs x (by simp [hx])) (fun x hx => hp x (by simp [hx])), rfl⟩
end
inductive KRep : List CK → List IV → List Value → Prop
  | nil : KRep [] [] []
  | int {k : IntKind} {n : Int} {ks : List CK} {is : List IV} {vs : List Value} : InR k n → KRep ks is vs → KRep (.int k :: ks) (.int k n :: is) (.int k n :: vs)
  | bool {b : Bool} {ks : List CK} {is : List IV} {vs : List Value} : KRep ks is vs → KRep (.bool :: ks) (.bool b :: is) (.bool b :: vs)
  | str {s : ByteArray} {ks : List CK} {is : List IV} {vs : List Value} : (bytesOf s).length ≤ 9223372036854775807 → KRep ks is vs → KRep (.str :: ks) (.str (bytesOf s) :: is) (.string s :: vs)
theorem KRep.app {ks ks' : List CK} {is is' : List IV} {vs vs' : List Value} (h : KRep ks is vs) (h' : KRep ks' is' vs') : KRep (ks ++ ks') (is ++ is') (vs ++ vs') := by
  induction h with
  | nil => exact h'
  | int h1 _ ih => exact .int h1 ih
  | bool _ ih => exact .bool ih
  | str h1 _ ih => exact .str h1 ih
theorem KRep.len {ks : List CK} {is : List IV} {vs : List Value} (h : KRep ks is vs) : is.length = ks.length ∧ vs.length = ks.length := by
  induction h with
  | nil => exact ⟨rfl, rfl⟩
  | int _ _ ih => simp [ih]
  | bool _ ih => simp [ih]
  | str _ _ ih => simp [ih]
theorem KRep.cons_int {k : IntKind} {ks : List CK} {is : List IV} {vs : List Value} (h : KRep (.int k :: ks) is vs) : ∃ n is' vs', is = .int k n :: is' ∧ vs = .int k n :: vs' ∧ InR k n ∧ KRep ks is' vs' := by
  cases h with
  | int h1 h2 => exact ⟨_, _, _, rfl, rfl, h1, h2⟩
theorem KRep.cons_bool {ks : List CK} {is : List IV} {vs : List Value} (h : KRep (.bool :: ks) is vs) : ∃ b is' vs', is = .bool b :: is' ∧ vs = .bool b :: vs' ∧ KRep ks is' vs' := by
  cases h with
  | bool h2 => exact ⟨_, _, _, rfl, rfl, h2⟩
theorem KRep.end {is : List IV} {vs : List Value} (h : KRep [] is vs) : is = [] ∧ vs = [] := by
  cases h; exact ⟨rfl, rfl⟩
theorem KRep.rep {w : World} {own : Nat → Prop} {ks : List CK} {is : List IV} {vs : List Value} (h : KRep ks is vs) : ∀ (j : Nat) c, is[j]? = some c → Rep w own c (vs.getD j undef) ∧ (vs.getD j undef).oneCell' = true := by
  have one : ∀ {c : IV} {V : Value} {is : List IV} {vs : List Value}, Rep w own c V → (∀ (j : Nat) c, is[j]? = some c → Rep w own c (vs.getD j undef) ∧ (vs.getD j undef).oneCell' = true) →
      ∀ (j : Nat) c', (c :: is)[j]? = some c' → Rep w own c' ((V :: vs).getD j undef) ∧ ((V :: vs).getD j undef).oneCell' = true := by
    intro c V is vs h1 h2 j c' hc
    cases j with
    | zero => simp only [List.getElem?_cons_zero, Option.some.injEq] at hc; subst hc; exact ⟨h1, h1.oneCell⟩
    | succ j => exact h2 j c' (by simpa using hc)
  induction h with
  | nil => intro j c hc; simp at hc
  | int h1 _ ih => exact one (.int h1) ih
  | bool _ ih => exact one .bool ih
  | str h1 _ ih => exact one (.str rfl h1) ih
section
variable {H : Type} {enc : TypeId × Value → H} {P : Program} {w : World} {base : Nat} {sp : Nat → Bool} {held : Bool}
theorem inR_wf {k : IntKind} {n : Int} (h : (Lit.int k n).wf = true) : InR k n := by
  simp only [Lit.wf, Bool.and_eq_true, decide_eq_true_eq] at h
  exact ⟨by have := h.1; omega, by have := h.2; omega⟩
mutual
theorem flat_open : ∀ (d : Nat) {t : TypeId} {ks : List CK} {n : Nat} {cs : List Value} {x : DataW H × List MemPlace}, flatK P false d t = some ks → DataW.trod enc P w base sp held n t cs = some x → (∃ is, KRep ks is cs) ∧ x.2 = []
  | 0, t, ks, n, cs, x, h, _ => by simp [flatK] at h
  | d + 1, t, ks, n, cs, x, h, hx => by
    unfold flatK at h
    split at h
    · rename_i k hu
      cases h
      obtain ⟨m, rfl, rfl, hw⟩ := DataW.trod_int hu hx
      exact ⟨⟨[.int k m], .int (inR_wf hw) .nil⟩, rfl⟩
    · rename_i hu
      cases h
      obtain ⟨b, rfl, rfl⟩ := DataW.trod_bool hu hx
      exact ⟨⟨[.bool b], .bool .nil⟩, rfl⟩
    · rename_i hu
      cases h
      obtain ⟨s, rfl, rfl, hs⟩ := DataW.trod_string hu hx
      exact ⟨⟨[.str (bytesOf s)], .str (by rw [← size_bytes]; exact hs) .nil⟩, rfl⟩
    · rename_i fs hu
      obtain ⟨xs, m, rfl, rfl, hlen, hsz, hf⟩ := DataW.trod_struct hu hx
      cases hF : flatF P false d 0 fs.toList with
      | none => rw [hF] at h; cases h
      | some ks' =>
        rw [hF] at h
        cases hb : Nat.beq (llen ks') (P.cellsOf t) with
        | false => simp only [hb, cond_false] at h; cases h
        | true =>
          simp only [hb, cond_true] at h
          cases h
          have hb' := nbeq hb
          obtain ⟨⟨is, his⟩, hp⟩ := flatF_open d (o := 0) (xs := xs) (cs := cs) (n := m) hF (by simp [hsz]) (fun i f hi => hf i f (by simpa using hi))
          refine ⟨⟨is, ?_⟩, ?_⟩
          · rw [List.drop_zero, List.take_of_length_le (by rw [hlen, ← hb', llen_eq]; exact Nat.le_refl _)] at his
            exact his
          · simp only [List.flatMap_eq_nil_iff]
            exact hp
    · cases h
    · cases h
    · cases h
theorem flatF_open : ∀ (d : Nat) {o : Nat} {fs : List Field} {ks : List CK} {n : Nat} {cs : List Value} {xs : List (DataW H × List MemPlace)}, flatF P false d o fs = some ks → xs.length = fs.length →
    (∀ (i : Nat) (f : Field), fs[i]? = some f → DataW.trod enc P w base sp held n f.type ((cs.drop f.offset).take (P.cellsOf f.type)) = xs[i]?) → (∃ is, KRep ks is ((cs.drop o).take ks.length)) ∧ ∀ x ∈ xs, x.2 = []
  | 0, o, fs, ks, n, cs, xs, h, _, _ => by simp [flatF] at h
  | d + 1, o, [], ks, n, cs, xs, h, hl, _ => by
    simp only [flatF] at h
    cases h
    have : xs = [] := by simpa using hl
    subst this
    exact ⟨⟨[], by simpa using KRep.nil⟩, fun x hx => by cases hx⟩
  | d + 1, o, f :: r, ks, n, cs, xs, h, hl, hf => by
    unfold flatF at h
    cases hK : flatK P false d f.type with
    | none => rw [hK] at h; cases h
    | some k1 =>
      rw [hK] at h
      cases hb : Nat.beq f.offset o with
      | false => simp only [hb, cond_false] at h; cases h
      | true =>
        simp only [hb, cond_true] at h
        cases hb2 : Nat.beq (llen k1) (P.cellsOf f.type) with
        | false => simp only [hb2, cond_false] at h; cases h
        | true =>
          simp only [hb2, cond_true] at h
          cases hF : flatF P false d (o + llen k1) r with
          | none => rw [hF] at h; cases h
          | some k2 =>
            rw [hF] at h
            simp only [omap, Option.some.injEq] at h
            subst h
            match xs, hl with
            | x :: xs, hl =>
              have h0 := hf 0 f rfl
              have e1 := nbeq hb
              have e2 := nbeq hb2
              obtain ⟨⟨i1, hi1⟩, hp1⟩ := flat_open d hK (by simpa using h0)
              obtain ⟨⟨i2, hi2⟩, hp2⟩ := flatF_open d (n := n) (cs := cs) (xs := xs) hF (by simpa using hl) (fun i f hi => by simpa using hf (i + 1) f (by simpa using hi))
              refine ⟨⟨i1 ++ i2, ?_⟩, ?_⟩
              · rw [lapp_eq, List.length_append]
                have : (cs.drop o).take (k1.length + k2.length) = ((cs.drop o).take k1.length) ++ ((cs.drop (o + k1.length)).take k2.length) := by
                  rw [List.take_add, List.drop_drop]
                rw [this]
                have h3 : KRep k1 i1 ((cs.drop o).take k1.length) := by
                  rw [← llen_eq, e2, ← e1]; exact hi1
                refine h3.app ?_
                rw [llen_eq] at hi2
                exact hi2
              · intro y hy
                rcases List.mem_cons.1 hy with rfl | hy
                · exact hp1
                · exact hp2 y hy
end
end
theorem bool_calls {P : Program} {G : Nat → Option (List AV)} {f : FuncId} {args : List AV} {pres : List Prop} {b : Bool} (h : SpecOK P G f args pres [.imm (.bool b)]) (hp : ∀ p, p ∈ pres → p) (w : World) (vals : Array Value) (hs : vals.size = args.length)
    (ha : ∀ (j : Nat) c, args[j]? = some c → ARep (zeroGh w (fun _ => False)) c (vals.getD j undef)) (hG : GOK G w (fun _ => False)) : Calls P f vals w fun e w' => e = .returned (.bool b) ∧ RowKit.Below w.heap.size w w' := by
  refine (h.calls hp w (fun _ => False) vals (fun _ h => h.elim) hs ha hG).mono ?_
  rintro e w' ⟨Vs, bs, rfl, hb, hr, _⟩
  refine ⟨?_, hb⟩
  cases hr with
  | one _ h1 _ h2 =>
    cases h2
    cases h1 with
    | imm h3 _ =>
      have := rep_bool h3
      subst this
      rfl
theorem post_of_below {H : Type} {enc : TypeId × Value → H} {P : Program} {f : Func} {s : ChangeSpec} {apart fresh handsOn again : Bool} {W W' : World} {args : Array Value} {v : Value} {ds gs : List (DataW H)} {before pa pv : List MemPlace}
    (hW : DataW.Whole enc P f.params.toList s.vars apart W args.toList ds gs before)
    (hres : ∀ (b : Nat) (sp : Nat → Bool) (hd : Bool), DataW.TrodAll enc P W' b sp hd f.resultTypes.toList (v.resultList f.resultTypes.size) (s.fn H (ds ++ gs)).results [])
    (hargs : ∀ sp : Nat → Bool, (∀ p ∈ before, sp p.block = true) → DataW.TrodAll enc P W' 0 sp true f.params.toList args.toList (s.fn H (ds ++ gs)).args pa)
    (hvars : ∀ sp : Nat → Bool, (∀ p ∈ before, sp p.block = true) → DataW.TrodVars enc P W' sp s.vars (s.fn H (ds ++ gs)).vars pv)
    (hps : before = pa ++ pv) (hb : Below W.heap.size W W')
    (hok : ∀ (j : Nat) (t : TypeId) (r : Value), f.resultTypes[j]? = some t → (v.resultList f.resultTypes.size)[j]? = some r → Value.okWide P W' .any 0 t r) :
    s.post enc P f apart fresh handsOn again W args v W' := by
  have hold : ∀ p ∈ before, (fun b => decide (b < W.heap.size)) p.block = true := fun p hp => by simpa using hW.lt p hp
  have hlt : ∀ p ∈ before, p.block < W.heap.size := fun p hp => hW.lt p hp
  refine ⟨ds, gs, before, [], pa, pv, hW, hres _ _ _, hargs _ hold, hvars _ hold, World.keptBut_mono (fun p hp => ⟨hp, ?_⟩) (hb.frame (· ∈ before)), fun _ => ?_⟩
  · rw [hps, List.mem_append] at hp
    exact Or.inr hp
  · obtain ⟨_, _, _, _, _, hz, hn⟩ := hW
    refine ⟨hok, _, _, ([] ++ pa) ++ pv, ⟨[] ++ pa, pv, trodAll_append (hargs _ (fun _ _ => rfl)) (hres _ _ _), hvars _ (fun _ _ => rfl), rfl, ?_, ?_⟩, ?_⟩
    · intro b off hp
      have hp' : MemPlace.cell b off ∈ before := by rw [hps]; simpa using hp
      rw [World.frozen?_of_block (hb.block _ (hlt _ hp'))]
      exact hz b off hp'
    · intro ha
      have := hn ha
      rw [hps] at this
      simpa using this
    · intro p hp _
      rw [hps]
      simpa using hp
section
variable {H : Type} {enc : TypeId × Value → H} {P : Program} {w : World}
theorem all_cons {base : Nat} {sp : Nat → Bool} {held : Bool} {t : TypeId} {ts : List TypeId} {vs : List Value} {ds : List (DataW H)} {ps : List MemPlace} (h : DataW.TrodAll enc P w base sp held (t :: ts) vs ds ps) :
    ∃ v vs' d ds' p q, vs = v :: vs' ∧ ds = d :: ds' ∧ DataW.Trod enc P w base sp held t v d p ∧ DataW.TrodAll enc P w base sp held ts vs' ds' q ∧ ps = p ++ q := by
  match vs, ds, h with
  | v :: vs', d :: ds', h =>
    obtain ⟨p, q, h1, h2, h3⟩ := h
    exact ⟨v, vs', d, ds', p, q, rfl, rfl, h1, h2, h3⟩
theorem all_nil {base : Nat} {sp : Nat → Bool} {held : Bool} {vs : List Value} {ds : List (DataW H)} {ps : List MemPlace} (h : DataW.TrodAll enc P w base sp held [] vs ds ps) : vs = [] ∧ ds = [] ∧ ps = [] := by
  match vs, ds, h with
  | [], [], h => exact ⟨rfl, rfl, h⟩
theorem open_flat {r : Reach} {b0 base : Nat} {sp : Nat → Bool} {held : Bool} {t : TypeId} {fs : Array Field} {ks : List CK} {v : Value} {d : DataW H} {ps : List MemPlace} (hu : P.underlying t = some (.struct fs)) (hk : flatK P false 40 t = some ks)
    (hval : Value.okWide P w r b0 t v) (hd : DataW.Trod enc P w base sp held t v d ps) : ∃ is l, v = .agg ⟨l⟩ ∧ KRep ks is l := by
  obtain ⟨⟨l⟩, rfl, _⟩ := okWide_struct hu hval
  obtain ⟨fuel, hf⟩ := hd
  obtain ⟨⟨is, h⟩, _⟩ := flat_open 40 hk hf
  exact ⟨is, l, rfl, h⟩
theorem KRep.arep {g : Gh} {ks : List CK} {is : List IV} {vs : List Value} (h : KRep ks is vs) : ARep g (.agg (lmap .imm is)) (.agg ⟨vs⟩) := by
  have hl := h.len
  have e : ∀ j, (⟨vs⟩ : Array Value).getD j undef = vs.getD j undef := fun j => by simp [Array.getD_eq_getD_getElem?, List.getD_eq_getElem?_getD]
  refine .agg (by rw [lmap_eq]; simp [hl]) (fun j c hc => ?_) (fun j hj => ?_)
  · rw [lmap_eq, List.getElem?_map] at hc
    cases hi : is[j]? with
    | none => rw [hi] at hc; cases hc
    | some i =>
      rw [hi] at hc
      cases hc
      rw [e]
      exact .imm (h.rep (w := g.w) (own := g.own) j i hi).1
  · have hj' : j < is.length := by simp at hj; omega
    rw [e]
    exact (h.rep (w := g.w) (own := g.own) j is[j] (List.getElem?_eq_getElem hj')).2
theorem row_post {f : Func} {s : ChangeSpec} {apart fresh handsOn again : Bool} {W W' : World} {args : Array Value} {ds : List (DataW H)} {before : List MemPlace} {tb : TypeId}
    (hW : DataW.Whole enc P f.params.toList s.vars apart W args.toList ds [] before) (hv : s.vars = []) (hl : laidOutB P = true) (hc : lall (fun t => bif P.readableRec t then decide (t < P.types.size) else false) f.params.toList = true)
    (hfn : s.fn H (ds ++ []) = { results := [.lit (.bool true)], args := ds }) (hr : f.resultTypes = #[tb]) (hu : P.underlying tb = some .bool) (hb : Below W.heap.size W W') : s.post enc P f apart fresh handsOn again W args (.bool true) W' := by
  have hW0 := hW
  obtain ⟨p, q, hA, hV, rfl, _, _⟩ := hW
  rw [hv] at hV
  obtain ⟨_, rfl⟩ := trodVars_none hV
  refine post_of_below (ds := ds) (gs := []) (pa := p) (pv := []) hW0 (fun b sp hd => ?_) (fun sp hsp => ?_) (fun sp hsp => ?_) rfl hb ?_
  · rw [hfn, hr]
    exact trodAll_mk1 (shut_bool hu true)
  · rw [hfn]
    exact args_stay hl hc hA (fun x hx => hb.same (hW0.lt x (by simp [hx]))) (fun x hx => hsp x (by simp [hx]))
  · rw [hfn, hv]
    rfl
  · intro j t r ht hr'
    rw [hr] at ht hr'
    cases j with
    | zero =>
      cases ht
      cases hr'
      exact okWide_bool_mk hu true
    | succ j => simp at ht
end
end Go.AE
namespace Go.AE
open Go.ChangeShapes Go.WideShapes Go.ChangeAt Go.RowKit
section
variable {H : Type} {enc : TypeId × Value → H} {P : Program} {w : World}
theorem open_slice {t e : TypeId} {ks : List CK} {b0 : Nat} {v : Value} {d : DataW H} {ps : List MemPlace} {r : Reach} {sp : Nat → Bool} {held : Bool} {base : Nat} (ht : P.underlying t = some (.slice e)) (hk : flatK P false 40 e = some ks) (hc : P.cellsOf e = ks.length) (hb : 1 ≤ P.bytesOf e)
    (hval : Value.okWide P w r b0 t v) (hd : DataW.Trod enc P w base sp held t v d ps) (hsz : ∀ el rs, d = .slice el rs → (el.length + rs.length) * P.bytesOf e ≤ reachBytes) :
    ∃ xs : List (List IV), (∀ x ∈ xs, ∃ vs, KRep ks x vs) ∧ xs.length ≤ 281474976710656 ∧ ∀ iv : IV, iv.isSl = true → iv.len = some xs.length → iv.esize = ks.length → (∀ i j c, iv.cellAt i j = some c → (xs[i]?).bind (·[j]?) = some c) → Rep w (fun _ => False) iv v := by
  obtain ⟨fuel, hf⟩ := hd
  rcases DataW.trod_slice ht hf with ⟨h0, _⟩ | ⟨a, len, cap, elems, rest, n, _, hcs, hx, _, hl, hm, hlen, hel, _⟩
  · refine ⟨[], ⟨(fun x hx => absurd hx (by simp)), by simp, fun iv h1 h2 _ _ => ?_⟩⟩
    obtain ⟨a', l', c', rfl⟩ := okWide_slice ht hval
    simp only [Value.cells, List.cons.injEq, and_true] at h0
    rw [h0]
    exact .nilSlice h1 h2
  · obtain ⟨a', l', c', rfl⟩ := okWide_slice ht hval
    simp only [Value.cells, List.cons.injEq, and_true] at hcs
    simp only [Value.slice.injEq] at hcs
    obtain ⟨rfl, rfl, rfl⟩ := hcs
    have hv : l' ≤ c' ∧ (c' : Int) ≤ IntKind.i64.max ∧ w.has P r b0 a e c' := by
      simpa [Value.okWide, Cell.okWide, Cell.ok, ht] using hval
    obtain ⟨_, hcap, _, _, row, cells, hsh, _⟩ := hv
    have hblk : a.block < w.heap.size := by
      unfold World.shape? at hsh
      cases hq : w.heap[a.block]? with
      | none => rw [hq] at hsh; cases hsh
      | some o => exact (Array.getElem?_eq_some_iff.1 hq).1
    have each : ∀ i (hi : i < elems.length), ∃ cs is, w.cells? base (a.add (i * P.cellsOf e)) (P.cellsOf e) = some cs ∧ KRep ks is cs := by
      intro i hi
      have h1 := hel i (by omega)
      rw [List.getElem?_eq_getElem hi, Option.bind_eq_some_iff] at h1
      obtain ⟨cs, hcs, hy⟩ := h1
      obtain ⟨⟨is, his⟩, _⟩ := flat_open 40 hk hy
      exact ⟨cs, is, hcs, his⟩
    have hcap' : c' ≤ 9223372036854775807 := by
      have h9 : IntKind.i64.max = 9223372036854775807 := rfl
      rw [h9] at hcap; omega
    have hch : ∃ F : Nat → List Value × List IV, ∀ i, i < elems.length → w.cells? base (a.add (i * P.cellsOf e)) (P.cellsOf e) = some (F i).1 ∧ KRep ks (F i).2 (F i).1 := by
      refine ⟨fun i => if hi : i < elems.length then ((each i hi).choose, (each i hi).choose_spec.choose) else ([], []), fun i hi => ?_⟩
      simp only [dif_pos hi]
      exact (each i hi).choose_spec.choose_spec
    obtain ⟨F, hF⟩ := hch
    have hlen2 : l' ≤ 281474976710656 := by
      have hxs := hsz (elems.map (·.1)) (rest.map (·.1)) (congrArg Prod.fst hx)
      simp only [List.length_map] at hxs
      have : elems.length + rest.length ≤ (elems.length + rest.length) * P.bytesOf e := Nat.le_mul_of_pos_right _ hb
      unfold reachBytes at hxs
      omega
    refine ⟨(List.range l').map fun i => (F i).2, fun x hx => ?_, by simpa using hlen2, fun iv h1 h2 h3 h4 => ?_⟩
    · obtain ⟨i, hi, rfl⟩ := List.mem_map.1 hx
      have := List.mem_range.1 hi
      exact ⟨_, (hF i (by omega)).2⟩
    · have key : ∀ i j c, iv.cellAt i j = some c → i < l' ∧ (F i).2[j]? = some c := by
        intro i j c hcc
        have h5 := h4 i j c hcc
        rw [List.getElem?_map] at h5
        cases hi : (List.range l')[i]? with
        | none => rw [hi] at h5; cases h5
        | some i' =>
          rw [hi] at h5
          obtain ⟨h6, h7⟩ := List.getElem?_eq_some_iff.1 hi
          simp only [List.length_range] at h6
          simp only [List.getElem_range] at h7
          subst h7
          exact ⟨h6, by simpa using h5⟩
      refine .slice (fun i j => (F i).1.getD j undef) h1 (by simpa using h2) hl hcap' hlen2 (fun h => h) hblk (fun i j c hcc => ?_) (fun i j c hcc => ?_)
      · obtain ⟨hi, hj⟩ := key i j c hcc
        obtain ⟨hc1, hk1⟩ := hF i (by omega)
        obtain ⟨_, hn1, hcell⟩ := World.cells?_some hc1
        have hj' : j < ks.length := by rw [← hk1.len.1]; exact (List.getElem?_eq_some_iff.1 hj).1
        have := hcell j (by rw [hc]; exact hj')
        rw [h3, ← hc]
        have e1 : (a.add (i * P.cellsOf e)).add j = a.add (i * P.cellsOf e + j) := by
          unfold Addr.add; split <;> split <;> simp_all <;> omega
        rw [e1] at this
        rw [this, List.getElem?_eq_getElem (by rw [hn1, hc]; exact hj')]
        simp [List.getD_eq_getElem?_getD, List.getElem?_eq_getElem (show j < (F i).1.length by rw [hn1, hc]; exact hj')]
      · obtain ⟨hi, hj⟩ := key i j c hcc
        obtain ⟨hc1, hk1⟩ := hF i (by omega)
        exact (hk1.rep j c hj).1
theorem open_byteslice {t e : TypeId} {b0 : Nat} {v : Value} {d : DataW H} {ps : List MemPlace} {r : Reach} {sp : Nat → Bool} {held : Bool} {base : Nat} (ht : P.underlying t = some (.slice e)) (hk : flatK P false 40 e = some [.int .u8]) (hc : P.cellsOf e = 1) (hb : 1 ≤ P.bytesOf e)
    (hval : Value.okWide P w r b0 t v) (hd : DataW.Trod enc P w base sp held t v d ps) (hsz : ∀ el rs, d = .slice el rs → (el.length + rs.length) * P.bytesOf e ≤ reachBytes) :
    ∃ l : List UInt8, l.length ≤ 281474976710656 ∧ Rep w (fun _ => False) (.bytes l) v := by
  obtain ⟨xs, h1, h2, h3⟩ := open_slice ht hk (by simpa using hc) hb hval hd hsz
  have key : ∀ xs : List (List IV), (∀ x ∈ xs, ∃ vs, KRep [.int .u8] x vs) → ∃ l : List UInt8, xs = l.map fun b => [.int .u8 (b.toNat : Int)] := by
    intro xs
    induction xs with
    | nil => exact fun _ => ⟨[], rfl⟩
    | cons x xs ih =>
      intro h
      obtain ⟨l, hl⟩ := ih fun y hy => h y (by simp [hy])
      obtain ⟨vs, hx⟩ := h x (by simp)
      obtain ⟨n, is, vs', rfl, rfl, hr, hx⟩ := hx.cons_int
      obtain ⟨rfl, rfl⟩ := hx.end
      have hr' : (0 : Int) ≤ n ∧ n ≤ 255 := hr
      refine ⟨UInt8.ofNat n.toNat :: l, ?_⟩
      rw [hl, List.map_cons]
      have : ((UInt8.ofNat n.toNat).toNat : Int) = n := by
        have : (UInt8.ofNat n.toNat).toNat = n.toNat % 256 := by simp
        omega
      rw [this]
  obtain ⟨l, rfl⟩ := key xs h1
  refine ⟨l, by simpa using h2, h3 _ rfl (by simp [IV.len]) rfl (fun i j c hcc => ?_)⟩
  cases j with
  | zero =>
    simp only [IV.cellAt] at hcc
    rw [List.getElem?_map]
    cases hi : l[i]? with
    | none => rw [hi] at hcc; cases hcc
    | some b => rw [hi] at hcc; simpa using hcc
  | succ j => simp [IV.cellAt] at hcc
theorem rep_at {W : World} {v : Value} {c : IV} {vs : List Value} {j : Nat} (hr : Rep W (fun _ => False) c v) (h : vs[j]? = some v) : ARep (zeroGh W (fun _ => False)) (.imm c) ((⟨vs⟩ : Array Value).getD j undef) := by
  have e : (⟨vs⟩ : Array Value).getD j undef = v := by simp [Array.getD_eq_getD_getElem?, h]
  rw [e]
  exact .imm (Rep.mono (w := W) (w' := W) (Nat.le_refl _) (fun b _ h => zero_own.1 h) (fun _ _ _ => rfl) hr)
end
end Go.AE
namespace Go.AE
open Go.ChangeShapes Go.WideShapes Go.ChangeAt Go.RowKit
inductive MK where
  | ck (c : CK)
  | sl (ks : List CK)
mutual
def mixK (P : Program) : Nat → TypeId → Option (List (TypeId × MK))
  | 0, _ => none
  | d + 1, t => match P.underlying t with
    | some (.int k) => some [(t, .ck (.int k))]
    | some .bool => some [(t, .ck .bool)]
    | some .string => some [(t, .ck .str)]
    | some (.slice e) => match flatK P false 40 e with
      | some ks => bif Nat.beq (P.cellsOf e) (llen ks) then (bif Nat.ble 1 (P.bytesOf e) then some [(t, .sl ks)] else none) else none
      | none => none
    | some (.struct fs) => match mixF P d 0 fs.toList with
      | some ks => bif Nat.beq (llen ks) (P.cellsOf t) then some ks else none
      | none => none
    | _ => none
def mixF (P : Program) : Nat → Nat → List Field → Option (List (TypeId × MK))
  | 0, _, _ => none
  | _ + 1, _, [] => some []
  | d + 1, o, f :: r => match mixK P d f.type with
    | some ks => bif Nat.beq f.offset o then (bif Nat.beq (llen ks) (P.cellsOf f.type) then omap (lapp ks) (mixF P d (o + llen ks) r) else none) else none
    | none => none
end
def MOk (w : World) : MK → Value → Prop
  | .ck (.int k), v => ∃ n, v = .int k n ∧ InR k n
  | .ck .bool, v => ∃ b, v = .bool b
  | .ck .str, v => ∃ s, v = .string s ∧ (bytesOf s).length ≤ 9223372036854775807
  | .ck .any, _ => False
  | .sl ks, v => ∃ xs : List (List IV), (∀ x ∈ xs, ∃ vs, KRep ks x vs) ∧ xs.length ≤ 281474976710656 ∧ ∀ iv : IV, iv.isSl = true → iv.len = some xs.length → iv.esize = ks.length → (∀ i j c, iv.cellAt i j = some c → (xs[i]?).bind (·[j]?) = some c) → Rep w (fun _ => False) iv v
def mall (w : World) : List (TypeId × MK) → List Value → Prop
  | [], [] => True
  | k :: ks, v :: vs => MOk w k.2 v ∧ mall w ks vs
  | _, _ => False
theorem mall_app {w : World} : ∀ {ks ks' : List (TypeId × MK)} {vs vs' : List Value}, mall w ks vs → mall w ks' vs' → mall w (ks ++ ks') (vs ++ vs')
  | [], _, [], _, _, h' => h'
  | _ :: _, _, _ :: _, _, h, h' => ⟨h.1, mall_app h.2 h'⟩
  | [], _, _ :: _, _, h, _ => h.elim
  | _ :: _, _, [], _, h, _ => h.elim
section
variable {H : Type} {enc : TypeId × Value → H} {P : Program} {w : World} {base b0 : Nat} {sp : Nat → Bool} {held : Bool} {r : Reach}
theorem all_weights_field {fs : List Field} {xs : List (DataW H × List MemPlace)} (h : (DataW.weightsEach P (fs.map (·.type)) (xs.map (·.1))).all (· ≤ reachBytes) = true) {i : Nat} {f : Field} {x : DataW H × List MemPlace} (hf : fs[i]? = some f) (hx : xs[i]? = some x) :
    (x.1.weights P f.type).all (· ≤ reachBytes) = true := by
  rw [List.all_eq_true] at h ⊢
  exact fun n hn => h n (DataW.weights_mem_each (j := i) (t := f.type) (d := x.1) (by simp [List.getElem?_map, hf]) (by simp [List.getElem?_map, hx]) n hn)
mutual
theorem mix_open : ∀ (d : Nat) {t : TypeId} {ks : List (TypeId × MK)} {n : Nat} {cs : List Value} {x : DataW H × List MemPlace}, mixK P d t = some ks → DataW.trod enc P w base sp held n t cs = some x → (x.1.weights P t).all (· ≤ reachBytes) = true →
    (∀ (j : Nat) v, cs[j]? = some v → ∃ u, (ks.map (·.1))[j]? = some u ∧ Cell.okWide P w r b0 u v) → mall w ks cs
  | 0, t, ks, n, cs, x, h, _, _, _ => by simp [mixK] at h
  | d + 1, t, ks, n, cs, x, h, hx, hz, hw => by
    unfold mixK at h
    split at h
    · rename_i k hu
      cases h
      obtain ⟨m, rfl, rfl, hm⟩ := DataW.trod_int hu hx
      exact ⟨⟨m, rfl, inR_wf hm⟩, trivial⟩
    · rename_i hu
      cases h
      obtain ⟨b, rfl, rfl⟩ := DataW.trod_bool hu hx
      exact ⟨⟨b, rfl⟩, trivial⟩
    · rename_i hu
      cases h
      obtain ⟨s, rfl, rfl, hs⟩ := DataW.trod_string hu hx
      exact ⟨⟨s, rfl, by rw [← size_bytes]; exact hs⟩, trivial⟩
    · rename_i e hu
      cases hk : flatK P false 40 e with
      | none => rw [hk] at h; cases h
      | some k1 =>
        rw [hk] at h
        cases hb : Nat.beq (P.cellsOf e) (llen k1) with
        | false => simp only [hb, cond_false] at h; cases h
        | true =>
          simp only [hb, cond_true] at h
          cases hb2 : Nat.ble 1 (P.bytesOf e) with
          | false => simp only [hb2, cond_false] at h; cases h
          | true =>
            simp only [hb2, cond_true] at h
            cases h
            have e1 : P.cellsOf e = k1.length := by rw [nbeq hb, llen_eq]
            have e2 : 1 ≤ P.bytesOf e := Nat.le_of_ble_eq_true hb2
            have hone : ∃ v, cs = [v] ∧ v.cells.toList = [v] := by
              rcases DataW.trod_slice hu hx with ⟨h0, _⟩ | ⟨a, len, cap, _, _, _, _, h0, _⟩
              · exact ⟨_, h0, rfl⟩
              · exact ⟨_, h0, rfl⟩
            obtain ⟨v, rfl, hv⟩ := hone
            obtain ⟨u, hu1, hu2⟩ := hw 0 v rfl
            simp only [List.map_cons, List.map_nil, List.getElem?_cons_zero, Option.some.injEq] at hu1
            subst hu1
            have hval : Value.okWide P w r b0 t v := by
              unfold Value.okWide
              rw [hu]
              exact hu2
            refine ⟨open_slice (ks := k1) hu hk e1 e2 hval (d := x.1) (ps := x.2) ⟨n, by rw [hv]; exact hx⟩ (fun el rs hd => ?_), trivial⟩
            rw [hd, List.all_eq_true] at hz
            have := hz ((el.length + rs.length) * P.bytesOf e) (by simp [DataW.weights, hu])
            simpa using this
    · rename_i fs hu
      obtain ⟨xs, m, rfl, rfl, hlen, hsz, hf⟩ := DataW.trod_struct hu hx
      cases hF : mixF P d 0 fs.toList with
      | none => rw [hF] at h; cases h
      | some ks' =>
        rw [hF] at h
        cases hb : Nat.beq (llen ks') (P.cellsOf t) with
        | false => simp only [hb, cond_false] at h; cases h
        | true =>
          simp only [hb, cond_true] at h
          cases h
          have hb' := nbeq hb
          have hz' : (DataW.weightsEach P (fs.toList.map (·.type)) (xs.map (·.1))).all (· ≤ reachBytes) = true := by
            have := hz
            simpa [DataW.weights, hu] using this
          have := mixF_open d (o := 0) (xs := xs) (cs := cs) (n := m) hF (by simp [hsz]) (fun i f hi => hf i f (by simpa using hi)) hz' (by simpa using hw)
          rw [List.drop_zero, List.take_of_length_le (by rw [hlen, ← hb', llen_eq]; exact Nat.le_refl _)] at this
          exact this
    · cases h
theorem mixF_open : ∀ (d : Nat) {o : Nat} {fs : List Field} {ks : List (TypeId × MK)} {n : Nat} {cs : List Value} {xs : List (DataW H × List MemPlace)}, mixF P d o fs = some ks → xs.length = fs.length →
    (∀ (i : Nat) (f : Field), fs[i]? = some f → DataW.trod enc P w base sp held n f.type ((cs.drop f.offset).take (P.cellsOf f.type)) = xs[i]?) → (DataW.weightsEach P (fs.map (·.type)) (xs.map (·.1))).all (· ≤ reachBytes) = true →
    (∀ (j : Nat) v, (cs.drop o)[j]? = some v → ∃ u, (ks.map (·.1))[j]? = some u ∧ Cell.okWide P w r b0 u v) → mall w ks ((cs.drop o).take ks.length)
  | 0, o, fs, ks, n, cs, xs, h, _, _, _, _ => by simp [mixF] at h
  | d + 1, o, [], ks, n, cs, xs, h, hl, _, _, _ => by
    simp only [mixF] at h
    cases h
    simp [mall]
  | d + 1, o, f :: q, ks, n, cs, xs, h, hl, hf, hz, hw => by
    unfold mixF at h
    cases hK : mixK P d f.type with
    | none => rw [hK] at h; cases h
    | some k1 =>
      rw [hK] at h
      cases hb : Nat.beq f.offset o with
      | false => simp only [hb, cond_false] at h; cases h
      | true =>
        simp only [hb, cond_true] at h
        cases hb2 : Nat.beq (llen k1) (P.cellsOf f.type) with
        | false => simp only [hb2, cond_false] at h; cases h
        | true =>
          simp only [hb2, cond_true] at h
          cases hF : mixF P d (o + llen k1) q with
          | none => rw [hF] at h; cases h
          | some k2 =>
            rw [hF] at h
            simp only [omap, Option.some.injEq] at h
            subst h
            match xs, hl with
            | x :: xs, hl =>
              have h0 := hf 0 f rfl
              have e1 := nbeq hb
              have e2 := nbeq hb2
              have e3 : llen k1 = k1.length := llen_eq k1
              rw [lapp_eq] at hw ⊢
              have w1 : ∀ (j : Nat) v, ((cs.drop f.offset).take (P.cellsOf f.type))[j]? = some v → ∃ u, (k1.map (·.1))[j]? = some u ∧ Cell.okWide P w r b0 u v := by
                intro j v hv
                rw [List.getElem?_take] at hv
                split at hv
                · rename_i hj
                  obtain ⟨u, hu1, hu2⟩ := hw j v (by rw [← e1]; exact hv)
                  refine ⟨u, ?_, hu2⟩
                  rw [List.map_append, List.getElem?_append_left (by simp; omega)] at hu1
                  exact hu1
                · cases hv
              have w2 : ∀ (j : Nat) v, (cs.drop (o + llen k1))[j]? = some v → ∃ u, (k2.map (·.1))[j]? = some u ∧ Cell.okWide P w r b0 u v := by
                intro j v hv
                obtain ⟨u, hu1, hu2⟩ := hw (k1.length + j) v (by rw [List.getElem?_drop] at hv ⊢; rw [← hv, e3]; congr 1; omega)
                refine ⟨u, ?_, hu2⟩
                rw [List.map_append, List.getElem?_append_right (by simp)] at hu1
                simpa using hu1
              have i1 := mix_open d hK (x := x) (by simpa using h0) (all_weights_field hz (i := 0) rfl rfl) w1
              have i2 := mixF_open d (n := n) (cs := cs) (xs := xs) hF (by simpa using hl) (fun i f hi => by simpa using hf (i + 1) f (by simpa using hi))
                (by
                  rw [List.all_eq_true] at hz ⊢
                  intro m hm
                  exact hz m (by simp only [List.map_cons, DataW.weightsEach, List.mem_append]; exact Or.inr hm)) w2
              rw [List.length_append]
              have : (cs.drop o).take (k1.length + k2.length) = ((cs.drop o).take k1.length) ++ ((cs.drop (o + k1.length)).take k2.length) := by
                rw [List.take_add, List.drop_drop]
              rw [this]
              have h3 : mall w k1 ((cs.drop o).take k1.length) := by
                rw [← llen_eq, e2, ← e1]; exact i1
              refine mall_app h3 ?_
              rw [llen_eq] at i2
              exact i2
end
end
def MIs (w : World) : List IV → List Value → Prop
  | [], [] => True
  | i :: is, v :: vs => Rep w (fun _ => False) i v ∧ MIs w is vs
  | _, _ => False
theorem MIs.get {w : World} : ∀ {is : List IV} {vs : List Value}, MIs w is vs → is.length = vs.length ∧ ∀ (j : Nat) i, is[j]? = some i → Rep w (fun _ => False) i (vs.getD j undef)
  | [], [], _ => ⟨rfl, fun j i h => by simp at h⟩
  | i :: is, v :: vs, h => ⟨by simp [(MIs.get h.2).1], fun j c hj => by
      cases j with
      | zero => simp only [List.getElem?_cons_zero, Option.some.injEq] at hj; subst hj; exact h.1
      | succ j => exact (MIs.get h.2).2 j c (by simpa using hj)⟩
  | [], _ :: _, h => h.elim
  | _ :: _, [], h => h.elim
theorem MIs.arep {w : World} {is : List IV} {vs : List Value} (h : MIs w is vs) : ARep (zeroGh w (fun _ => False)) (.agg (lmap .imm is)) (.agg ⟨vs⟩) := by
  obtain ⟨hl, hr⟩ := h.get
  have e : ∀ j, (⟨vs⟩ : Array Value).getD j undef = vs.getD j undef := fun j => by simp [Array.getD_eq_getD_getElem?, List.getD_eq_getElem?_getD]
  refine .agg (by rw [lmap_eq]; simp [hl]) (fun j c hc => ?_) (fun j hj => ?_)
  · rw [lmap_eq, List.getElem?_map] at hc
    cases hi : is[j]? with
    | none => rw [hi] at hc; cases hc
    | some i =>
      rw [hi] at hc
      cases hc
      rw [e]
      exact .imm (Rep.mono (w := w) (w' := w) (Nat.le_refl _) (fun b _ h => zero_own.1 h) (fun _ _ _ => rfl) (hr j i hi))
  · have hj' : j < is.length := by simp at hj; omega
    rw [e]
    exact (hr j is[j] (List.getElem?_eq_getElem hj')).oneCell
theorem MIs.cell {w : World} {is : List IV} {vs : List Value} (h : MIs w is vs) {v : Value} (hv : v = .agg ⟨vs⟩) {arr : Array Value} {j : Nat} (ha : arr.getD j undef = v) : ARep (zeroGh w (fun _ => False)) (.agg (lmap .imm is)) (arr.getD j undef) := by
  rw [ha, hv]; exact h.arep
theorem MOk.bytes {w : World} {v : Value} (h : MOk w (.sl [.int .u8]) v) : ∃ l : List UInt8, l.length ≤ 281474976710656 ∧ Rep w (fun _ => False) (.bytes l) v := by
  obtain ⟨xs, h1, h2, h3⟩ := h
  have key : ∀ xs : List (List IV), (∀ x ∈ xs, ∃ vs, KRep [.int .u8] x vs) → ∃ l : List UInt8, xs = l.map fun b => [.int .u8 (b.toNat : Int)] := by
    intro xs
    induction xs with
    | nil => exact fun _ => ⟨[], rfl⟩
    | cons x xs ih =>
      intro h
      obtain ⟨l, hl⟩ := ih fun y hy => h y (by simp [hy])
      obtain ⟨vs, hx⟩ := h x (by simp)
      obtain ⟨n, is, vs', rfl, rfl, hr, hx⟩ := hx.cons_int
      obtain ⟨rfl, rfl⟩ := hx.end
      have hr' : (0 : Int) ≤ n ∧ n ≤ 255 := hr
      refine ⟨UInt8.ofNat n.toNat :: l, ?_⟩
      rw [hl, List.map_cons]
      have : ((UInt8.ofNat n.toNat).toNat : Int) = n := by
        have : (UInt8.ofNat n.toNat).toNat = n.toNat % 256 := by simp
        omega
      rw [this]
  obtain ⟨l, rfl⟩ := key xs h1
  refine ⟨l, by simpa using h2, h3 _ rfl (by simp [IV.len]) rfl (fun i j c hcc => ?_)⟩
  cases j with
  | zero =>
    simp only [IV.cellAt] at hcc
    rw [List.getElem?_map]
    cases hi : l[i]? with
    | none => rw [hi] at hcc; cases hcc
    | some b => rw [hi] at hcc; simpa using hcc
  | succ j => simp [IV.cellAt] at hcc
theorem MOk.ints {w : World} {v : Value} {k : IntKind} (h : MOk w (.sl [.int k]) v) : ∃ l : List Int, (∀ n ∈ l, InR k n) ∧ l.length ≤ 281474976710656 ∧ Rep w (fun _ => False) (.ints k l) v := by
  obtain ⟨xs, h1, h2, h3⟩ := h
  have key : ∀ xs : List (List IV), (∀ x ∈ xs, ∃ vs, KRep [.int k] x vs) → ∃ l : List Int, (∀ n ∈ l, InR k n) ∧ xs = l.map fun b => [.int k b] := by
    intro xs
    induction xs with
    | nil => exact fun _ => ⟨[], fun n h => by simp at h, rfl⟩
    | cons x xs ih =>
      intro h
      obtain ⟨l, hl1, hl⟩ := ih fun y hy => h y (by simp [hy])
      obtain ⟨vs, hx⟩ := h x (by simp)
      obtain ⟨n, is, vs', rfl, rfl, hr, hx⟩ := hx.cons_int
      obtain ⟨rfl, rfl⟩ := hx.end
      refine ⟨n :: l, fun m hm => ?_, by rw [hl, List.map_cons]⟩
      rcases List.mem_cons.1 hm with rfl | hm
      · exact hr
      · exact hl1 m hm
  obtain ⟨l, hl, rfl⟩ := key xs h1
  refine ⟨l, hl, by simpa using h2, h3 _ rfl (by simp [IV.len]) rfl (fun i j c hcc => ?_)⟩
  cases j with
  | zero =>
    simp only [IV.cellAt] at hcc
    rw [List.getElem?_map]
    cases hi : l[i]? with
    | none => rw [hi] at hcc; cases hcc
    | some b => rw [hi] at hcc; simpa using hcc
  | succ j => simp [IV.cellAt] at hcc
theorem MOk.bools {w : World} {v : Value} (h : MOk w (.sl [.bool]) v) : ∃ l : List Bool, l.length ≤ 281474976710656 ∧ Rep w (fun _ => False) (.bools l) v := by
  obtain ⟨xs, h1, h2, h3⟩ := h
  have key : ∀ xs : List (List IV), (∀ x ∈ xs, ∃ vs, KRep [.bool] x vs) → ∃ l : List Bool, xs = l.map fun b => [.bool b] := by
    intro xs
    induction xs with
    | nil => exact fun _ => ⟨[], rfl⟩
    | cons x xs ih =>
      intro h
      obtain ⟨l, hl⟩ := ih fun y hy => h y (by simp [hy])
      obtain ⟨vs, hx⟩ := h x (by simp)
      obtain ⟨n, is, vs', rfl, rfl, hx2⟩ := hx.cons_bool
      obtain ⟨rfl, rfl⟩ := hx2.end
      exact ⟨n :: l, by rw [hl, List.map_cons]⟩
  obtain ⟨l, rfl⟩ := key xs h1
  refine ⟨l, by simpa using h2, h3 _ rfl (by simp [IV.len]) rfl (fun i j c hcc => ?_)⟩
  cases j with
  | zero =>
    simp only [IV.cellAt] at hcc
    rw [List.getElem?_map]
    cases hi : l[i]? with
    | none => rw [hi] at hcc; cases hcc
    | some b => rw [hi] at hcc; simpa using hcc
  | succ j => simp [IV.cellAt] at hcc
theorem MOk.int {w : World} {v : Value} {k : IntKind} (h : MOk w (.ck (.int k)) v) : ∃ n, InR k n ∧ Rep w (fun _ => False) (.int k n) v := by
  obtain ⟨n, rfl, hr⟩ := h
  exact ⟨n, hr, .int hr⟩
theorem MOk.bool {w : World} {v : Value} (h : MOk w (.ck .bool) v) : ∃ b, Rep w (fun _ => False) (.bool b) v := by
  obtain ⟨b, rfl⟩ := h
  exact ⟨b, .bool⟩
theorem MOk.str {w : World} {v : Value} (h : MOk w (.ck .str) v) : ∃ l : List UInt8, l.length ≤ 9223372036854775807 ∧ Rep w (fun _ => False) (.str l) v := by
  obtain ⟨s, rfl, hr⟩ := h
  exact ⟨_, hr, .str rfl hr⟩
end Go.AE
namespace Y27
open Go Go.AE Go.Proofs E6
theorem vs : Tryz.prog.globalNamed "zoneinfo/header.versions" = some 0 := by kernel_rfl
theorem fl : Tryz.prog.globalNamed "zoneinfo/indicators.flags" = some 1 := by kernel_rfl
theorem et : Tryz.prog.globalNamed "errors.errorType" = some 3 := by kernel_rfl
theorem rt : (Tryz.prog.cutTypes.find? (·.1 == "internal/reflectlite.rtype")).map (·.2) = some 215 := by kernel_rfl
theorem tsize : Tryz.prog.types.size = 257 := by kernel_rfl
theorem oneRow : ((List.range 257).filter fun t => Tryz.prog.rowNamed t [101, 114, 114, 111, 114]) = [170] := by kernel_rfl
def rowLaid {H : Type} : List (String × DataW H) := [("zoneinfo/header.versions", YthdioiodfodlpaaGreatDoor.Rows.laid_zoneinfo_header_versions), ("zoneinfo/indicators.flags", YthdioiodfodlpaaGreatDoor.Rows.laid_zoneinfo_indicators_flags)]
theorem parts {W : World} (h : laidMetH Tryz.prog YthdioiodfodlpaaGreatDoor.Rows.costMatchesReferenceRow.laid W) : laidMet Tryz.prog rowLaid W ∧ handlesMet Tryz.prog [("errors.errorType", YthdioiodfodlpaaGreatDoor.Rows.laid_errors_errorType)] W := h
theorem var_of_laid {W : World} (h : laidMetH Tryz.prog YthdioiodfodlpaaGreatDoor.Rows.costMatchesReferenceRow.laid W) : W.var? Tryz.prog "errors.errorType" = some #[errT] := by
  obtain ⟨name, u, ty, e1, e2, e3, e4, e5⟩ := (parts h).2 _ (List.mem_singleton.2 rfl)
  have en : name = [101, 114, 114, 111, 114] := (Option.some.inj e1).symm
  subst en
  obtain rfl := Option.some.inj (rt.symm.trans e2)
  have hm : ty ∈ (List.range 257).filter fun t => Tryz.prog.rowNamed t [101, 114, 114, 111, 114] := List.mem_filter.2 ⟨List.mem_range.2 (by rw [← tsize]; exact e3), e4⟩
  rw [oneRow] at hm
  obtain rfl := List.mem_singleton.1 hm
  have hh : typeHandle Tryz.prog 170 = .pointer (some ⟨4, 170, none⟩) := by kernel_rfl
  rw [hh] at e5
  exact e5
theorem list_two {α : Type} {l : List α} (h : l.length = 2) : ∃ a b, l = [a, b] := by
  match l, h with
  | [a, b], _ => exact ⟨a, b, rfl⟩
theorem list_five {α : Type} {l : List α} (h : l.length = 5) : ∃ a b c d e, l = [a, b, c, d, e] := by
  match l, h with
  | [a, b, c, d, e], _ => exact ⟨a, b, c, d, e, rfl⟩
theorem versions_of_laid {W : World} (h : laidMetH Tryz.prog YthdioiodfodlpaaGreatDoor.Rows.costMatchesReferenceRow.laid W) : W.var? Tryz.prog "zoneinfo/header.versions" = some #[.int .u8 0, .int .u8 0, .int .u8 50, .int .u8 51, .int .u8 52] := by
  obtain ⟨ps, ⟨g, t, cs, fuel, p, q, hg, ht, hv, hd, _, _⟩, _⟩ := (parts h).1
  obtain rfl := Option.some.inj (vs.symm.trans hg)
  have ht' : (Tryz.prog.globals[0]?).map (·.type) = some 166 := by kernel_rfl
  obtain rfl := Option.some.inj (ht'.symm.trans ht)
  obtain ⟨xs, m, rfl, hx, hl, hn, hi⟩ := DataW.trod_array (n := 5) (e := 5) (by kernel_rfl) hd
  have hc5 : Tryz.prog.cellsOf 5 = 1 := by kernel_rfl
  have hc166 : Tryz.prog.cellsOf 166 = 5 := by kernel_rfl
  have hu5 : Tryz.prog.underlying 5 = some (.int .u8) := by kernel_rfl
  rw [hc166] at hl
  rw [hv]
  obtain ⟨cs⟩ := cs
  obtain ⟨a, b, c, d, e, rfl⟩ := list_five hl
  obtain ⟨x, y, z, u, w, rfl⟩ := list_five hn
  have h0 := hi 0 (by omega)
  have h1 := hi 1 (by omega)
  have h2 := hi 2 (by omega)
  have h3 := hi 3 (by omega)
  have h4 := hi 4 (by omega)
  rw [hc5] at h0 h1 h2 h3 h4
  have h0' : DataW.trod (fun _ => ()) Tryz.prog W 0 (fun _ => true) false m 5 [a] = some x := h0
  have h1' : DataW.trod (fun _ => ()) Tryz.prog W 0 (fun _ => true) false m 5 [b] = some y := h1
  have h2' : DataW.trod (fun _ => ()) Tryz.prog W 0 (fun _ => true) false m 5 [c] = some z := h2
  have h3' : DataW.trod (fun _ => ()) Tryz.prog W 0 (fun _ => true) false m 5 [d] = some u := h3
  have h4' : DataW.trod (fun _ => ()) Tryz.prog W 0 (fun _ => true) false m 5 [e] = some w := h4
  obtain ⟨b0, e0, f0, _⟩ := DataW.trod_int hu5 h0'
  obtain ⟨b1, e1, f1, _⟩ := DataW.trod_int hu5 h1'
  obtain ⟨b2, e2, f2, _⟩ := DataW.trod_int hu5 h2'
  obtain ⟨b3, e3, f3, _⟩ := DataW.trod_int hu5 h3'
  obtain ⟨b4, e4, f4, _⟩ := DataW.trod_int hu5 h4'
  have hx1 := congrArg Prod.fst hx
  have hx2 : (DataW.agg [.lit (.int .u8 0), .lit (.int .u8 0), .lit (.int .u8 50), .lit (.int .u8 51), .lit (.int .u8 52)] : DataW Unit) = .agg [x.1, y.1, z.1, u.1, w.1] := hx1
  rw [f0, f1, f2, f3, f4] at hx2
  simp only [DataW.agg.injEq, List.cons.injEq, DataW.lit.injEq, Lit.int.injEq, true_and, and_true] at hx2
  simp only [List.cons.injEq, and_true] at e0 e1 e2 e3 e4
  obtain ⟨q0, q1, q2, q3, q4⟩ := hx2
  rw [e0, e1, e2, e3, e4, ← q0, ← q1, ← q2, ← q3, ← q4]
theorem flags_of_laid {W : World} (h : laidMetH Tryz.prog YthdioiodfodlpaaGreatDoor.Rows.costMatchesReferenceRow.laid W) : W.var? Tryz.prog "zoneinfo/indicators.flags" = some #[.bool false, .bool true] := by
  obtain ⟨ps, ⟨g0, t0, cs0, fuel0, p0, q0, _, _, _, _, ⟨g, t, cs, fuel, p, q, hg, ht, hv, hd, _, _⟩, _⟩, _⟩ := (parts h).1
  obtain rfl := Option.some.inj (fl.symm.trans hg)
  have ht' : (Tryz.prog.globals[1]?).map (·.type) = some 176 := by kernel_rfl
  obtain rfl := Option.some.inj (ht'.symm.trans ht)
  obtain ⟨xs, m, rfl, hx, hl, hn, hi⟩ := DataW.trod_array (n := 2) (e := 4) (by kernel_rfl) hd
  have hc4 : Tryz.prog.cellsOf 4 = 1 := by kernel_rfl
  have hc176 : Tryz.prog.cellsOf 176 = 2 := by kernel_rfl
  have hu4 : Tryz.prog.underlying 4 = some .bool := by kernel_rfl
  rw [hc176] at hl
  rw [hv]
  obtain ⟨cs⟩ := cs
  obtain ⟨a, b, rfl⟩ := list_two hl
  obtain ⟨x, y, rfl⟩ := list_two hn
  have h0 := hi 0 (by omega)
  have h1 := hi 1 (by omega)
  rw [hc4] at h0 h1
  have h0' : DataW.trod (fun _ => ()) Tryz.prog W 0 (fun _ => true) false m 4 [a] = some x := h0
  have h1' : DataW.trod (fun _ => ()) Tryz.prog W 0 (fun _ => true) false m 4 [b] = some y := h1
  obtain ⟨b0, e0, f0⟩ := DataW.trod_bool hu4 h0'
  obtain ⟨b1, e1, f1⟩ := DataW.trod_bool hu4 h1'
  have hx1 := congrArg Prod.fst hx
  have hx2 : (DataW.agg [.lit (.bool false), .lit (.bool true)] : DataW Unit) = .agg [x.1, y.1] := hx1
  rw [f0, f1] at hx2
  simp only [DataW.agg.injEq, List.cons.injEq, DataW.lit.injEq, Lit.bool.injEq, and_true] at hx2
  simp only [List.cons.injEq, and_true] at e0 e1
  rw [e0, e1, ← hx2.1, ← hx2.2]
theorem gok_of_laid {W : World} (h : laidMetH Tryz.prog YthdioiodfodlpaaGreatDoor.Rows.costMatchesReferenceRow.laid W) : GOK G16 W (fun _ => False) := by
  have ht := var_of_laid h
  have hf := flags_of_laid h
  have hq := versions_of_laid h
  unfold World.var? at ht hf hq
  rw [et] at ht
  rw [fl] at hf
  rw [vs] at hq
  simp only [Option.bind_some] at ht hf hq
  have ir : ∀ n : Int, 0 ≤ n → n ≤ 255 → InR .u8 n := fun n h1 h2 => ⟨h1, h2⟩
  intro n l hl
  unfold G16 at hl
  cases hn : Nat.beq n 0 with
  | true =>
    rw [hn, cond_true] at hl
    cases hl
    have := nbeq hn
    subst this
    refine ⟨fun h => h, ?_⟩
    split at hq
    case h_2 => cases hq
    rename_i cs T fr hc
    simp only [Option.some.injEq] at hq
    refine ⟨cs, T, fr, hc, by rw [hq]; rfl, fun j v hv => ?_, fun j hj => ?_⟩
    · rw [hq]
      match j with
      | 0 => simp only [List.getElem?_cons_zero, Option.some.injEq] at hv; subst hv; exact .int (ir _ (by decide) (by decide))
      | 1 => simp only [List.getElem?_cons_succ, List.getElem?_cons_zero, Option.some.injEq] at hv; subst hv; exact .int (ir _ (by decide) (by decide))
      | 2 => simp only [List.getElem?_cons_succ, List.getElem?_cons_zero, Option.some.injEq] at hv; subst hv; exact .int (ir _ (by decide) (by decide))
      | 3 => simp only [List.getElem?_cons_succ, List.getElem?_cons_zero, Option.some.injEq] at hv; subst hv; exact .int (ir _ (by decide) (by decide))
      | 4 => simp only [List.getElem?_cons_succ, List.getElem?_cons_zero, Option.some.injEq] at hv; subst hv; exact .int (ir _ (by decide) (by decide))
      | j + 5 => simp at hv
    · rw [hq] at hj ⊢
      match j, hj with
      | 0, _ => rfl
      | 1, _ => rfl
      | 2, _ => rfl
      | 3, _ => rfl
      | 4, _ => rfl
      | j + 5, hj => exact absurd hj (by simp)
  | false =>
    rw [hn, cond_false] at hl
    cases hn1 : Nat.beq n 1 with
    | true =>
      rw [hn1, cond_true] at hl
      cases hl
      have := nbeq hn1
      subst this
      refine ⟨fun h => h, ?_⟩
      split at hf
      case h_2 => cases hf
      rename_i cs T fr hc
      simp only [Option.some.injEq] at hf
      refine ⟨cs, T, fr, hc, by rw [hf]; rfl, fun j v hv => ?_, fun j hj => ?_⟩
      · match j with
        | 0 =>
          simp only [List.getElem?_cons_zero, Option.some.injEq] at hv
          subst hv
          rw [hf]
          exact .bool
        | 1 =>
          simp only [List.getElem?_cons_succ, List.getElem?_cons_zero, Option.some.injEq] at hv
          subst hv
          rw [hf]
          exact .bool
        | j + 2 => simp at hv
      · rw [hf] at hj ⊢
        match j, hj with
        | 0, _ => rfl
        | 1, _ => rfl
        | j + 2, hj => exact absurd hj (by simp)
    | false =>
      rw [hn1, cond_false] at hl
      cases hn3 : Nat.beq n 3 with
      | false => rw [hn3] at hl; cases hl
      | true =>
        rw [hn3, cond_true] at hl
        cases hl
        have := nbeq hn3
        subst this
        refine ⟨fun h => h, ?_⟩
        split at ht
        case h_2 => cases ht
        rename_i cs T fr hc
        simp only [Option.some.injEq] at ht
        refine ⟨cs, T, fr, hc, by rw [ht]; rfl, fun j v hv => ?_, fun j hj => ?_⟩
        · cases j with
          | zero =>
            simp only [List.getElem?_cons_zero, Option.some.injEq] at hv
            subst hv
            rw [ht]
            exact .val rfl
          | succ j => simp at hv
        · rw [ht] at hj ⊢
          have : j = 0 := by simpa using hj
          subst this
          rfl
noncomputable def laidWorld (os : Os) : World :=
  let w0 := World.holding Tryz.prog os ⟨#[], #[], []⟩
  { w0 with heap := ((w0.heap.modify 0 fun
      | .cells _ t frozen => .cells #[.int .u8 0, .int .u8 0, .int .u8 50, .int .u8 51, .int .u8 52] t frozen
      | o => o).modify 1 fun
      | .cells _ t frozen => .cells #[.bool false, .bool true] t frozen
      | o => o).modify 3 fun
      | .cells _ t frozen => .cells #[errT] t frozen
      | o => o }
theorem door_met (os : Os) (args : Array Value) : laidMetH Tryz.prog YthdioiodfodlpaaGreatDoor.Rows.costMatchesReferenceRow.laid ((laidWorld os).forCall (fun _ _ => 0) ⟨#[], args, []⟩).memory :=
  laidMetH_of_parts (laidMet_of_run' 8 (by kernel_rfl) (by kernel_rfl)) (by kernel_rfl)
theorem u32_of {n : Int} (h : InR .u32 n) : U32 n := by
  have h' : (0 : Int) ≤ n ∧ n ≤ 4294967295 := h
  exact ⟨h'.1, h'.2⟩
end Y27
set_option maxRecDepth 100000
namespace Y27
open Go Go.AE Go.Proofs E6
attribute [local irreducible] loopK evCode evSpec loopB norm
theorem f3_in (b : List UInt8) (v : Int) (iu : Int) (is : Int) (l : Int) (t : Int) (ty : Int) (c : Int) (n : Int) (K : List AV → Prop) : evSpec M3 Tryz.f3 [by' b, hdAV v iu is l t ty c, u32 n] K = (let Q1 : Int × Int := (measU b); let A17 : Prop := ((brn ((4 : Int) * IntKind.wrap .i64 n + 64 == IntKind.wrap .i64 (IntKind.wrap .i64 ((4 : Int) * IntKind.wrap .i64 n) + 64) && ((16 : Int) * IntKind.wrap .i64 n + 64 == IntKind.wrap .i64 (IntKind.wrap .i64 ((16 : Int) * IntKind.wrap .i64 n) + 64) && true)) ((b.length : Int) ≤ big' ∧ K [.imm (.bool (wbU b == (decide (Prod.fst Q1 ≤ IntKind.wrap .i64 (IntKind.wrap .i64 ((4 : Int) * (b.length : Int)) + 64)) && decide (Prod.snd Q1 ≤ IntKind.wrap .i64 (IntKind.wrap .i64 ((16 : Int) * (b.length : Int)) + 64)))))]) (K [.imm (.bool false)]))); let A55 : Prop := ((okH (Hd.mk v iu is l t ty c) ∧ brn (elems (Hd.mk v iu is l t ty c) == elems (Hd.mk v iu is l t ty c)) (((0 : Int) ≤ IntKind.wrap .i64 n ∧ IntKind.wrap .i64 n ≤ 1099511627776 ∧ A17) ∧ (0 : Int) ≤ IntKind.wrap .i64 n ∧ IntKind.wrap .i64 n ≤ 1099511627776 ∧ A17) (K [.imm (.bool false)]))); let A57 : Prop := ((okH (Hd.mk v iu is l t ty c) ∧ A55)); let A90 : Prop := ((brn (Prod.fst Q1 ==
 Prod.fst Q1 && (Prod.snd Q1 == Prod.snd Q1 && true)) (((okH (Hd.mk v iu is l t ty c) ∧ A55) ∧ A57) ∧ A57) (K [.imm (.bool false)]))); brn (!true || decide ((b.length : Int) > 3000)) (K [.imm (.bool true)]) ((b.length : Int) ≤ big' ∧ ((b.length : Int) ≤ big' ∧ A90) ∧ (b.length : Int) ≤ big' ∧ A90)) := by kernel_rfl
end Y27
set_option maxRecDepth 100000
namespace Y27
open Go Go.AE Go.Proofs E6
attribute [local irreducible] loopK evCode evSpec loopB norm
theorem f4_in (b : List UInt8) (K : List AV → Prop) : evSpec M4 Tryz.f4 [by' b] K =
  (let Q1 : Int × Int := (measU b); brn (!true || decide ((↑(List.length b) : Int) > (3000 : Int))) (K [AV.imm (IV.bool true)]) ((↑(List.length b) : Int) ≤ big' ∧ ((decide (Prod.fst Q1 ≥ (0 : Int)) && decide (Prod.fst Q1 ≤ (↑(List.length b) : Int)) && decide (Prod.snd Q1 ≥ Prod.fst Q1) && decide (Prod.snd Q1 ≤ IntKind.wrap IntKind.i64 ((↑(List.length b) : Int) + (12 : Int)))) = true → (↑(List.length b) : Int) ≤ big') ∧ K [AV.imm (IV.bool (decide (Prod.fst Q1 ≥ (0 : Int)) && decide (Prod.fst Q1 ≤ (↑(List.length b) : Int)) && decide (Prod.snd Q1 ≥ Prod.fst Q1) && decide (Prod.snd Q1 ≤ IntKind.wrap IntKind.i64 ((↑(List.length b) : Int) + (12 : Int))) && wbU b))])) := by kernel_rfl
end Y27
set_option maxRecDepth 100000
namespace Y27
open Go Go.AE Go.Proofs E6
attribute [local irreducible] loopK evCode evSpec loopB norm
theorem f7_in (v : Int) (iu : Int) (is : Int) (l : Int) (t : Int) (ty : Int) (c : Int) (v' : Int) (iu' : Int) (is' : Int) (l' : Int) (t' : Int) (ty' : Int) (c' : Int) (b : List UInt8) (d : List UInt8) (K : List AV → Prop) : evSpec M7 Tryz.f7 [hdAV v iu is l t ty c, hdAV v' iu' is' l' t' ty' c', by' b, by' d] K = (let Q1 : Int × Int := (measU (List.map u8 [] ++ b ++ d)); let Q2 : Int × Int := (measU b); let A41 : Prop := ((okH (Hd.mk (0 : Int) (Int.tmod iu' (2147483648 : Int)) (Int.tmod is' (2147483648 : Int)) (Int.tmod l' (2147483648 : Int)) (Int.tmod t' (2147483648 : Int)) (Int.tmod ty' (2147483648 : Int)) (Int.tmod c' (2147483648 : Int))) ∧ brn (elems (Hd.mk (0 : Int) (IntKind.wrap IntKind.u32 (Int.tmod iu (2147483648 : Int) + Int.tmod iu' (2147483648 : Int))) (IntKind.wrap IntKind.u32 (Int.tmod is (2147483648 : Int) + Int.tmod is' (2147483648 : Int))) (IntKind.wrap IntKind.u32 (Int.tmod l (2147483648 : Int) + Int.tmod l' (2147483648 : Int))) (IntKind.wrap IntKind.u32 (Int.tmod t (2147483648 : Int) + Int.tmod t' (2147483648 : Int))) (IntKind.wrap IntKind.u32 (Int.tmod ty (2147483648 : Int) + Int.tmod ty' (2147483648 : Int))) (IntKind.wrap IntKind.u32 (Int.tmod c (2147483648 : Int)
 + Int.tmod c' (2147483648 : Int)))) == IntKind.wrap IntKind.u64 (elems (Hd.mk (0 : Int) (Int.tmod iu (2147483648 : Int)) (Int.tmod is (2147483648 : Int)) (Int.tmod l (2147483648 : Int)) (Int.tmod t (2147483648 : Int)) (Int.tmod ty (2147483648 : Int)) (Int.tmod c (2147483648 : Int))) + elems (Hd.mk (0 : Int) (Int.tmod iu' (2147483648 : Int)) (Int.tmod is' (2147483648 : Int)) (Int.tmod l' (2147483648 : Int)) (Int.tmod t' (2147483648 : Int)) (Int.tmod ty' (2147483648 : Int)) (Int.tmod c' (2147483648 : Int))))) (brn (decide (Prod.fst Q1 ≥ Prod.fst Q2)) (K [.imm (.bool (decide (Prod.snd Q1 ≥ Prod.snd Q2)))]) (K [.imm (.bool false)])) (K [.imm (.bool false)]))); let A43 : Prop := ((okH (Hd.mk (0 : Int) (Int.tmod iu (2147483648 : Int)) (Int.tmod is (2147483648 : Int)) (Int.tmod l (2147483648 : Int)) (Int.tmod t (2147483648 : Int)) (Int.tmod ty (2147483648 : Int)) (Int.tmod c (2147483648 : Int))) ∧ A41)); let A44 : Prop := (((okH (Hd.mk (0 : Int) (Int.tmod iu (2147483648 : Int)) (Int.tmod is (2147483648 : Int)) (Int.tmod l (2147483648 : Int)) (Int.tmod t (2147483648 : Int)) (Int.tmod ty (2147483648 : Int)) (Int.tmod c (2147483648 : Int))) ∧ A41) ∧ A43)); let A46 : Prop := ((okH (Hd.mk (0 :
 Int) (IntKind.wrap IntKind.u32 (Int.tmod iu (2147483648 : Int) + Int.tmod iu' (2147483648 : Int))) (IntKind.wrap IntKind.u32 (Int.tmod is (2147483648 : Int) + Int.tmod is' (2147483648 : Int))) (IntKind.wrap IntKind.u32 (Int.tmod l (2147483648 : Int) + Int.tmod l' (2147483648 : Int))) (IntKind.wrap IntKind.u32 (Int.tmod t (2147483648 : Int) + Int.tmod t' (2147483648 : Int))) (IntKind.wrap IntKind.u32 (Int.tmod ty (2147483648 : Int) + Int.tmod ty' (2147483648 : Int))) (IntKind.wrap IntKind.u32 (Int.tmod c (2147483648 : Int) + Int.tmod c' (2147483648 : Int)))) ∧ A43)); brn (!true || decide ((b.length : Int) > 3000) || decide ((d.length : Int) > 1000)) (K [.imm (.bool true)]) ((2147483648 : Int) ≠ 0 ∧ (2147483648 : Int) ≠ 0 ∧ (2147483648 : Int) ≠ 0 ∧ (2147483648 : Int) ≠ 0 ∧ (2147483648 : Int) ≠ 0 ∧ (2147483648 : Int) ≠ 0 ∧ (2147483648 : Int) ≠ 0 ∧ (2147483648 : Int) ≠ 0 ∧ (2147483648 : Int) ≠ 0 ∧ (2147483648 : Int) ≠ 0 ∧ (2147483648 : Int) ≠ 0 ∧ (2147483648 : Int) ≠ 0 ∧ (b.length : Int) ≤ big' ∧ ((List.map u8 []).length + b.length) * 1 ≤ 140737488355328 ∧ (List.map u8 []).length + b.length ≤ 140737488355328 ∧ ((List.map u8 [] ++ b).length + d.length) * 1 ≤ 140737488355328 ∧ (List.map
 u8 [] ++ b).length + d.length ≤ 140737488355328 ∧ (↑(List.map u8 [] ++ b ++ d).length : Int) ≤ big' ∧ (okH (Hd.mk (0 : Int) (IntKind.wrap IntKind.u32 (Int.tmod iu (2147483648 : Int) + Int.tmod iu' (2147483648 : Int))) (IntKind.wrap IntKind.u32 (Int.tmod is (2147483648 : Int) + Int.tmod is' (2147483648 : Int))) (IntKind.wrap IntKind.u32 (Int.tmod l (2147483648 : Int) + Int.tmod l' (2147483648 : Int))) (IntKind.wrap IntKind.u32 (Int.tmod t (2147483648 : Int) + Int.tmod t' (2147483648 : Int))) (IntKind.wrap IntKind.u32 (Int.tmod ty (2147483648 : Int) + Int.tmod ty' (2147483648 : Int))) (IntKind.wrap IntKind.u32 (Int.tmod c (2147483648 : Int) + Int.tmod c' (2147483648 : Int)))) ∧ A44) ∧ ((okH (Hd.mk (0 : Int) (IntKind.wrap IntKind.u32 (Int.tmod iu (2147483648 : Int) + Int.tmod iu' (2147483648 : Int))) (IntKind.wrap IntKind.u32 (Int.tmod is (2147483648 : Int) + Int.tmod is' (2147483648 : Int))) (IntKind.wrap IntKind.u32 (Int.tmod l (2147483648 : Int) + Int.tmod l' (2147483648 : Int))) (IntKind.wrap IntKind.u32 (Int.tmod t (2147483648 : Int) + Int.tmod t' (2147483648 : Int))) (IntKind.wrap IntKind.u32 (Int.tmod ty (2147483648 : Int) + Int.tmod ty' (2147483648 : Int))) (IntKind.wrap
 IntKind.u32 (Int.tmod c (2147483648 : Int) + Int.tmod c' (2147483648 : Int)))) ∧ A44) ∧ A46) ∧ (okH (Hd.mk (0 : Int) (IntKind.wrap IntKind.u32 (Int.tmod iu (2147483648 : Int) + Int.tmod iu' (2147483648 : Int))) (IntKind.wrap IntKind.u32 (Int.tmod is (2147483648 : Int) + Int.tmod is' (2147483648 : Int))) (IntKind.wrap IntKind.u32 (Int.tmod l (2147483648 : Int) + Int.tmod l' (2147483648 : Int))) (IntKind.wrap IntKind.u32 (Int.tmod t (2147483648 : Int) + Int.tmod t' (2147483648 : Int))) (IntKind.wrap IntKind.u32 (Int.tmod ty (2147483648 : Int) + Int.tmod ty' (2147483648 : Int))) (IntKind.wrap IntKind.u32 (Int.tmod c (2147483648 : Int) + Int.tmod c' (2147483648 : Int)))) ∧ A43) ∧ A46)) := by kernel_rfl
end Y27
set_option maxRecDepth 100000
namespace Y27
open Go Go.AE Go.Proofs E6
theorem part_bound {c : Cu} {s : Int} (hc : okU c) (hs : sz48 s) (he : (hdU c).2.e = 0) : 0 ≤ cntP c s ∧ cntP c s ≤ (c.d.length : Int) - c.p - 44 ∧ ((nextP c s).e = 0 → c.p + 44 + cntP c s ≤ (nextP c s).p ∧ okU (nextP c s) ∧ (nextP c s).d = c.d) := by
  obtain ⟨p1, p2, p3, p4, p5⟩ := hd_pos he
  have hh := okH_hd c
  have e1 := elems_rng hh
  have e2 := elems_sum hh hs
  have hr : restU (hdU c).2 = (c.d.length : Int) - c.p - 44 := by
    rw [p2]
    show (if (0 : Int) = 0 then (c.d.length : Int) - (c.p + 44) else 0) = _
    rw [if_pos rfl]; omega
  refine ⟨?_, ?_, fun hn => ?_⟩
  · unfold cntP cntU; split <;> omega
  · unfold cntP cntU; split
    · omega
    · omega
  · obtain ⟨d1, d2, d3, d4⟩ := dec_e0 (k := (hdU c).2) (h := (hdU c).1) hn
    have hN : nextP c s = ⟨(hdU c).2.d, (hdU c).2.p + sumU (hdU c).1 s, 0, (hdU c).2.a⟩ := congrArg Prod.snd d4
    have hdd : (nextP c s).d = c.d := by rw [hN]; exact hd_d c
    refine ⟨?_, okU_dec (okU_hd hc) hh hs, hdd⟩
    rw [hN, p2]
    show c.p + 44 + cntP c s ≤ c.p + 44 + sumU (hdU c).1 s
    unfold cntP cntU; split <;> omega
theorem foot_bound {c : Cu} (hc : okU c) : 0 ≤ footU c ∧ footU c ≤ (c.d.length : Int) - c.p := by
  obtain ⟨o1, o2, o3⟩ := hc
  unfold footU
  split
  · omega
  · rename_i he
    have he' : (expU c nlC 14).e = 0 := Classical.byContradiction he
    obtain ⟨a1, a2, a3, a4⟩ := exp_e0 (by decide) he'
    rw [a4]
    show 0 ≤ (if 0 ≤ ixB (c.d.drop (c.p + 1).toNat) 10 then ixB (c.d.drop (c.p + 1).toNat) 10 else 0) ∧ (if 0 ≤ ixB (c.d.drop (c.p + 1).toNat) 10 then ixB (c.d.drop (c.p + 1).toNat) 10 else 0) ≤ _
    have hx := ixB_rng (c.d.drop (c.p + 1).toNat) 10
    rw [restU_of a1] at a2
    have h1 : (nlC.length : Int) = 1 := rfl
    rw [List.length_drop] at hx
    split <;> omega
theorem measB_bound {A L : Int} {c : Cu} (hc : okU c) : ∃ n : Int, 0 ≤ n ∧ n ≤ (c.d.length : Int) - c.p ∧ (measB A L c = (A + n, L + n) ∨ measB A L c = (A + n, L + 6 + n)) := by
  have o := hc.2.1
  unfold measB
  split
  · exact ⟨0, Int.le_refl 0, by omega, .inl (by rw [Int.add_zero, Int.add_zero])⟩
  · rename_i he
    have he' : (hdU c).2.e = 0 := Classical.byContradiction he
    obtain ⟨b1, b2, b3⟩ := part_bound hc sz8 he'
    by_cases hn : (nextP c 8).e = 0
    · obtain ⟨k1, k2, k3⟩ := b3 hn
      obtain ⟨f1, f2⟩ := foot_bound k2
      rw [k3] at f2
      exact ⟨cntP c 8 + footU (nextP c 8), by omega, by omega, .inr (by simp only [Prod.mk.injEq]; constructor <;> omega)⟩
    · rw [foot_stick hn]
      exact ⟨cntP c 8, by omega, by omega, .inr (by simp only [Prod.mk.injEq]; constructor <;> omega)⟩
theorem meas_bound {b : List UInt8} (hb : (b.length : Int) ≤ big') : ∃ k : Int, 0 ≤ k ∧ k ≤ 12 ∧ 0 ≤ (measU b).1 ∧ (measU b).1 ≤ (b.length : Int) ∧ (measU b).2 = (measU b).1 + k := by
  have hbig : big' = 1000000000000 := rfl
  have o0 : okU ⟨b, 0, 0, 0⟩ := ⟨Int.le_refl 0, by show (0 : Int) ≤ (b.length : Int); omega, by show (b.length : Int) ≤ _; omega⟩
  unfold measU measA
  split
  · exact ⟨0, by decide, by decide, Int.le_refl 0, by show (0 : Int) ≤ _; omega, rfl⟩
  · rename_i he
    have he' : (hdU ⟨b, 0, 0, 0⟩).2.e = 0 := Classical.byContradiction he
    obtain ⟨b1, b2, b3⟩ := part_bound o0 sz4 he'
    have b2' : cntP ⟨b, 0, 0, 0⟩ 4 ≤ (b.length : Int) - 0 - 44 := b2
    split
    · exact ⟨6, by decide, by decide, b1, by show cntP ⟨b, 0, 0, 0⟩ 4 ≤ _; omega, by show 6 + _ = _; omega⟩
    · rename_i hv
      have hn : (nextP ⟨b, 0, 0, 0⟩ 4).e = 0 := Classical.byContradiction fun h => hv (.inl h)
      obtain ⟨k1, k2, k3⟩ := b3 hn
      have k1' : 0 + 44 + cntP ⟨b, 0, 0, 0⟩ 4 ≤ (nextP ⟨b, 0, 0, 0⟩ 4).p := k1
      have k3' : (nextP ⟨b, 0, 0, 0⟩ 4).d = b := k3
      obtain ⟨n, n0, n1, hm⟩ := measB_bound (A := cntP ⟨b, 0, 0, 0⟩ 4) (L := 6 + cntP ⟨b, 0, 0, 0⟩ 4) k2
      rw [k3'] at n1
      rcases hm with hm | hm <;> rw [hm]
      · exact ⟨6, by decide, by decide, by show 0 ≤ _ + n; omega, by show _ + n ≤ _; omega, by show _ + n = _ + n + 6; omega⟩
      · exact ⟨12, by decide, by decide, by show 0 ≤ _ + n; omega, by show _ + n ≤ _; omega, by show _ + 6 + n = _ + n + 12; omega⟩
def ext (c : Cu) (t : List UInt8) : Cu := ⟨c.d ++ t, c.p, c.e, c.a⟩
theorem adv_ext {c : Cu} {n : Int} (t : List UInt8) (h : (advU c n).e = 0) : advU (ext c t) n = ext (advU c n) t := by
  obtain ⟨a1, a2, a3, a4⟩ := adv_e0 h
  rw [restU_of a1] at a3
  rw [a4]
  have hr : n ≤ restU (ext c t) := by
    rw [restU_of (c := ext c t) a1]
    show n ≤ ((c.d ++ t).length : Int) - c.p
    rw [List.length_append]; omega
  unfold advU
  rw [if_pos (show (ext c t).e = 0 from a1), if_pos ⟨a2, hr⟩]
  rfl
theorem drop_ext {d t : List UInt8} {p n : Nat} (h : p + n ≤ d.length) : ((d ++ t).drop p).take n = (d.drop p).take n := by
  rw [List.drop_append_of_le_length (by omega), List.take_append_of_le_length (by rw [List.length_drop]; omega)]
theorem advOk_iff {c : Cu} {n : Int} : advOk c n = true ↔ (advU c n).e = 0 := by
  constructor
  · intro h
    have h' := of_decide_eq_true h
    unfold advU
    rw [if_pos h'.1, if_pos h'.2]
  · intro h
    obtain ⟨a1, a2, a3, _⟩ := adv_e0 h
    exact decide_eq_true ⟨a1, a2, a3⟩
theorem take_ext {c : Cu} {n : Int} (t : List UInt8) (hc : 0 ≤ c.p) (h : (advU c n).e = 0) : takeU (ext c t) n = takeU c n := by
  obtain ⟨a1, a2, a3, a4⟩ := adv_e0 h
  rw [restU_of a1] at a3
  have h1 : advOk (ext c t) n = true := advOk_iff.2 (by rw [adv_ext t h]; exact h)
  unfold takeU
  rw [if_pos h1, if_pos (advOk_iff.2 h)]
  show ((c.d ++ t).drop c.p.toNat).take n.toNat = _
  exact drop_ext (by omega)
theorem misI_congr {d d' w : List UInt8} (h : ∀ i, i < w.length → d.getD i 0 = d'.getD i 0) : misI d w = misI d' w := by
  cases hm : misI d' w with
  | none =>
    refine misI_none (fun j hj => ?_)
    unfold misI at hm
    rw [List.find?_eq_none] at hm
    have := hm j (List.mem_range.2 hj)
    rw [h j hj]
    simpa using this
  | some i =>
    unfold misI at hm
    rw [List.find?_range_eq_some] at hm
    obtain ⟨h1, h2, h3⟩ := hm
    have hi : i < w.length := by simpa using h2
    refine misI_some hi (fun j hj => ?_) ?_
    · rw [h j (by omega)]
      simpa using h3 j hj
    · rw [h i hi]
      simpa using h1
theorem getD_app {d t : List UInt8} {i : Nat} (h : i < d.length) : (d ++ t).getD i 0 = d.getD i 0 := by
  rw [List.getD_eq_getElem?_getD, List.getD_eq_getElem?_getD, List.getElem?_append_left h]
theorem exp_ext {c : Cu} {w : List UInt8} {y : Int} (t : List UInt8) (hc : 0 ≤ c.p) (hy : y ≠ 0) (h : (expU c w y).e = 0) : expU (ext c t) w y = ext (expU c w y) t := by
  obtain ⟨a1, a2, a3, a4⟩ := exp_e0 hy h
  have ha : (advU c w.length).e = 0 := by
    unfold advU
    rw [if_pos a1, if_pos ⟨by omega, a2⟩]
  rw [restU_of a1] at a2
  have hm : misI ((ext c t).d.drop (ext c t).p.toNat) w = none := by
    show misI ((c.d ++ t).drop c.p.toNat) w = none
    rw [← a3]
    refine misI_congr (fun i hi => ?_)
    rw [getD_drop, getD_drop]
    exact getD_app (by show c.p.toNat + i < c.d.length; omega)
  rw [a4]
  unfold expU
  rw [if_pos (advOk_iff.2 (by rw [adv_ext t ha]; exact ha)), hm]
  show advU (ext c t) w.length = _
  rw [adv_ext t ha, (adv_e0 ha).2.2.2]
theorem ver_ext {c : Cu} (t : List UInt8) (hc : 0 ≤ c.p) (h : (verU c).2.e = 0) : verU (ext c t) = ((verU c).1, ext (verU c).2 t) := by
  obtain ⟨a1, a2, a3, a4⟩ := ver_e0 h
  have ha : (advU c 1).e = 0 := by
    unfold advU
    rw [if_pos a1, if_pos ⟨by decide, a2⟩]
  rw [a4]
  unfold verU
  rw [adv_ext t ha, take_ext t hc ha, if_neg (show ¬ (ext (advU c 1) t).e ≠ 0 from fun x => x ha), if_neg a3, (adv_e0 ha).2.2.2]
theorem num4_ext {c : Cu} (t : List UInt8) (hc : 0 ≤ c.p) (h : (advU c 4).e = 0) : num4 (ext c t) = num4 c := by
  unfold num4
  rw [take_ext t hc h]
theorem hd_ext {c : Cu} (t : List UInt8) (hc : okU c) (h : (hdU c).2.e = 0) : hdU (ext c t) = ((hdU c).1, ext (hdU c).2 t) := by
  obtain ⟨h9, hcons, heq⟩ := hd_e c h
  have a8 := (adv_e0 (c := hq8 c) h9).1
  have a7 := (adv_e0 (c := hq7 c) a8).1
  have a6 := (adv_e0 (c := hq6 c) a7).1
  have a5 := (adv_e0 (c := hq5 c) a6).1
  have a4 := (adv_e0 (c := hq4 c) a5).1
  have a3 := (adv_e0 (c := hq3 c) a4).1
  have a2 := (exp_e0 (c := (hq2 c).2) (by decide) a3).1
  have a1 := (ver_e0 (c := hq1 c) a2).1
  have o1 : okU (hq1 c) := okU_exp hc
  have o2 : okU (hq2 c).2 := okU_ver o1
  have o3 : okU (hq3 c) := okU_exp o2
  have o4 : okU (hq4 c) := okU_adv o3
  have o5 : okU (hq5 c) := okU_adv o4
  have o6 : okU (hq6 c) := okU_adv o5
  have o7 : okU (hq7 c) := okU_adv o6
  have o8 : okU (hq8 c) := okU_adv o7
  have e1 : hq1 (ext c t) = ext (hq1 c) t := exp_ext t hc.1 (by decide) a1
  have e2 : hq2 (ext c t) = ((hq2 c).1, ext (hq2 c).2 t) := by
    show verU (hq1 (ext c t)) = _
    rw [e1]
    exact ver_ext t o1.1 a2
  have e3 : hq3 (ext c t) = ext (hq3 c) t := by
    show expU (hq2 (ext c t)).2 z15 5 = _
    rw [e2]
    exact exp_ext t o2.1 (by decide) a3
  have e4 : hq4 (ext c t) = ext (hq4 c) t := by
    show advU (hq3 (ext c t)) 4 = _
    rw [e3]; exact adv_ext t a4
  have e5 : hq5 (ext c t) = ext (hq5 c) t := by
    show advU (hq4 (ext c t)) 4 = _
    rw [e4]; exact adv_ext t a5
  have e6 : hq6 (ext c t) = ext (hq6 c) t := by
    show advU (hq5 (ext c t)) 4 = _
    rw [e5]; exact adv_ext t a6
  have e7 : hq7 (ext c t) = ext (hq7 c) t := by
    show advU (hq6 (ext c t)) 4 = _
    rw [e6]; exact adv_ext t a7
  have e8 : hq8 (ext c t) = ext (hq8 c) t := by
    show advU (hq7 (ext c t)) 4 = _
    rw [e7]; exact adv_ext t a8
  have e9 : hq9 (ext c t) = ext (hq9 c) t := by
    show advU (hq8 (ext c t)) 4 = _
    rw [e8]; exact adv_ext t h9
  have eH : hdRd (ext c t) = hdRd c := by
    unfold hdRd
    rw [e2, e3, e4, e5, e6, e7, e8, num4_ext t o3.1 a4, num4_ext t o4.1 a5, num4_ext t o5.1 a6, num4_ext t o6.1 a7, num4_ext t o7.1 a8, num4_ext t o8.1 h9]
  rw [heq]
  unfold hdU
  rw [if_pos (show (hq9 (ext c t)).e = 0 by rw [e9]; exact h9), eH, if_pos hcons, e9]
theorem pt_ext {d t : List UInt8} {o n : Int} (o0 : 0 ≤ o) (n0 : 0 ≤ n) (h : o + n ≤ (d.length : Int)) : pt (d ++ t) o n = pt d o n := by
  unfold pt
  exact drop_ext (by omega)
theorem dec_ext {k : Cu} {h : Hd} {s a : Int} (t : List UInt8) (hk : okU k) (hh : okH h) (hs : sz48 s) (he : (decU k h s a).2.e = 0) : decU (ext k t) h s a = ((decU k h s a).1, ext (decU k h s a).2 t) := by
  obtain ⟨d1, d2, d3, d4⟩ := dec_e0 he
  obtain ⟨q0, q1, q2, q3, q4, q5, q6, q7⟩ := sum_pos hh hs
  rw [restU_of d1] at d2
  obtain ⟨k1, k2, k3⟩ := hk
  have hl : (((k.d.drop k.p.toNat).length : Nat) : Int) = (k.d.length : Int) - k.p := by rw [List.length_drop]; omega
  have hdr : (ext k t).d.drop (ext k t).p.toNat = k.d.drop k.p.toNat ++ t := by
    show (k.d ++ t).drop k.p.toNat = _
    exact List.drop_append_of_le_length (by omega)
  have hsum : sumU h s = l0 h s + l1 h + l2 h + l3 h + l4 h s + l5 h + l6 h := rfl
  have hb0 : b0 (k.d.drop k.p.toNat ++ t) h s = b0 (k.d.drop k.p.toNat) h s := pt_ext (by decide) q0 (by omega)
  have hb1 : b1 (k.d.drop k.p.toNat ++ t) h s = b1 (k.d.drop k.p.toNat) h s := pt_ext (by unfold o1; omega) q1 (by unfold o1; omega)
  have hb2 : b2 (k.d.drop k.p.toNat ++ t) h s = b2 (k.d.drop k.p.toNat) h s := pt_ext (by unfold o2 o1; omega) q2 (by unfold o2 o1; omega)
  have hb3 : b3 (k.d.drop k.p.toNat ++ t) h s = b3 (k.d.drop k.p.toNat) h s := pt_ext (by unfold o3 o2 o1; omega) q3 (by unfold o3 o2 o1; omega)
  have hb4 : b4 (k.d.drop k.p.toNat ++ t) h s = b4 (k.d.drop k.p.toNat) h s := pt_ext (by unfold o4 o3 o2 o1; omega) q4 (by unfold o4 o3 o2 o1; omega)
  have hb5 : b5 (k.d.drop k.p.toNat ++ t) h s = b5 (k.d.drop k.p.toNat) h s := pt_ext (by unfold o5 o4 o3 o2 o1; omega) q5 (by unfold o5 o4 o3 o2 o1; omega)
  have hb6 : b6 (k.d.drop k.p.toNat ++ t) h s = b6 (k.d.drop k.p.toNat) h s := pt_ext (by unfold o6 o5 o4 o3 o2 o1; omega) q6 (by unfold o6 o5 o4 o3 o2 o1; omega)
  have hok : okD (k.d.drop k.p.toNat ++ t) h s = okD (k.d.drop k.p.toNat) h s := by
    unfold okD
    rw [hb2, hb5, hb6]
  have hdec : decB (k.d.drop k.p.toNat ++ t) h s = decB (k.d.drop k.p.toNat) h s := by
    unfold decB
    rw [hb0, hb1, hb2, hb3, hb4, hb5, hb6]
  have hf : fitsD (ext k t) h s = true := by
    refine decide_eq_true ?_
    rw [restU_of (c := ext k t) d1]
    show sumU h s ≤ ((k.d ++ t).length : Int) - k.p
    rw [List.length_append]; omega
  rw [d4]
  unfold decU
  rw [if_pos (show (ext k t).e = 0 from d1), if_pos hf, hdr, hok, if_pos d3, hdec]
  rfl
theorem ixB_app : ∀ (l t : List UInt8), 0 ≤ ixB l 10 → ixB (l ++ t) 10 = ixB l 10
  | [], t, h => by
    have : ixB [] 10 = -1 := rfl
    rw [this] at h
    cases h
  | b :: l, t, h => by
    unfold ixB at h ⊢
    rw [List.cons_append]
    unfold Lib.indexByte at h ⊢
    by_cases hb : (b == (Int.toNat 10).toUInt8) = true
    · rw [hb]; rfl
    · rw [Bool.eq_false_iff.2 hb] at h ⊢
      simp only [Bool.false_eq_true, if_false] at h ⊢
      have h0 : 0 ≤ ixB l 10 := by
        unfold ixB
        have hge := Lib.indexByte_ge l (Int.toNat 10).toUInt8
        split at h
        · cases h
        · rename_i hn
          simp only [beq_iff_eq] at hn
          omega
      have ih := ixB_app l t h0
      unfold ixB at ih
      rw [ih]
theorem foot_ext {c : Cu} (t : List UInt8) (hc : okU c) (he : c.e = 0) (ht : (((c.d ++ t).length : Nat) : Int) ≤ 1000000000000) : footU c ≤ footU (ext c t) := by
  have oE : okU (ext c t) := by
    obtain ⟨h1, h2, h3⟩ := hc
    refine ⟨h1, ?_, ht⟩
    show c.p ≤ ((c.d ++ t).length : Int)
    rw [List.length_append]; omega
  have g0 := (foot_bound oE).1
  by_cases h : (expU c nlC 14).e = 0
  · obtain ⟨a1, a2, a3, a4⟩ := exp_e0 (by decide) h
    have hx := exp_ext t hc.1 (by decide) h
    by_cases hi : 0 ≤ ixB ((expU c nlC 14).d.drop (expU c nlC 14).p.toNat) 10
    · have hd : (ext (expU c nlC 14) t).d.drop (ext (expU c nlC 14) t).p.toNat = (expU c nlC 14).d.drop (expU c nlC 14).p.toNat ++ t := by
        refine List.drop_append_of_le_length ?_
        rw [a4]
        rw [restU_of a1] at a2
        show (c.p + nlC.length).toNat ≤ c.d.length
        have := hc.1
        omega
      have e1 : footU c = ixB ((expU c nlC 14).d.drop (expU c nlC 14).p.toNat) 10 := by
        unfold footU
        rw [if_neg (fun x => x h), if_pos hi]
      have e2 : footU (ext c t) = ixB ((expU c nlC 14).d.drop (expU c nlC 14).p.toNat) 10 := by
        unfold footU
        rw [hx, hd, ixB_app _ _ hi, if_neg (show ¬ (ext (expU c nlC 14) t).e ≠ 0 from fun x => x h), if_pos hi]
      rw [e1, e2]; exact Int.le_refl _
    · have e1 : footU c = 0 := by
        unfold footU
        rw [if_neg (fun x => x h), if_neg hi]
      rw [e1]; exact g0
  · have e1 : footU c = 0 := by
      unfold footU
      rw [if_pos h]
    rw [e1]; exact g0
theorem okU_ext {c : Cu} {t : List UInt8} (hc : okU c) (ht : (((c.d ++ t).length : Nat) : Int) ≤ 1000000000000) : okU (ext c t) := by
  obtain ⟨h1, h2, h3⟩ := hc
  refine ⟨h1, ?_, ht⟩
  show c.p ≤ ((c.d ++ t).length : Int)
  rw [List.length_append]; omega
theorem cnt_ext {c : Cu} {s : Int} (t : List UInt8) (hc : okU c) (hs : sz48 s) (he : (hdU c).2.e = 0) (ht : (((c.d ++ t).length : Nat) : Int) ≤ 1000000000000) : cntP c s ≤ cntP (ext c t) s := by
  have hx := hd_ext t hc he
  obtain ⟨p1, p2, p3, p4, p5⟩ := hd_pos he
  have hn : 0 ≤ cntP (ext c t) s := (part_bound (okU_ext hc ht) hs (by rw [hx]; exact he)).1
  by_cases hf : sumU (hdU c).1 s ≤ restU (hdU c).2
  · have e1 : cntP c s = elems (hdU c).1 := by unfold cntP cntU; rw [if_pos hf]
    have hf' : sumU (hdU c).1 s ≤ restU (ext (hdU c).2 t) := by
      rw [restU_of he] at hf
      rw [restU_of (c := ext (hdU c).2 t) he]
      show _ ≤ (((hdU c).2.d ++ t).length : Int) - (hdU c).2.p
      rw [List.length_append]; omega
    have e2 : cntP (ext c t) s = elems (hdU c).1 := by
      unfold cntP cntU
      rw [hx]
      exact if_pos hf'
    rw [e1, e2]; exact Int.le_refl _
  · have e1 : cntP c s = 0 := by unfold cntP cntU; rw [if_neg hf]
    rw [e1]; exact hn
theorem next_ext {c : Cu} {s : Int} (t : List UInt8) (hc : okU c) (hs : sz48 s) (he : (hdU c).2.e = 0) (hn : (nextP c s).e = 0) : nextP (ext c t) s = ext (nextP c s) t := by
  have hx := hd_ext t hc he
  unfold nextP at hn ⊢
  rw [hx]
  show (decU (ext (hdU c).2 t) (hdU c).1 s 0).2 = _
  rw [dec_ext t (okU_hd hc) (okH_hd c) hs hn]
theorem measB_ext {A L A' L' : Int} {c : Cu} (t : List UInt8) (hc : okU c) (hA : A ≤ A') (hL : L ≤ L') (ht : (((c.d ++ t).length : Nat) : Int) ≤ 1000000000000) : (measB A L c).1 ≤ (measB A' L' (ext c t)).1 ∧ (measB A L c).2 ≤ (measB A' L' (ext c t)).2 := by
  by_cases he : (hdU c).2.e = 0
  · have hx := hd_ext t hc he
    have h1 := cnt_ext (s := 8) t hc sz8 he ht
    have hE : (hdU (ext c t)).2.e = 0 := by rw [hx]; exact he
    have e1 : measB A L c = (A + cntP c 8 + footU (nextP c 8), L + 6 + cntP c 8 + footU (nextP c 8)) := by unfold measB; rw [if_neg (fun x => x he)]
    have e2 : measB A' L' (ext c t) = (A' + cntP (ext c t) 8 + footU (nextP (ext c t) 8), L' + 6 + cntP (ext c t) 8 + footU (nextP (ext c t) 8)) := by unfold measB; rw [if_neg (fun x => x hE)]
    have hf : footU (nextP c 8) ≤ footU (nextP (ext c t) 8) := by
      by_cases hn : (nextP c 8).e = 0
      · obtain ⟨_, _, b3⟩ := part_bound hc sz8 he
        obtain ⟨k1, k2, k3⟩ := b3 hn
        rw [next_ext t hc sz8 he hn]
        exact foot_ext t k2 hn (by rw [k3]; exact ht)
      · rw [foot_stick hn]
        exact (foot_bound (okU_dec (okU_hd (okU_ext hc ht)) (okH_hd _) sz8)).1
    rw [e1, e2]
    constructor
    · show A + _ + _ ≤ A' + _ + _; omega
    · show L + 6 + _ + _ ≤ L' + 6 + _ + _; omega
  · have e1 : measB A L c = (A, L) := by unfold measB; rw [if_pos he]
    obtain ⟨n, n0, _, hm⟩ := measB_bound (A := A') (L := L') (okU_ext hc ht)
    rw [e1]
    rcases hm with hm | hm <;> rw [hm]
    · constructor
      · show A ≤ A' + n; omega
      · show L ≤ L' + n; omega
    · constructor
      · show A ≤ A' + n; omega
      · show L ≤ L' + 6 + n; omega
theorem meas_ext {b t : List UInt8} (ht : (((b ++ t).length : Nat) : Int) ≤ big') : (measU b).1 ≤ (measU (b ++ t)).1 ∧ (measU b).2 ≤ (measU (b ++ t)).2 := by
  have hbig : big' = 1000000000000 := rfl
  have hl : (b ++ t).length = b.length + t.length := List.length_append
  have hb : (b.length : Int) ≤ big' := by omega
  have o0 : okU ⟨b, 0, 0, 0⟩ := ⟨Int.le_refl 0, by show (0 : Int) ≤ (b.length : Int); omega, by show (b.length : Int) ≤ _; omega⟩
  have ht' : ((((⟨b, 0, 0, 0⟩ : Cu).d ++ t).length : Nat) : Int) ≤ 1000000000000 := by rw [← hbig]; exact ht
  have hE : (⟨b ++ t, 0, 0, 0⟩ : Cu) = ext ⟨b, 0, 0, 0⟩ t := rfl
  obtain ⟨k, k0, k1, m1, m2, m3⟩ := meas_bound ht
  by_cases he : (hdU ⟨b, 0, 0, 0⟩).2.e = 0
  · have hx := hd_ext t o0 he
    have hEe : (hdU (ext ⟨b, 0, 0, 0⟩ t)).2.e = 0 := by rw [hx]; exact he
    have h1 := cnt_ext (s := 4) t o0 sz4 he ht'
    by_cases hv : (nextP ⟨b, 0, 0, 0⟩ 4).e ≠ 0 ∨ (hdU ⟨b, 0, 0, 0⟩).1.v < 2
    · have e1 : measU b = (cntP ⟨b, 0, 0, 0⟩ 4, 6 + cntP ⟨b, 0, 0, 0⟩ 4) := by
        unfold measU measA
        rw [if_neg (fun x => x he), if_pos hv]
      rw [e1]
      have e2 : cntP (ext ⟨b, 0, 0, 0⟩ t) 4 ≤ (measU (b ++ t)).1 ∧ 6 + cntP (ext ⟨b, 0, 0, 0⟩ t) 4 ≤ (measU (b ++ t)).2 := by
        unfold measU measA
        rw [hE, if_neg (fun x => x hEe)]
        split
        · exact ⟨Int.le_refl _, Int.le_refl _⟩
        · have oN : okU (nextP (ext ⟨b, 0, 0, 0⟩ t) 4) := okU_dec (okU_hd (okU_ext o0 ht')) (okH_hd _) sz4
          obtain ⟨n, n0, _, hm⟩ := measB_bound (A := cntP (ext ⟨b, 0, 0, 0⟩ t) 4) (L := 6 + cntP (ext ⟨b, 0, 0, 0⟩ t) 4) oN
          rcases hm with hm | hm <;> rw [hm]
          · constructor
            · show _ ≤ _ + n; omega
            · show _ ≤ _ + n; omega
          · constructor
            · show _ ≤ _ + n; omega
            · show _ ≤ _ + 6 + n; omega
      exact ⟨Int.le_trans h1 e2.1, by show 6 + cntP ⟨b, 0, 0, 0⟩ 4 ≤ _; omega⟩
    · have hn : (nextP ⟨b, 0, 0, 0⟩ 4).e = 0 := Classical.byContradiction fun h => hv (.inl h)
      have hN := next_ext t o0 sz4 he hn
      obtain ⟨_, _, b3⟩ := part_bound o0 sz4 he
      obtain ⟨q1, q2, q3⟩ := b3 hn
      have hv' : ¬ ((nextP (ext ⟨b, 0, 0, 0⟩ t) 4).e ≠ 0 ∨ (hdU (ext ⟨b, 0, 0, 0⟩ t)).1.v < 2) := by
        rw [hN, hx]
        exact hv
      have e1 : measU b = measB (cntP ⟨b, 0, 0, 0⟩ 4) (6 + cntP ⟨b, 0, 0, 0⟩ 4) (nextP ⟨b, 0, 0, 0⟩ 4) := by
        unfold measU measA
        rw [if_neg (fun x => x he), if_neg hv]
      have e2 : measU (b ++ t) = measB (cntP (ext ⟨b, 0, 0, 0⟩ t) 4) (6 + cntP (ext ⟨b, 0, 0, 0⟩ t) 4) (ext (nextP ⟨b, 0, 0, 0⟩ 4) t) := by
        unfold measU measA
        rw [hE, if_neg (fun x => x hEe), if_neg hv', hN]
      rw [e1, e2]
      exact measB_ext t q2 h1 (by omega) (by rw [q3]; exact ht')
  · have e1 : measU b = (0, 0) := by
      unfold measU measA
      rw [if_pos he]
    rw [e1]
    exact ⟨m1, by show (0 : Int) ≤ _; omega⟩
end Y27
set_option maxRecDepth 100000
namespace Y27
open Go Go.AE Go.Proofs E6
attribute [local irreducible] loopK evCode evSpec loopB norm
theorem len_big {b : List UInt8} (h : (b.length : Int) ≤ 4000) : (b.length : Int) ≤ big' := by
  have : big' = 1000000000000 := rfl
  omega
theorem tmod_u {n : Int} (h : U32 n) : 0 ≤ n.tmod 2147483648 ∧ n.tmod 2147483648 ≤ 2147483647 := by
  obtain ⟨h1, h2⟩ := h
  rw [Int.tmod_eq_emod_of_nonneg h1]
  omega
theorem wrapu32 {n : Int} (h1 : 0 ≤ n) (h2 : n ≤ 4294967295) : IntKind.wrap .u32 n = n := by
  unfold IntKind.wrap
  simp only [IntKind.signed, IntKind.bits, Bool.false_and, Bool.false_eq_true, if_false]
  omega
set_option maxHeartbeats 2000000 in
theorem f7_ev (v iu is l t ty c v' iu' is' l' t' ty' c' : Int) (b d : List UInt8) (hh : okH ⟨v, iu, is, l, t, ty, c⟩) (hh' : okH ⟨v', iu', is', l', t', ty', c'⟩) (K : List AV → Prop) (hK : K [bo true]) : evSpec M7 Tryz.f7 [hdAV v iu is l t ty c, hdAV v' iu' is' l' t' ty' c', by' b, by' d] K := by
  refine Eq.mpr (f7_in v iu is l t ty c v' iu' is' l' t' ty' c' b d K) ?_
  obtain ⟨a1, a2, a3, a4, a5, a6⟩ := hh
  obtain ⟨b1, b2, b3, b4, b5, b6⟩ := hh'
  replace a1 := tmod_u a1
  replace a2 := tmod_u a2
  replace a3 := tmod_u a3
  replace a4 := tmod_u a4
  replace a5 := tmod_u a5
  replace a6 := tmod_u a6
  replace b1 := tmod_u b1
  replace b2 := tmod_u b2
  replace b3 := tmod_u b3
  replace b4 := tmod_u b4
  replace b5 := tmod_u b5
  replace b6 := tmod_u b6
  simp only at a1 a2 a3 a4 a5 a6 b1 b2 b3 b4 b5 b6
  generalize iu.tmod 2147483648 = p1 at *
  generalize is.tmod 2147483648 = p2 at *
  generalize l.tmod 2147483648 = p3 at *
  generalize t.tmod 2147483648 = p4 at *
  generalize ty.tmod 2147483648 = p5 at *
  generalize c.tmod 2147483648 = p6 at *
  generalize iu'.tmod 2147483648 = q1 at *
  generalize is'.tmod 2147483648 = q2 at *
  generalize l'.tmod 2147483648 = q3 at *
  generalize t'.tmod 2147483648 = q4 at *
  generalize ty'.tmod 2147483648 = q5 at *
  generalize c'.tmod 2147483648 = q6 at *
  rw [wrapu32 (n := p1 + q1) (by omega) (by omega), wrapu32 (n := p2 + q2) (by omega) (by omega), wrapu32 (n := p3 + q3) (by omega) (by omega), wrapu32 (n := p4 + q4) (by omega) (by omega), wrapu32 (n := p5 + q5) (by omega) (by omega), wrapu32 (n := p6 + q6) (by omega) (by omega)]
  have k1 : okH ⟨0, p1, p2, p3, p4, p5, p6⟩ := by unfold okH U32; simp only; omega
  have k2 : okH ⟨0, q1, q2, q3, q4, q5, q6⟩ := by unfold okH U32; simp only; omega
  have k3 : okH ⟨0, p1 + q1, p2 + q2, p3 + q3, p4 + q4, p5 + q5, p6 + q6⟩ := by unfold okH U32; simp only; omega
  have hE : (elems ⟨0, p1 + q1, p2 + q2, p3 + q3, p4 + q4, p5 + q5, p6 + q6⟩ == IntKind.wrap .u64 (elems ⟨0, p1, p2, p3, p4, p5, p6⟩ + elems ⟨0, q1, q2, q3, q4, q5, q6⟩)) = true := by
    have r1 := elems_rng k1
    have r2 := elems_rng k2
    rw [wrapU (by omega) (by omega)]
    simp only [elems, beq_iff_eq]
    omega
  intro Q1 Q2 A41 A43 A44 A46
  refine brn_intro (fun _ => hK) (fun h => ?_)
  simp only [Bool.not_true, Bool.false_or, Bool.or_eq_false_iff, decide_eq_false_iff_not] at h
  obtain ⟨h1, h2⟩ := h
  have e0 : List.map u8 ([] : List Int) ++ b ++ d = b ++ d := rfl
  have hlen : ((b ++ d).length : Int) = b.length + d.length := by rw [List.length_append]; omega
  have hb : (b.length : Int) ≤ big' := len_big (by omega)
  have hbd : ((b ++ d).length : Int) ≤ big' := len_big (by omega)
  obtain ⟨m1, m2⟩ := meas_ext hbd
  have a41 : A41 := by
    refine ⟨k2, brn_intro (fun _ => brn_intro (fun _ => ?_) (fun h => ?_)) (fun h => ?_)⟩
    · have e : decide (Prod.snd Q1 ≥ Prod.snd Q2) = true := decide_eq_true m2
      exact Eq.mpr (congrArg (fun x => K [.imm (.bool x)]) e) hK
    · exact absurd m1 (of_decide_eq_false h)
    · rw [hE] at h; cases h
  have a43 : A43 := ⟨k1, a41⟩
  have a44 : A44 := ⟨⟨k1, a41⟩, a43⟩
  have a46 : A46 := ⟨k3, a43⟩
  have e1 : (List.map u8 ([] : List Int)).length = 0 := rfl
  have e2 : (List.map u8 ([] : List Int) ++ b).length = b.length := rfl
  refine ⟨by decide, by decide, by decide, by decide, by decide, by decide, by decide, by decide, by decide, by decide, by decide, by decide, hb, by rw [e1]; omega, by rw [e1]; omega, by rw [e2]; omega, by rw [e2]; omega, hbd, ⟨k3, a44⟩, ⟨⟨k3, a44⟩, a46⟩, ⟨k3, a43⟩, a46⟩
end Y27
namespace Go.Proofs.YthdioiodfodlpaaGreatDoor
open Go Go.AE Go.Proofs Y27 E6
open Go.ChangeShapes Go.WideShapes Go.ChangeAt Go.RowKit Go.ChangeMaps
attribute [local irreducible] loopK evCode evSpec loopB norm evFunc
theorem Tryz.own : ownKnob Tryz.prog.godebug = none := by kernel_rfl
set_option maxRecDepth 100000 in
theorem f7_lifted (os : Os) (started : os.Started) (H : Type) (enc : TypeId × Value → H) :
    ReturnsInHanded {} Tryz.checked os 7 .any (fun w args => (Rows.costAddsUpSpec.pre enc Tryz.prog Tryz.f7 [] false w args ∧ laidMetH Tryz.prog Rows.costMatchesReferenceRow.laid w) ∧ sizedMet enc Tryz.prog Tryz.f7 (OpenSpec.ofChange Rows.costAddsUpSpec) false w args)
      (Rows.costAddsUpSpec.post enc Tryz.prog Tryz.f7 false true false false) := by
  refine returnsInHanded_of_change_and (C := Tryz.checked) (X := fun w _ => laidMetH Tryz.prog Rows.costMatchesReferenceRow.laid w) (fun _ _ _ hh h => h.of_heap hh) Tryz.own started (by kernel_rfl) Tryz.func7
    (ChangeSpec.witness_at (enc := enc) (C := Tryz.checked) (os := os) (X := fun w _ => laidMetH Tryz.prog Rows.costMatchesReferenceRow.laid w) false (laidWorld os) #[.agg #[.int .i64 0, .int .u32 0, .int .u32 0, .int .u32 0, .int .u32 0, .int .u32 0, .int .u32 0], .agg #[.int .i64 0, .int .u32 0, .int .u32 0, .int .u32 0, .int .u32 0, .int .u32 0, .int .u32 0], .slice none 0 0, .slice none 0 0] 8 rfl (by kernel_rfl) (by kernel_rfl) (by kernel_rfl) (by kernel_rfl) (by kernel_rfl) (door_met os _)) ?_
  intro W base args ds gs before hval0 hW _ hsz hL _
  obtain ⟨l⟩ := args
  have hval : ∀ (j : Nat) t v, Tryz.f7.params[j]? = some t → l[j]? = some v → Value.okWide Tryz.prog W .any base t v := fun j t v h1 h2 => hval0 j t v h1 (by simpa using h2)
  have hW' := hW
  obtain ⟨p, q, hB, hV, rfl, hfz, hnd⟩ := hW
  obtain ⟨rfl, rfl⟩ := trodVars_none hV
  have hA0 : DataW.TrodAll enc Tryz.prog W 0 (fun _ => true) true [25, 25, 22, 22] l ds p := by have h := hB; rw [Tryz.params7] at h; exact h
  rw [Tryz.params7] at hval
  clear hB hval0
  obtain ⟨v0, l, d0, ds, p0, p, rfl, rfl, h0, hA1, rfl⟩ := all_cons hA0
  obtain ⟨v1, l, d1, ds, p1, p, rfl, rfl, h1, hA2, rfl⟩ := all_cons hA1
  obtain ⟨v2, l, d2, ds, p2, p, rfl, rfl, h2, hA3, rfl⟩ := all_cons hA2
  obtain ⟨v3, l, d3, ds, p3, p, rfl, rfl, h3, hA4, rfl⟩ := all_cons hA3
  obtain ⟨rfl, rfl, rfl⟩ := all_nil hA4
  obtain ⟨i0, l0, rfl, k0⟩ := open_flat Tryz.underlying25 (by kernel_rfl : flatK Tryz.prog false 40 25 = some [(.int .i64), (.int .u32), (.int .u32), (.int .u32), (.int .u32), (.int .u32), (.int .u32)]) (hval 0 25 v0 rfl rfl) h0
  have K0 := k0
  obtain ⟨n0a, i0, l0, rfl, rfl, m0a, k0_1⟩ := k0.cons_int
  obtain ⟨n0b, i0, l0, rfl, rfl, m0b, k0_2⟩ := k0_1.cons_int
  obtain ⟨n0c, i0, l0, rfl, rfl, m0c, k0_3⟩ := k0_2.cons_int
  obtain ⟨n0d, i0, l0, rfl, rfl, m0d, k0_4⟩ := k0_3.cons_int
  obtain ⟨n0e, i0, l0, rfl, rfl, m0e, k0_5⟩ := k0_4.cons_int
  obtain ⟨n0f, i0, l0, rfl, rfl, m0f, k0_6⟩ := k0_5.cons_int
  obtain ⟨n0g, i0, l0, rfl, rfl, m0g, k0_7⟩ := k0_6.cons_int
  obtain ⟨rfl, rfl⟩ := k0_7.end
  obtain ⟨i1, l1, rfl, k1⟩ := open_flat Tryz.underlying25 (by kernel_rfl : flatK Tryz.prog false 40 25 = some [(.int .i64), (.int .u32), (.int .u32), (.int .u32), (.int .u32), (.int .u32), (.int .u32)]) (hval 1 25 v1 rfl rfl) h1
  have K1 := k1
  obtain ⟨n1a, i1, l1, rfl, rfl, m1a, k1_1⟩ := k1.cons_int
  obtain ⟨n1b, i1, l1, rfl, rfl, m1b, k1_2⟩ := k1_1.cons_int
  obtain ⟨n1c, i1, l1, rfl, rfl, m1c, k1_3⟩ := k1_2.cons_int
  obtain ⟨n1d, i1, l1, rfl, rfl, m1d, k1_4⟩ := k1_3.cons_int
  obtain ⟨n1e, i1, l1, rfl, rfl, m1e, k1_5⟩ := k1_4.cons_int
  obtain ⟨n1f, i1, l1, rfl, rfl, m1f, k1_6⟩ := k1_5.cons_int
  obtain ⟨n1g, i1, l1, rfl, rfl, m1g, k1_7⟩ := k1_6.cons_int
  obtain ⟨rfl, rfl⟩ := k1_7.end
  obtain ⟨l2, m2, r2⟩ := open_byteslice Tryz.underlying22 (by kernel_rfl : flatK Tryz.prog false 40 5 = some [.int .u8]) (by kernel_rfl) (by decide +kernel) (hval 2 22 v2 rfl rfl) h2 (fun el rs h => sized_slice hsz (j := 2) (by rw [Tryz.params7]; rfl) (by rw [h]; rfl) Tryz.underlying22)
  obtain ⟨l3, m3, r3⟩ := open_byteslice Tryz.underlying22 (by kernel_rfl : flatK Tryz.prog false 40 5 = some [.int .u8]) (by kernel_rfl) (by decide +kernel) (hval 3 22 v3 rfl rfl) h3 (fun el rs h => sized_slice hsz (j := 3) (by rw [Tryz.params7]; rfl) (by rw [h]; rfl) Tryz.underlying22)
  have hspec : SpecOK Tryz.prog G16 7 [.agg [.imm (.int .i64 n0a), .imm (.int .u32 n0b), .imm (.int .u32 n0c), .imm (.int .u32 n0d), .imm (.int .u32 n0e), .imm (.int .u32 n0f), .imm (.int .u32 n0g)], .agg [.imm (.int .i64 n1a), .imm (.int .u32 n1b), .imm (.int .u32 n1c), .imm (.int .u32 n1d), .imm (.int .u32 n1e), .imm (.int .u32 n1f), .imm (.int .u32 n1g)], .imm (.bytes l2), .imm (.bytes l3)] [] [.imm (.bool true)] := spec_ok (C := M7) okF15 noCall_ok Tryz.func7 (by kernel_rfl) (by kernel_rfl) (fun _ => f7_ev n0a n0b n0c n0d n0e n0f n0g n1a n1b n1c n1d n1e n1f n1g l2 l3 ⟨u32_of m0b, u32_of m0c, u32_of m0d, u32_of m0e, u32_of m0f, u32_of m0g⟩ ⟨u32_of m1b, u32_of m1c, u32_of m1d, u32_of m1e, u32_of m1f, u32_of m1g⟩ _ rfl)
  refine (bool_calls hspec (fun p h => by cases h) W _ rfl (fun j c hc => ?_) (gok_of_laid hL)).mono fun e W' ⟨he, hw⟩ => ?_
  · match j with
    | 0 => simp only [List.getElem?_cons_zero, Option.some.injEq] at hc; subst hc; exact K0.arep
    | 1 => simp only [List.getElem?_cons_succ, List.getElem?_cons_zero, Option.some.injEq] at hc; subst hc; exact K1.arep
    | 2 => simp only [List.getElem?_cons_succ, List.getElem?_cons_zero, Option.some.injEq] at hc; subst hc; exact rep_at r2 rfl
    | 3 => simp only [List.getElem?_cons_succ, List.getElem?_cons_zero, Option.some.injEq] at hc; subst hc; exact rep_at r3 rfl
    | j + 4 => simp at hc
  subst he
  exact ⟨_, rfl, row_post hW' rfl (by kernel_rfl) (by kernel_rfl) rfl rfl Tryz.underlying4 hw⟩
theorem f7_row : Rows.CostAddsUpSaid :=
  OpenClaim.holds_of_wide 7 Tryz.f7 rfl rfl rfl rfl rfl rfl rfl ⟨rfl, rfl, rfl, rfl, rfl⟩ rfl rfl rfl rfl rfl (by kernel_rfl) Tryz.func7 (by kernel_rfl)
    (of_decide_eq_true (by kernel_rfl)) (by unfold Func.isWrapper; first | (rw [if_pos (by decide +kernel)]; kernel_rfl) | (rw [if_neg (by decide +kernel)]; exact ⟨rfl, rfl⟩))
    (fun os started H enc _ => f7_lifted os started H enc)
theorem f7_holds : Rows.CostAddsUpCardSaid :=
  Claim7.holds_tied_plain_at .later [] [.data, .data, .handle] true Rows.costAddsUpCard.stood.harness true
    f7_row (fun _ h => by cases h) (by kernel_rfl) (fun _ h => by cases h) costAddsUp_row_tie rfl ⟨rfl, rfl⟩ (by kernel_rfl) rfl
    (fun f fn hf hfn => by
      obtain rfl : f = 7 := Option.some.inj ((show Tryz.prog.funcNamed "zoneinfo/zoneinfolaw27.CostAddsUp" = some 7 by kernel_rfl).symm.trans hf) |>.symm
      obtain rfl : fn = Tryz.f7 := (Option.some.inj (Tryz.func7.symm.trans hfn)).symm
      exact ⟨by kernel_rfl, fun j t ht => by
        rw [Tryz.params7] at ht
        have hm : t ∈ [25, 25, 22, 22] := by simpa using Array.mem_of_getElem? ht
        have hall : ([25, 25, 22, 22].all fun u => !Tryz.prog.wantsStandIn u) = true := by kernel_rfl
        exact (show Tryz.prog.wantsStandIn t = false by simpa using List.all_eq_true.1 hall t hm)⟩)
    (by kernel_rfl)
end Go.Proofs.YthdioiodfodlpaaGreatDoor
