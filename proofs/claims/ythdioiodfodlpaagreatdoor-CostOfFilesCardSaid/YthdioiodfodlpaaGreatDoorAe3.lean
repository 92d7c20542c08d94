/- The walk's evaluator and its laws (over whatever program), and contracts of the program's functions. -/
import Derived.Test.YthdioiodfodlpaaGreatDoorAe2
import Derived.LoopN
import Derived.Scope
import Derived.Laws.Sem
import Derived.Test.YthdioiodfodlpaaGreatDoorProg
import Derived.WalkKit
import Derived.LaidEql
import Derived.Stop.Asserts
import Derived.RowKitTokens
import Derived.KernelRfl
import Derived.Laws.BitsLemmas
import Derived.Lib.Walk
import Derived.Lib.SliceRun
import Derived.Lib.AppendZerosOnto
import Derived.Laws.Externs
set_option linter.all false
namespace Go.AE
open Go.RowKit
variable {C : Cx} {o : Oper} {a : Act} {g : Gh} {v : AV} {st : St} {gs gt : List (Nat × Bool)} {pres : List Prop} {b0 : Nat} {w0 : World}
theorem SReg.start {ops : Array Oper} (hT : TmpsRep g st.tmps a) : SReg (hasGuard ops) [] g (st.clean ops) a := by
  have hc : (st.clean ops).tmps.length = st.tmps.length ∧ (∀ t, ARep g (nth .dead (st.clean ops).tmps t) (a.tmps.getD t undef)) ∧ (hasGuard ops = true → ∀ t gs u, nth .dead (st.clean ops).tmps t ≠ .opt gs u) := by
    unfold St.clean
    cases hasGuard ops with
    | false => exact ⟨rfl, hT.2, fun h => by cases h⟩
    | true =>
      simp only [cond_true, lmap_eq]
      refine ⟨by simp, fun t => ?_, fun _ t gs u => ?_⟩
      · rw [nth_map _ rfl]; exact clean1_rep (hT.2 t)
      · rw [nth_map _ rfl]; exact clean1_ne _ gs u
  exact ⟨by rw [hT.1, hc.1], hc.2.1, fun t gs u _ hne hcd => by
    cases gs with
    | nil => exact absurd rfl hne
    | cons p r => have := hcd p (List.mem_cons_self ..); simp [gtGet] at this, fun ht t gs u e => absurd e (hc.2.2 ht t gs u), fun _ => rfl, fun t b h => by simp [gtGet] at h⟩
theorem clean_same (st : St) (ops : Array Oper) : (st.clean ops).objs = st.objs ∧ (st.clean ops).next = st.next ∧ (st.clean ops).outer = st.outer := by
  unfold St.clean
  cases hasGuard ops <;> exact ⟨rfl, rfl, rfl⟩
def AtExit (g : Gh) (st : St) (a : Act) (Q : Exit → Act → World → Prop) : AX → Prop
  | .normal => TmpsRep g st.tmps a → Q .normal a g.w
  | .exit id => TmpsRep g st.tmps a → Q (.exit id) a g.w
  | .ret => TmpsRep g st.tmps a → Q .ret a g.w
  | .panic v => ∀ V, ARep g v V → Q (.panic [{ v := V, recovered := false }]) a g.w
def Ends (T : List Nat) (C : Cx) (b0 : Nat) (w0 : World) (st : St) (g : Gh) (a : Act) (k : AX → St → Prop) (Q : Exit → Act → World → Prop) : Prop :=
  ∀ x st' g' a', k x st' → Mem C.G b0 w0 st'.objs st'.next g' → OStep st g st' g' → Kept T a a' → AtExit g' st' a' Q x
theorem noWl_ok {T : List Nat} : ∀ {l : List Oper}, noWl T l = true → ∀ o, o ∈ l → NoW T o
  | [], _, o, h => by cases h
  | x :: r, h, o, hm => by
    unfold noWl at h
    cases hb : noW1 T x.dst with
    | false => rw [hb] at h; cases h
    | true =>
      rw [hb, cond_true] at h
      rcases List.mem_cons.1 hm with rfl | hm
      · intro t ht
        rw [ht] at hb
        unfold noW1 at hb
        exact noWm_ok hb
      · exact noWl_ok h o hm
theorem evCode_sound {T : List Nat} (hE : EOK C.P C.E C.G) (hC : CallOK C) : ∀ (c : Code), noWC T c = true → ∀ (st : St) (g : Gh) (a : Act) (k : AX → St → Prop) (Q : Exit → Act → World → Prop), evCode C c st k → Mem C.G b0 w0 st.objs st.next g → TmpsRep g st.tmps a → Ends T C b0 w0 st g a k Q → c.wp C.P Q a g.w := by
  intro c
  induction c with
  | skip => exact fun _ st g a k Q h hM hT hk => wp_skip (hk .normal st g a h hM (.refl _ _) (.refl _ _) hT)
  | exit id => exact fun _ st g a k Q h hM hT hk => wp_exit (hk (.exit id) st g a h hM (.refl _ _) (.refl _ _) hT)
  | ret => exact fun _ st g a k Q h hM hT hk => wp_ret (hk .ret st g a h hM (.refl _ _) (.refl _ _) hT)
  | label l => exact fun _ st g a k Q h hM hT hk => wp_label (hk .normal st g a h hM (.refl _ _) (.refl _ _) hT)
  | scope c ih =>
    intro hW st g a k Q h hM hT hk
    simp only [noWC] at hW
    simp only [evCode] at h
    refine wp_scope_straight (ih hW st g a _ _ h hM hT (fun e st1 g1 a1 h1 hM1 hO1 hd1 => ?_))
    have := hk e st1 g1 a1 h1 hM1 hO1 hd1
    cases e <;> exact this
  | seq x y ihx ihy =>
    intro hW st g a k Q h hM hT hk
    simp only [noWC] at hW
    simp only [evCode] at h
    obtain ⟨hW1, hW2⟩ := bif_and hW
    refine wp_seq (ihx hW1 st g a _ _ h hM hT (fun e st1 g1 a1 h1 hM1 hO1 hd1 => ?_))
    cases e with
    | normal =>
      intro hT1
      simp only [Exit.then]
      exact ihy hW2 st1 g1 a1 k Q h1 hM1 hT1 (fun e st2 g2 a2 h2 hM2 hO2 hd2 => hk e st2 g2 a2 h2 hM2 (hO1.trans hO2) (hd1.trans hd2))
    | exit id => exact hk (.exit id) st1 g1 a1 h1 hM1 hO1 hd1
    | ret => exact hk .ret st1 g1 a1 h1 hM1 hO1 hd1
    | panic v => exact hk (.panic v) st1 g1 a1 h1 hM1 hO1 hd1
  | cond c x y ihx ihy =>
    intro hW st g a k Q h hM hT hk
    simp only [noWC] at hW
    simp only [evCode] at h
    obtain ⟨hW1, hW2⟩ := bif_and hW
    split at h
    case h_2 => exact h.elim
    rename_i t e
    have hR : SReg false [] g st a := ⟨hT.1, hT.2, fun t gs u _ hne hcd => (by
      cases gs with
      | nil => exact absurd rfl hne
      | cons p r => have := hcd p (List.mem_cons_self ..); simp [gtGet] at this), fun h => (by cases h), fun _ => rfl, fun t b h => (by simp [gtGet] at h)⟩
    have hc := opd_sound hR (gs := []) (fun p hp => by cases hp) c
    rw [e] at hc
    have hc := arep_bool hc
    cases t with
    | true => exact wp_cond_true hc (ihx hW1 st g a k Q (brn_true h rfl) hM hT hk)
    | false => exact wp_cond_false hc (ihy hW2 st g a k Q (brn_false h rfl) hM hT hk)
  | block id c ih =>
    intro hW st g a k Q h hM hT hk
    simp only [noWC] at hW
    simp only [evCode] at h
    refine wp_block (ih hW st g a _ _ h hM hT (fun e st1 g1 a1 h1 hM1 hO1 hd1 => ?_))
    cases e with
    | normal => exact hk .normal st1 g1 a1 h1 hM1 hO1 hd1
    | exit i =>
      intro hT1
      simp only [Exit.inBlock]
      cases hb : Nat.beq i id with
      | true =>
        have := nbeq hb
        subst this
        simp only [hb, cond_true] at h1
        rw [if_pos rfl]
        exact hk .normal st1 g1 a1 h1 hM1 hO1 hd1 hT1
      | false =>
        simp only [hb, cond_false] at h1
        rw [if_neg (fun e => by subst e; rw [nbeq_self] at hb; cases hb)]
        exact hk (.exit i) st1 g1 a1 h1 hM1 hO1 hd1 hT1
    | ret => exact hk .ret st1 g1 a1 h1 hM1 hO1 hd1
    | panic v => exact hk (.panic v) st1 g1 a1 h1 hM1 hO1 hd1
  | loop c ih =>
    intro hW st g a k Q h hM hT hk
    simp only [noWC] at hW
    simp only [evCode] at h
    split at h
    · obtain ⟨n, h⟩ := h
      refine wp_loop_rounds n ?_
      induction n generalizing st g a with
      | zero => exact h.elim
      | succ n ihn =>
        obtain ⟨p, st1, hnm, h⟩ := h
        obtain ⟨g1, w1⟩ := norm_sound hM hT hnm
        rw [rounds_succ, ← w1.w]
        refine ih hW st1 g1 a _ _ h w1.mem w1.tmps (fun e st2 g2 a2 h2 hM2 hO2 hd2 => ?_)
        have hO := w1.step.trans hO2
        cases e with
        | normal =>
          intro hT2
          simp only [Exit.then]
          exact ihn st2 g2 a2 hM2 hT2 (fun e st3 g3 a3 h3 hM3 hO3 hd3 => hk e st3 g3 a3 h3 hM3 (hO.trans hO3) (hd2.trans hd3)) h2
        | exit id => exact hk (.exit id) st2 g2 a2 h2 hM2 hO hd2
        | ret => exact hk .ret st2 g2 a2 h2 hM2 hO hd2
        | panic v => exact hk (.panic v) st2 g2 a2 h2 hM2 hO hd2
    · rename_i n _
      refine wp_loop_rounds (n + 1) ?_
      generalize n + 1 = m at h
      induction m generalizing st g a with
      | zero => exact h.elim
      | succ n ihn =>
        rw [rounds_succ]
        refine ih hW st g a _ _ h hM hT (fun e st2 g2 a2 h2 hM2 hO2 hd2 => ?_)
        cases e with
        | normal =>
          intro hT2
          simp only [Exit.then]
          exact ihn st2 g2 a2 hM2 hT2 (fun e st3 g3 a3 h3 hM3 hO3 hd3 => hk e st3 g3 a3 h3 hM3 (hO2.trans hO3) (hd2.trans hd3)) h2
        | exit id => exact hk (.exit id) st2 g2 a2 h2 hM2 hO2 hd2
        | ret => exact hk .ret st2 g2 a2 h2 hM2 hO2 hd2
        | panic v => exact hk (.panic v) st2 g2 a2 h2 hM2 hO2 hd2
  | region id ops draw =>
    intro hW st0 g0 a k Q h0 hM0 hT0 hk0
    simp only [noWC] at hW
    have main : ∀ (st : St) (g : Gh), evRegion C ops draw st k → Mem C.G b0 w0 st.objs st.next g → TmpsRep g st.tmps a → Ends T C b0 w0 st g a k Q → (Code.region id ops draw).wp C.P Q a g.w := by
      intro st g h hM hT hk
      cases draw with
      | true =>
        simp only [evRegion, cond_true] at h
        unfold evDrawR at h
        cases hgd : (bif hasGuard ops then Region.lexTailB .any ops (tailAt ops.toList) else false) with
        | true =>
          rw [hgd, cond_true] at h
          unfold evTail at h
          cases hm : C.P.follows .mixedOrders with
          | false => rw [hm] at h; exact h.elim
          | true =>
            rw [hm, cond_true] at h
            cases hl : Region.lexTailB .any ops (tailAt ops.toList) with
            | false => rw [hl] at h; exact h.elim
            | true =>
              rw [hl, cond_true] at h
              obtain ⟨e1, e2, e3⟩ := clean_same st ops
              have hb : Below g.w.heap.size g.w { g.w with drawn := g.w.drawn + 1 } := ⟨rfl, rfl, rfl, Nat.le_refl _, fun _ _ => rfl⟩
              have hx := ext_grow (g := g) hb
              have hst := stays_grow (g := g) (w' := { g.w with drawn := g.w.drawn + 1 })
              have hT' : TmpsRep { g with w := { g.w with drawn := g.w.drawn + 1 } } st.tmps a := ⟨hT.1, fun t => (hT.2 t).grow hb⟩
              have hO0 : OStep st g (st.clean ops) { g with w := { g.w with drawn := g.w.drawn + 1 } } := (OStep.mk ⟨rfl, fun t => .of hx hst _⟩ rfl : OStep st g st { g with w := { g.w with drawn := g.w.drawn + 1 } }).same e3
              have key := evOps_still (Q := Q) hE hC (ops.toList.drop (tailAt ops.toList)) (fun o ho => noWl_ok hW o (List.mem_of_mem_drop ho)) (ops.toList.take (tailAt ops.toList)) (fun o ho => noWl_ok hW o (List.mem_of_mem_take ho)) (headLen_spec _ _ (tailAt_le _)) [] (st.clean ops) _ a (by rw [List.take_append_drop]; exact h) (by rw [e1, e2]; exact hM.grow hb) (SReg.start hT')
                (fun st1 g1 a1 h1 hM1 hT1 hO1 hd1 => hk .normal st1 g1 a1 h1 hM1 (hO0.trans hO1) hd1 hT1) (fun v st1 g1 V a1 h1 hM1 hO1 hr1 hd1 => hk (.panic v) st1 g1 a1 h1 hM1 (hO0.trans hO1) hd1 V hr1)
              have := wp_region_still_tail (id := id) (l := ops.toList) (tailAt ops.toList) hm (by simpa using hl) (by simpa using key)
              simpa using this
        | false =>
        rw [hgd, cond_false] at h
        cases hH : (bif hasGuard ops then false else C.joins) with
        | true =>
          rw [hH, cond_true] at h
          unfold evDrawnH at h
          cases hm : C.P.follows .mixedOrders with
          | false => rw [hm] at h; exact h.elim
          | true =>
            rw [hm, cond_true] at h
            cases hs : noSelL ops.toList with
            | false => rw [hs] at h; exact h.elim
            | true =>
              rw [hs, cond_true] at h
              have hb : Below g.w.heap.size g.w { g.w with drawn := g.w.drawn + 1 } := ⟨rfl, rfl, rfl, Nat.le_refl _, fun _ _ => rfl⟩
              have hx := ext_grow (g := g) hb
              have hst := stays_grow (g := g) (w' := { g.w with drawn := g.w.drawn + 1 })
              have hR : SReg false [] { g with w := { g.w with drawn := g.w.drawn + 1 } } st a := by
                have := SReg.start (ops := #[]) hT
                have h2 : SReg false [] g st a := this
                exact h2.step rfl (fun t => .of hx hst _)
              have hO : OStep st g st { g with w := { g.w with drawn := g.w.drawn + 1 } } := ⟨⟨rfl, fun t => .of hx hst _⟩, rfl⟩
              let Q' : Exit → Act → World → Prop := fun e a' w' => match e with
                | .normal => Q .normal a' w'
                | .panic c => Kept T a a' ∧ ∀ a'' : Act, Kept T a a'' → Q (.panic c) a'' w'
                | _ => False
              have key : wpAny C.P .any ops Q' ops.size (Array.replicate ops.size false) a { g.w with drawn := g.w.drawn + 1 } := by
                have gen : ∀ K : St → Prop, (∀ st1 g1 a1, K st1 → Mem C.G b0 w0 st1.objs st1.next g1 → TmpsRep g1 st1.tmps a1 → OStep st { g with w := { g.w with drawn := g.w.drawn + 1 } } st1 g1 → Kept T a a1 → Q .normal a1 g1.w) →
                    evDrawH C ops.toList (fun v st => k (AX.panic v) st) (heldIds ops.toList st) (llen ops.toList) (fals (llen ops.toList) []) st K → wpAny C.P .any ops Q' ops.size (Array.replicate ops.size false) a { g.w with drawn := g.w.drawn + 1 } := by
                  intro K hK h
                  have := evDrawH_sound (Q := Q') hE hC (noSelL_ok hs) (noWl_ok hW) (fun c a' d V w' hn h => ⟨h.1.trans (kept_put hn a' V).symm, h.2⟩) (cellIds_spec (hM.grow hb)) (hM.grow hb).glob _ _ st _ a h (hM.grow hb) hR (Ext.refl _) (fun _ _ _ _ h => h) ⟨Nat.le_refl _, fun _ _ => rfl⟩ (fun st1 g1 a1 h1 hM1 hT1 hO1 hd1 => hK st1 g1 a1 h1 hM1 hT1 hO1 hd1)
                    (fun v st1 g1 V a1 h1 hM1 hO1 hr1 hd1 => ⟨hd1, fun a'' hd2 => hk (.panic v) st1 g1 a'' h1 hM1 (hO.trans hO1) hd2 V hr1⟩)
                  have := wpAny_of_held _ _ _ _ this
                  simpa [llen_eq, fals_eq] using this
                cases hJ : Nat.ble 3000 C.unroll with
                | false =>
                  rw [hJ, cond_false] at h
                  exact gen _ (fun st1 g1 a1 h1 hM1 hT1 hO1 hd1 => hk .normal st1 g1 a1 h1 hM1 (hO.trans hO1) hd1 hT1) h
                | true =>
                  rw [hJ, cond_true] at h
                  unfold evJoin at h
                  obtain ⟨S0, h⟩ := firstP_ex _ _ _ h
                  split at h
                  case h_2 => exact h.elim
                  rename_i S _
                  rw [St.forceP_eq] at h
                  refine gen _ (fun st1 g1 a1 h1 hM1 hT1 hO1 hd1 => ?_) h.1
                  obtain ⟨g2, w2⟩ := norm_sound hM1 hT1 h1
                  have := hk .normal S g2 a1 h.2 w2.mem (hO.trans (hO1.trans w2.step)) hd1 w2.tmps
                  rw [w2.w] at this
                  exact this
              exact Code.wp_mono (fun e a' w' h => by
                cases e with
                | normal => exact h
                | panic c => exact h.2 a' h.1
                | _ => exact h.elim) (wp_region_any hm key)
        | false =>
          rw [hH, cond_false] at h
          unfold evDrawn at h
          cases hm : C.P.follows .mixedOrders with
          | false => rw [hm] at h; exact h.elim
          | true =>
            rw [hm, cond_true] at h
            cases hs : noSelL ops.toList with
            | false => rw [hs] at h; exact h.elim
            | true =>
              rw [hs, cond_true] at h
              have hb : Below g.w.heap.size g.w { g.w with drawn := g.w.drawn + 1 } := ⟨rfl, rfl, rfl, Nat.le_refl _, fun _ _ => rfl⟩
              have hx := ext_grow (g := g) hb
              have hst := stays_grow (g := g) (w' := { g.w with drawn := g.w.drawn + 1 })
              have hR : SReg false [] { g with w := { g.w with drawn := g.w.drawn + 1 } } st a := by
                have := SReg.start (ops := #[]) hT
                have h2 : SReg false [] g st a := this
                exact h2.step rfl (fun t => .of hx hst _)
              have hO : OStep st g st { g with w := { g.w with drawn := g.w.drawn + 1 } } := ⟨⟨rfl, fun t => .of hx hst _⟩, rfl⟩
              let Q' : Exit → Act → World → Prop := fun e a' w' => match e with
                | .normal => Q .normal a' w'
                | .panic c => Kept T a a' ∧ ∀ a'' : Act, Kept T a a'' → Q (.panic c) a'' w'
                | _ => False
              have key : wpAny C.P .any ops Q' ops.size (Array.replicate ops.size false) a { g.w with drawn := g.w.drawn + 1 } := by
                have := evDraw_sound (Q := Q') hE hC (noSelL_ok hs) (noWl_ok hW) (fun c a' d V w' hn h => ⟨h.1.trans (kept_put hn a' V).symm, h.2⟩) _ _ _ _ st _ a h (hM.grow hb) hR (fun st1 g1 a1 h1 hM1 hT1 hO1 hd1 => hk .normal st1 g1 a1 h1 hM1 (hO.trans hO1) hd1 hT1)
                  (fun v st1 g1 V a1 h1 hM1 hO1 hr1 hd1 => ⟨hd1, fun a'' hd2 => hk (.panic v) st1 g1 a'' h1 hM1 (hO.trans hO1) hd2 V hr1⟩)
                simpa [llen_eq, fals_eq] using this
              exact Code.wp_mono (fun e a' w' h => by
                cases e with
                | normal => exact h
                | panic c => exact h.2 a' h.1
                | _ => exact h.elim) (wp_region_any hm key)
      | false =>
        simp only [evRegion, cond_false] at h
        obtain ⟨e1, e2, e3⟩ := clean_same st ops
        have hO0 : OStep st g (st.clean ops) g := (OStep.refl st g).same e3
        refine wp_region_list (evOps_sound hE hC ops.toList (noWl_ok hW) [] (st.clean ops) g a h (by rw [e1, e2]; exact hM) (SReg.start hT) (fun st1 g1 a1 h1 hM1 hT1 hO1 hd1 => ?_) (fun v st1 g1 V a1 h1 hM1 hO1 hr1 hd1 => ?_))
        · exact hk .normal st1 g1 a1 h1 hM1 (hO0.trans hO1) hd1 hT1
        · exact hk (.panic v) st1 g1 a1 h1 hM1 (hO0.trans hO1) hd1 V hr1
    simp only [evCode] at h0
    cases hb : Nat.ble 4000 C.unroll with
    | false => rw [hb, cond_false] at h0; exact main st0 g0 h0 hM0 hT0 hk0
    | true =>
      rw [hb, cond_true] at h0
      split at h0
      case h_2 => exact h0.elim
      rename_i S hS
      rw [St.forceP_eq] at h0
      obtain ⟨g1, w1⟩ := norm_sound hM0 hT0 hS
      rw [← w1.w]
      exact main S g1 h0 w1.mem w1.tmps (fun e st2 g2 a2 h2 hM2 hO2 hd2 => hk0 e st2 g2 a2 h2 hM2 (w1.step.trans hO2) hd2)
  | _ => intro _ st g a k Q h; simp [evCode] at h
end Go.AE
namespace Go.AE
open Go.RowKit
variable {C : Cx} {o : Oper} {a : Act} {g : Gh} {v : AV} {st : St} {gs gt : List (Nat × Bool)} {pres : List Prop} {b0 : Nat} {w0 : World}
def resStep (tmps : Array Value) : ResultVar → Sem Value
  | .tmp t => pure (tmps.getD t undef)
  | .cell a t => do loadVar t (← asAddr (tmps.getD a undef))
theorem results_eq (fn : Func) (tmps : Array Value) (P : Program) (w : World) (Vs : List Value) (h : (List.mapM (resStep tmps) fn.results.toList).run P w = .ok Vs w) : (results fn tmps).run P w = .ok (resV Vs) w := by
  have he : results fn tmps = (do
      let vs ← fn.results.mapM (resStep tmps)
      pure (if h : vs.size = 1 then vs[0] else .tuple vs)) := by
    unfold results
    congr 1
  rw [he, Array.mapM_eq_mapM_toList]
  simp only [map_eq_pure_bind, Sem.run_bind, h, Result.andThen_ok, Sem.run_pure]
  congr 1
  match Vs with
  | [] => rfl
  | [V] => rfl
  | _ :: _ :: _ => rfl
theorem resOf_sound (hM : Mem C.G b0 w0 st.objs st.next g) (hT : TmpsRep g st.tmps a) : ∀ {l : List ResultVar} {vs : List AV}, resOf C.P st l = some vs →
    ∃ Vs : List Value, (List.mapM (resStep a.tmps) l).run C.P g.w = .ok Vs g.w ∧ Vs.length = vs.length ∧ ∀ (j : Nat) c, vs[j]? = some c → ∃ V, Vs[j]? = some V ∧ ARep g c V
  | [], vs, h => by
    simp only [resOf, Option.some.injEq] at h
    subst h
    exact ⟨[], by simp [Sem.run_pure], rfl, fun j c h => by simp at h⟩
  | .tmp t :: r, vs, h => by
    simp only [resOf, omap_eq, Option.map_eq_some_iff] at h
    obtain ⟨vs', h1, rfl⟩ := h
    obtain ⟨Vs, k1, k2, k3⟩ := resOf_sound hM hT h1
    refine ⟨a.tmps.getD t undef :: Vs, ?_, by simp [k2], fun j c hc => ?_⟩
    · rw [List.mapM_cons]
      simp only [resStep, Sem.run_bind, Sem.run_pure, Result.andThen_ok, k1]
    · cases j with
      | zero => simp only [List.getElem?_cons_zero, Option.some.injEq] at hc; subst hc; exact ⟨_, rfl, clean1_rep (hT.2 t)⟩
      | succ j => exact k3 j c (by simpa using hc)
  | .cell t ty :: r, vs, h => by
    simp only [resOf] at h
    split at h
    case h_2 => cases h
    rename_i id off ti e ht
    split at h
    case h_2 => cases h
    rename_i own ver l hlk
    obtain ⟨hb, h⟩ := bif_some h
    have hl := nble hb
    rw [llen_eq] at hl
    split at h
    case h_2 => cases h
    rename_i ps v hread
    simp only [omap_eq, Option.map_eq_some_iff] at h
    obtain ⟨vs', h1, rfl⟩ := h
    obtain ⟨Vs, k1, k2, k3⟩ := resOf_sound hM hT h1
    have hx := hT.2 t
    rw [e] at hx
    generalize hX : a.tmps.getD t undef = X at hx
    cases hx with
    | @ptr _ _ b _ r1 r2 =>
      rw [hM.same] at r1
      rw [hlk] at r1
      cases r1
      have hob := hM.each id _ (by rw [hM.same]; exact hlk)
      rw [r2] at hob
      generalize g.ex id = ee at hob
      cases hob with
      | @cells _ _ _ _ c T fr q1 q2 q3 q4 q5 q6 =>
        obtain ⟨m1, m2⟩ := run_loadAt (P := C.P) g.w ht ⟨b, off, none⟩ (fun j => c.getD (off + j) undef) (fun j hj => by
          rw [add_plain, cell_of_row g.w b (off + j) c T fr q2]
          exact some_of_lt (by omega))
        have hlen : (ltake ti.size (ldrop off l)).length = ti.size := by simp [ltake_eq, ldrop_eq]; omega
        have hr : ∀ (j : Nat) u, (ltake ti.size (ldrop off l))[j]? = some u → ARep g u (c.getD (off + j) undef) := fun j u hu => q5 _ _ (take_get hu).2
        obtain ⟨V, hV, hrep⟩ : ∃ V, (Instr.loadAt ty (.pointer (some ⟨b, off, none⟩))).run C.P g.w = .ok V g.w ∧ ARep g v V := by
          obtain ⟨_, ⟨ha, rfl⟩ | ⟨ha, hs1⟩⟩ := readCells_spec hread
          · refine ⟨_, m1 ha, .agg (by simp [hlen]) (fun j u hu => ?_) (fun j hj => ?_)⟩
            · have hj : j < ti.size := by rw [← hlen]; exact (List.getElem?_eq_some_iff.1 hu).1
              rw [getD_range _ _ _ hj]
              exact hr j u hu
            · have hj : j < ti.size := by simpa using hj
              rw [getD_range _ _ _ hj]
              exact q6 _ (by omega)
          · have h0 : 0 < ti.size := by rw [← hlen, hs1]; simp
            exact ⟨_, m2 ha h0, hr 0 v (by rw [hs1]; rfl)⟩
        refine ⟨V :: Vs, ?_, by simp [k2], fun j u hc => ?_⟩
        · have hload : (loadVar ty ⟨b, off, none⟩).run C.P g.w = .ok V g.w := by
            simpa only [Instr.loadAt, Instr.sureAddr, Sem.run_bind, Sem.run_pure, Result.andThen_ok] using hV
          rw [List.mapM_cons]
          simp only [resStep, hX, asAddr, Sem.run_bind, Sem.run_pure, Result.andThen_ok, hload, k1]
        · cases j with
          | zero => simp only [List.getElem?_cons_zero, Option.some.injEq] at hc; subst hc; exact ⟨_, rfl, typedA_sound hrep⟩
          | succ j => exact k3 j u (by simpa using hc)
theorem nth_app (x y : List AV) (t : Nat) : nth .dead (x ++ y) t = if t < x.length then nth .dead x t else nth .dead y (t - x.length) := by
  simp only [nth_eq, List.getD_eq_getElem?_getD]
  by_cases h : t < x.length
  · rw [if_pos h, List.getElem?_append_left h]
  · rw [if_neg h, List.getElem?_append_right (by omega)]
theorem nth_take (l : List AV) (n t : Nat) : nth .dead (l.take n) t = if t < n then nth .dead l t else .dead := by
  simp only [nth_eq, List.getD_eq_getElem?_getD]
  by_cases h : t < n
  · rw [if_pos h, List.getElem?_take_of_lt h]
  · rw [if_neg h, List.getElem?_eq_none (by simp; omega)]
    rfl
theorem nth_drop (l : List AV) (n t : Nat) : nth .dead (l.drop n) t = nth .dead l (n + t) := by
  simp only [nth_eq, List.getD_eq_getElem?_getD, List.getElem?_drop]
theorem nth_out {l : List AV} {t : Nat} (h : l.length ≤ t) : nth .dead l t = .dead := by
  rw [nth_eq, List.getD_eq_getElem?_getD, List.getElem?_eq_none h]
  rfl
theorem Img.dead (g g' : Gh) : Img g g' .dead .dead := ⟨fun _ _ => .dead, fun _ _ => rfl, fun _ _ h => by (cases h), fun _ _ _ => rfl⟩
theorem leave_step {n : Nat} {args : List AV} {st1 : St} {g1 : Gh} (h : OStep (entry n args st) g st1 g1) : Step st g (leave (llen st.tmps) st1) g1 := by
  obtain ⟨⟨hl, hi⟩, hb⟩ := h
  simp only [entry, lapp_eq, List.length_append] at hl hi
  refine ⟨⟨?_, fun t => ?_⟩, ⟨?_, fun t => ?_⟩, hb⟩
  · simp only [leave, ltake_eq, llen_eq, List.length_take]; omega
  · simp only [leave, ltake_eq, llen_eq]
    rw [nth_take]
    by_cases ht : t < st.tmps.length
    · rw [if_pos ht]
      have := hi t
      rwa [nth_app, if_pos ht] at this
    · rw [if_neg ht, nth_out (by omega)]
      exact .dead g g1
  · simp only [leave, ldrop_eq, llen_eq, List.length_drop]; omega
  · simp only [leave, ldrop_eq, llen_eq]
    rw [nth_drop]
    have := hi (st.tmps.length + t)
    rwa [nth_app, if_neg (by omega), Nat.add_sub_cancel_left] at this
def FuncDone (C : Cx) (b0 : Nat) (w0 : World) (st : St) (g : Gh) (k : List AV → St → Prop) (kp : AV → St → Prop) (e : Ending) (w' : World) : Prop :=
  (∃ vs st' g' Vs, e = .returned (resV Vs) ∧ k vs st' ∧ Mem C.G b0 w0 st'.objs st'.next g' ∧ g'.w = w' ∧ Step st g st' g' ∧ Vs.length = vs.length ∧ ∀ (j : Nat) c, vs[j]? = some c → ∃ V, Vs[j]? = some V ∧ ARep g' c V) ∨
  (∃ v st' g' V, e = .panicked [{ v := V, recovered := false }] ∧ kp v st' ∧ Mem C.G b0 w0 st'.objs st'.next g' ∧ g'.w = w' ∧ Step st g st' g' ∧ ARep g' v V)
theorem evFunc_sound {fn : Func} {f : FuncId} {args : List AV} {vals : Array Value} {k : List AV → St → Prop} {kp : AV → St → Prop} (hE : EOK C.P C.E C.G) (hC : CallOK C) (hf : C.P.funcs[f]? = some fn) (h : evFunc C fn args st k kp) (hM : Mem C.G b0 w0 st.objs st.next g)
    (hsz : vals.size = args.length) (hr : ∀ (j : Nat) c, args[j]? = some c → ARep g c (vals.getD j undef)) : fn.body.isNone = false ∧ Calls C.P f vals g.w (FuncDone C b0 w0 st g k kp) := by
  unfold evFunc at h
  split at h
  · exact h.elim
  rename_i c hbody
  refine ⟨by rw [hbody]; rfl, calls_of_wp hf hbody ?_⟩
  have hT : TmpsRep g (entry fn.ntmps args st).tmps { tmps := vals ++ Array.replicate (fn.ntmps - vals.size) undef, defers := [] } := by
    refine ⟨?_, fun t => ?_⟩
    · simp [entry, lapp_eq, lrepl_eq, llen_eq, hsz]
    · simp only [entry, lapp_eq, lrepl_eq, llen_eq]
      rw [nth_app]
      by_cases ht : t < args.length
      · rw [if_pos ht, Array.getD_eq_getD_getElem?, Array.getElem?_append, if_pos (by omega), ← Array.getD_eq_getD_getElem?, nth_eq, List.getD_eq_getElem?_getD, List.getElem?_eq_getElem ht]
        exact hr t _ (List.getElem?_eq_getElem ht)
      · rw [if_neg ht]
        have : ∀ n t, nth .dead (List.replicate n .dead) t = .dead := fun n t => by
          rw [nth_eq, List.getD_eq_getElem?_getD, List.getElem?_replicate]
          split <;> rfl
        rw [this]
        exact .dead
  refine evCode_sound (T := []) hE hC c (noWC_nil c) (entry fn.ntmps args st) g _ _ _ h hM hT (fun x st1 g1 a1 h1 hM1 hO1 hd1 => ?_)
  have hst := leave_step hO1
  have back : ∀ vs, resOf C.P st1 fn.results.toList = some vs → TmpsRep g1 st1.tmps a1 → k vs (leave (llen st.tmps) st1) → a1.defers = [] ∧ ∃ v, (results fn a1.tmps).run C.P g1.w = .ok v g1.w ∧ FuncDone C b0 w0 st g k kp (.returned v) g1.w := by
    intro vs hv hT1 hk
    obtain ⟨Vs, k1, k2, k3⟩ := resOf_sound hM1 hT1 hv
    exact ⟨hd1.1.1, _, results_eq fn _ _ _ Vs k1, .inl ⟨vs, _, g1, Vs, rfl, hk, hM1, rfl, hst, k2, k3⟩⟩
  cases x with
  | normal =>
    intro hT1
    simp only at h1
    split at h1
    · exact back _ (by assumption) hT1 h1
    · exact h1.elim
  | ret =>
    intro hT1
    simp only at h1
    split at h1
    · exact back _ (by assumption) hT1 h1
    · exact h1.elim
  | panic v => exact fun V hV => ⟨hd1.1.1, .inr ⟨v, _, g1, V, rfl, h1, hM1, rfl, hst, hV⟩⟩
  | exit id => exact h1.elim
theorem noCall_ok {P : Program} {E : FuncId → List AV → Option (List Prop × List AV)} {G : Nat → Option (List AV)} {u : Nat} : CallOK ⟨P, E, noCall, G, u⟩ := fun _ _ _ _ _ h => h.elim
theorem inl_ok {I : FuncId → Option Func} {P : Program} {E : FuncId → List AV → Option (List Prop × List AV)} {G : Nat → Option (List AV)} {u : Nat} (hE : EOK P E G) (hI : ∀ f fn, I f = some fn → P.funcs[f]? = some fn ∧ (fn.name == "runtime.NumGoroutine") = false) : ∀ n, CallOK ⟨P, E, inl I P E G u n, G, u⟩
  | 0 => noCall_ok
  | n + 1 => by
    intro f args st k kp h
    simp only [inl] at h
    split at h
    case h_2 => exact h.elim
    rename_i fn hfn
    obtain ⟨h1, h2⟩ := hI f fn hfn
    have hb : fn.body.isNone = false := by
      unfold evFunc at h
      split at h
      · exact h.elim
      · rename_i c hc; rw [hc]; rfl
    refine ⟨fn, h1, h2, hb, fun g b0 w0 vals hM hsz hr => ?_⟩
    obtain ⟨_, hc⟩ := evFunc_sound (C := ⟨P, E, inl I P E G u n, G, u⟩) hE (inl_ok hE hI n) h1 h hM hsz hr
    refine hc.mono ?_
    rintro e w' (⟨vs, st', g', Vs, rfl, k1, k2, k3, k4, k5, k6⟩ | ⟨v, st', g', V, rfl, k1, k2, k3, k4, k5⟩)
    · exact .inl ⟨_, st', g', _, rfl, k1, k2, k3, k4, resAV_rep k5 k6⟩
    · exact .inr ⟨v, st', g', V, rfl, k1, k2, k3, k4, k5⟩
theorem noE_ok {P : Program} {G : Nat → Option (List AV)} : EOK P noE G := fun f args pres res h => by simp [noE] at h
theorem addE_ok {P : Program} {G : Nat → Option (List AV)} {E : FuncId → List AV → Option (List Prop × List AV)} {f : FuncId} {s : List AV → Option (List Prop × List AV)} (hE : EOK P E G) (hs : ∀ args pres res, s args = some (pres, res) → SpecOK P G f args pres res) : EOK P (addE E f s) G := by
  intro g args pres res h
  unfold addE at h
  cases hb : Nat.beq f g with
  | true =>
    rw [hb, cond_true] at h
    have := nbeq hb
    subst this
    exact hs args pres res h
  | false =>
    rw [hb, cond_false] at h
    exact hE g args pres res h
end Go.AE
namespace Go.AE
open Go.RowKit
variable {C : Cx} {o : Oper} {a : Act} {g : Gh} {v : AV} {st : St} {gs gt : List (Nat × Bool)} {pres : List Prop} {b0 : Nat} {w0 : World}
def isFz (objs : List (Nat × Ob)) (id : Nat) : Bool := match lookup objs id with
  | some ⟨false, _, .row _⟩ => true
  | _ => false
theorem freeze1_fz {objs : List (Nat × Ob)} {id : Nat} (h : isFz objs id = true) (j : Nat) : lookup (St.freeze1 objs id) j = lookup objs j := by
  unfold isFz at h
  split at h
  · rename_i ver u hlk
    unfold St.freeze1
    rw [hlk]
    simp only
    by_cases hj : j = id
    · subst hj; rw [lookup_update_same, hlk]
    · rw [lookup_update_other _ _ _ _ hj]
  · cases h
theorem freezeAll_fz : ∀ (ids : List Nat) {objs : List (Nat × Ob)}, (∀ id, id ∈ ids → isFz objs id = true) → ∀ j, lookup (St.freezeAll objs ids) j = lookup objs j
  | [], _, _, _ => rfl
  | i :: r, objs, h, j => by
    have h1 := freeze1_fz (h i (List.mem_cons_self ..))
    simp only [St.freezeAll]
    rw [freezeAll_fz r (fun id hid => by
      have := h id (List.mem_cons_of_mem _ hid)
      unfold isFz at this ⊢
      rw [h1]; exact this) j, h1]
theorem lookup_mem : ∀ {objs : List (Nat × Ob)} {id : Nat} {ob : Ob}, lookup objs id = some ob → id ∈ objs.map (·.1)
  | [], _, _, h => by simp [lookup] at h
  | (i, o) :: r, id, ob, h => by
    simp only [lookup] at h
    cases hb : Nat.beq i id with
    | true => have := nbeq hb; subst this; simp
    | false =>
      rw [hb, cond_false] at h
      simp only [List.map_cons, List.mem_cons]
      exact .inr (lookup_mem h)
theorem settle_mem {G : Nat → Option (List AV)} {objs : List (Nat × Ob)} {next : Nat} (hM : Mem G b0 w0 objs next g) : ∃ objs' g', Mem G b0 w0 objs' next g' ∧ Ext g g' ∧ Stays g g' ∧ g'.w = g.w ∧ g'.base = g.base ∧ (∀ id, lookup objs' id = lookup objs id) ∧
    ∀ id ver u, lookup objs id = some ⟨false, ver, .row u⟩ → ∀ b, blk (g'.ρ id) = some b → ¬ g'.own b := by
  obtain ⟨g', f, n⟩ := freezeAll_sound ((objs.map (·.1)).filter (isFz objs)) hM
  refine ⟨_, g', f.mem, f.ext, f.stays, f.w, f.base, freezeAll_fz _ (fun id hid => (List.mem_filter.1 hid).2), fun id ver u h b hb => ?_⟩
  rw [f.rho] at hb
  exact n id (List.mem_filter.2 ⟨lookup_mem h, by unfold isFz; rw [h]⟩) false ver u h b hb
def Reps (g : Gh) (cs : List AV) (Vs : List Value) : Prop := Vs.length = cs.length ∧ ∀ (j : Nat) c, cs[j]? = some c → ∃ V, Vs[j]? = some V ∧ ARep g c V
theorem Reps.tail {c : AV} {V : Value} {cs : List AV} {Vs : List Value} (h : Reps g (c :: cs) (V :: Vs)) : Reps g cs Vs := ⟨by simpa using h.1, fun j c hc => by simpa using h.2 (j + 1) c (by simpa using hc)⟩
theorem Reps.head {c : AV} {V : Value} {cs : List AV} {Vs : List Value} (h : Reps g (c :: cs) (V :: Vs)) : ARep g c V := by
  obtain ⟨V', hV, hr⟩ := h.2 0 c rfl
  simp only [List.getElem?_cons_zero, Option.some.injEq] at hV
  subst hV
  exact hr
def From (g : Gh) (ids ids' : List Nat) (b : Nat) : Prop := ∃ id, id ∈ ids' ∧ id ∉ ids ∧ (lookup g.objs id).isSome = true ∧ g.ex id = true ∧ blk (g.ρ id) = some b
section out
variable {G : Nat → Option (List AV)} {objs objs' : List (Nat × Ob)} {next : Nat} {w : World}
theorem out_cells (hM : Mem G w.heap.size w0 objs' next g) (hl : ∀ id, lookup objs' id = lookup objs id) (hz : ∀ id ver u, lookup objs id = some ⟨false, ver, .row u⟩ → ∀ b, blk (g.ρ id) = some b → ¬ g.own b) :
    ∀ (cs : List AV) (ids : List Nat) (Vs : List Value) {cs' : List AV} {ids' : List Nat}, outCells objs cs ids = some (cs', ids') → Reps g cs Vs → ∃ bs, RCells w g.w g.own cs' Vs bs ∧ (∀ i, i ∈ ids → i ∈ ids') ∧ ∀ b, b ∈ bs → From g ids ids' b
  | [], ids, Vs, cs', ids', h, hr => by
    simp only [outCells, Option.some.injEq, Prod.mk.injEq] at h
    obtain ⟨rfl, rfl⟩ := h
    have : Vs = [] := List.length_eq_zero_iff.1 hr.1
    subst this
    exact ⟨[], .nil, fun _ h => h, fun b h => by cases h⟩
  | c :: r, ids, [], cs', ids', h, hr => by have := hr.1; simp at this
  | c :: r, ids, V :: Vs, cs', ids', h, hr => by
    have hc := hr.head
    have plain : ∀ {c' : AV} {ids1 : List Nat}, (match outCells objs r ids1 with
        | some (cs, ids'') => some (c' :: cs, ids'')
        | none => none) = some (cs', ids') → ∃ cs1, outCells objs r ids1 = some (cs1, ids') ∧ cs' = c' :: cs1 := by
      intro c' ids1 h
      split at h
      · rename_i cs1 ids2 h1
        simp only [Option.some.injEq, Prod.mk.injEq] at h
        obtain ⟨rfl, rfl⟩ := h
        exact ⟨_, h1, rfl⟩
      · cases h
    simp only [outCells] at h
    split at h
    case h_2 => cases h
    rename_i c' ids1 hc1
    obtain ⟨cs1, h1, rfl⟩ := plain h
    split at hc1
    · rename_i u
      simp only [Option.some.injEq, Prod.mk.injEq] at hc1
      obtain ⟨rfl, rfl⟩ := hc1
      obtain ⟨bs, k1, k2, k3⟩ := out_cells hM hl hz r _ Vs h1 hr.tail
      exact ⟨bs, .imm hc.imm_inv k1, k2, k3⟩
    · rename_i u
      simp only [Option.some.injEq, Prod.mk.injEq] at hc1
      obtain ⟨rfl, rfl⟩ := hc1
      obtain ⟨bs, k1, k2, k3⟩ := out_cells hM hl hz r _ Vs h1 hr.tail
      refine ⟨bs, ?_, k2, k3⟩
      cases hn : noneIV u with
      | false => exact .imm (arep_slice_of hc (.inr rfl)) k1
      | true =>
        cases hs : u.isSl with
        | false => exact .imm (arep_slice_of hc (.inr rfl)) k1
        | true =>
          cases hc with
          | @full _ ad n hq =>
            have h0 : n = 0 := by
              have hl := noneIV_len hn
              cases hq with
              | val _ => simp [noneIV] at hn
              | nilSlice _ _ => rfl
              | slice _ _ h2 _ _ _ _ _ _ _ => rw [hl] at h2; cases h2; rfl
            subst h0
            exact .shared hs hq k1
    · rename_i f
      simp only [Option.some.injEq, Prod.mk.injEq] at hc1
      obtain ⟨rfl, rfl⟩ := hc1
      obtain ⟨bs, k1, k2, k3⟩ := out_cells hM hl hz r _ Vs h1 hr.tail
      cases hc with
      | fn q1 _ q2 _ =>
        rw [Array.eq_empty_of_size_eq_zero q1, Array.eq_empty_of_size_eq_zero q2]
        exact ⟨bs, .fn k1, k2, k3⟩
    · rename_i id ver
      split at hc1
      · rename_i ver' u hlk
        have hv := nbeq (bif_some hc1).1
        replace hc1 := (bif_some hc1).2
        subst hv
        rw [lany_eq] at hc1
        cases hany : ids.any (fun j => Nat.beq id j) with
        | true => rw [hany, cond_true] at hc1; cases hc1
        | false =>
          rw [hany, cond_false] at hc1
          simp only [Option.some.injEq, Prod.mk.injEq] at hc1
          obtain ⟨rfl, rfl⟩ := hc1
          have hnid : id ∉ ids := fun hm => by
            have := List.any_eq_false.1 hany id hm
            simp at this
          obtain ⟨bs, k1, k2, k3⟩ := out_cells hM hl hz r _ Vs h1 hr.tail
          have hlk' : lookup g.objs id = some ⟨true, ver, .row u⟩ := by rw [hM.same, hl]; exact hlk
          have hV : V = g.ρ id := by
            cases hc with
            | row r1 r2 r3 r4 r5 => rw [hlk'] at r1; cases r1; exact r4 rfl
          have hob := hM.each id _ hlk'
          rw [← hV] at hob
          generalize hex : g.ex id = ee at hob
          have k3' : ∀ b, b ∈ bs → From g ids ids' b := fun b hb => by
            obtain ⟨i, e1, e2, e3⟩ := k3 b hb
            exact ⟨i, e1, fun h => e2 (List.mem_cons_of_mem _ h), e3⟩
          cases hob with
          | shared q1 q2 q3 q4 =>
            obtain ⟨rfl, rfl⟩ := q2 rfl
            exact ⟨bs, .shared q3 q4 k1, fun i hi => k2 i (List.mem_cons_of_mem _ hi), k3'⟩
          | @excl _ _ b n cap _ c T fr q1 q2 q3 q4 q5 q6 q7 q8 q9 q10 q11 =>
            subst q1
            have hblk : blk (g.ρ id) = some b := by rw [← hV]; rfl
            have hb := (hM.above id b (by rw [hlk']; rfl) hex hblk).1
            refine ⟨b :: bs, .excl hb q2 (q3 rfl) q4 q5 q6 q7 q8 q9 q10 (.inr ⟨id, by rw [hlk']; rfl, hex, hblk⟩) (fun hm => ?_) q11 k1, fun i hi => k2 i (List.mem_cons_of_mem _ hi), fun b' hb' => ?_⟩
            · obtain ⟨i, _, e2, e3, e4, e5⟩ := k3 b hm
              have := hM.uniq i id b e3 (by rw [hlk']; rfl) e4 hex e5 hblk
              subst this
              exact e2 (List.mem_cons_self ..)
            · rcases List.mem_cons.1 hb' with rfl | hb'
              · exact ⟨id, k2 id (List.mem_cons_self ..), hnid, by rw [hlk']; rfl, hex, hblk⟩
              · exact k3' b' hb'
      · rename_i ver' u hlk
        have hv := nbeq (bif_some hc1).1
        replace hc1 := (bif_some hc1).2
        subst hv
        simp only [Option.some.injEq, Prod.mk.injEq] at hc1
        obtain ⟨rfl, rfl⟩ := hc1
        obtain ⟨bs, k1, k2, k3⟩ := out_cells hM hl hz r _ Vs h1 hr.tail
        have hlk' : lookup g.objs id = some ⟨false, ver, .row u⟩ := by rw [hM.same, hl]; exact hlk
        have hV : V = g.ρ id := by
          cases hc with
          | row r1 r2 r3 r4 r5 => rw [hlk'] at r1; cases r1; exact r4 rfl
        have hob := hM.each id _ hlk'
        have hzz := hz id ver u hlk
        rw [← hV] at hob hzz
        generalize hex : g.ex id = ee at hob
        cases hob with
        | shared q1 q2 q3 q4 => exact ⟨bs, .imm q4 k1, k2, k3⟩
        | excl q1 =>
          subst q1
          exact (hzz _ rfl (.inr ⟨id, by rw [hlk']; rfl, hex, by rw [← hV]; rfl⟩)).elim
      · cases hc1
    · cases hc1
theorem outCells_flat (objs : List (Nat × Ob)) : ∀ (cs : List AV) (ids : List Nat) {cs' : List AV} {ids' : List Nat}, outCells objs cs ids = some (cs', ids') → ∀ c, c ∈ cs' → ∀ xs, c ≠ .agg xs := by
  intro cs
  induction cs with
  | nil =>
    intro ids cs' ids' h c hc
    simp only [outCells, Option.some.injEq, Prod.mk.injEq] at h
    obtain ⟨rfl, rfl⟩ := h
    cases hc
  | cons x r ih =>
    intro ids cs' ids' h c hc xs
    simp only [outCells] at h
    split at h
    case h_2 => cases h
    rename_i c' ids1 hc1
    split at h
    case h_2 => cases h
    rename_i cs1 ids2 h1
    simp only [Option.some.injEq, Prod.mk.injEq] at h
    obtain ⟨rfl, rfl⟩ := h
    rcases List.mem_cons.1 hc with rfl | hc
    · intro he
      subst he
      split at hc1
      · simp at hc1
      · rename_i uu
        cases hn : noneIV uu <;> cases hs : uu.isSl <;> simp [hn, hs] at hc1
      · simp at hc1
      · split at hc1
        · replace hc1 := (bif_some hc1).2
          generalize lany (fun j => Nat.beq _ j) ids = bb at hc1
          cases bb <;> cases hc1
        · replace hc1 := (bif_some hc1).2
          cases hc1
        · cases hc1
      · cases hc1
    · exact ih ids1 h1 c hc xs
theorem out_res (hM : Mem G w.heap.size w0 objs' next g) (hl : ∀ id, lookup objs' id = lookup objs id) (hz : ∀ id ver u, lookup objs id = some ⟨false, ver, .row u⟩ → ∀ b, blk (g.ρ id) = some b → ¬ g.own b) :
    ∀ (vs : List AV) (ids : List Nat) (Vs : List Value) {res : List AV}, outRes objs vs ids = some res → Reps g vs Vs → ∃ bs, RRes w g.w g.own res Vs bs ∧ ∀ b, b ∈ bs → ∃ id, id ∉ ids ∧ (lookup g.objs id).isSome = true ∧ g.ex id = true ∧ blk (g.ρ id) = some b
  | [], ids, Vs, res, h, hr => by
    simp only [outRes, Option.some.injEq] at h
    subst h
    have : Vs = [] := List.length_eq_zero_iff.1 hr.1
    subst this
    exact ⟨[], .nil, fun b h => by cases h⟩
  | c :: r, ids, [], res, h, hr => by have := hr.1; simp at this
  | c :: r, ids, V :: Vs, res, h, hr => by
    have hc := hr.head
    have apart : ∀ {bs bs' : List Nat} {ids1 : List Nat}, (∀ b, b ∈ bs → From g ids ids1 b) → (∀ b, b ∈ bs' → ∃ id, id ∉ ids1 ∧ (lookup g.objs id).isSome = true ∧ g.ex id = true ∧ blk (g.ρ id) = some b) → ∀ b, b ∈ bs → b ∉ bs' := by
      intro bs bs' ids1 h1 h2 b hb hb'
      obtain ⟨i, e1, _, e3, e4, e5⟩ := h1 b hb
      obtain ⟨j, f1, f3, f4, f5⟩ := h2 b hb'
      have := hM.uniq i j b e3 f3 e4 f4 e5 f5
      subst this
      exact f1 e1
    by_cases hagg : ∃ cs, c = .agg cs
    · obtain ⟨cs, rfl⟩ := hagg
      simp only [outRes] at h
      split at h
      case h_2 => cases h
      rename_i cs' ids1 h1
      rw [omap_eq, Option.map_eq_some_iff] at h
      obtain ⟨res', h2, rfl⟩ := h
      cases hc with
      | @agg _ vs q1 q2 q3 =>
        obtain ⟨bs, k1, k2, k3⟩ := out_cells hM hl hz cs ids vs.toList h1 ⟨by simpa using q1, fun j c hc => by
          have hj : j < vs.size := by rw [q1]; exact (List.getElem?_eq_some_iff.1 hc).1
          refine ⟨vs.getD j undef, ?_, q2 j c hc⟩
          rw [Array.getElem?_toList]
          exact some_of_lt hj⟩
        obtain ⟨bs', m1, m2⟩ := out_res hM hl hz r ids1 Vs h2 hr.tail
        refine ⟨bs ++ bs', .agg k1 (apart k3 m2) m1, fun b hb => ?_⟩
        rcases List.mem_append.1 hb with hb | hb
        · obtain ⟨i, _, e2, e3⟩ := k3 b hb; exact ⟨i, e2, e3⟩
        · obtain ⟨i, e2, e3⟩ := m2 b hb
          exact ⟨i, fun h => e2 (k2 i h), e3⟩
    · have hsh : outRes objs (c :: r) ids = match outCells objs [c] ids with
          | some ([c'], ids') => omap (c' :: ·) (outRes objs r ids')
          | _ => none := by
        cases c <;> first | rfl | exact absurd ⟨_, rfl⟩ hagg
      rw [hsh] at h
      split at h
      case h_2 => cases h
      rename_i c' ids1 h1
      rw [omap_eq, Option.map_eq_some_iff] at h
      obtain ⟨res', h2, rfl⟩ := h
      obtain ⟨bs, k1, k2, k3⟩ := out_cells hM hl hz [c] ids [V] h1 ⟨rfl, fun j x hx => by
        cases j with
        | zero => simp only [List.getElem?_cons_zero, Option.some.injEq] at hx; subst hx; exact ⟨V, rfl, hc⟩
        | succ j => simp at hx⟩
      obtain ⟨bs', m1, m2⟩ := out_res hM hl hz r ids1 Vs h2 hr.tail
      refine ⟨bs ++ bs', .one (outCells_flat objs [c] ids h1 c' (by simp)) k1 (apart k3 m2) m1, fun b hb => ?_⟩
      rcases List.mem_append.1 hb with hb | hb
      · obtain ⟨i, _, e2, e3⟩ := k3 b hb; exact ⟨i, e2, e3⟩
      · obtain ⟨i, e2, e3⟩ := m2 b hb
        exact ⟨i, fun h => e2 (k2 i h), e3⟩
end out
theorem RCells.less {w w' : World} {O O' : Nat → Prop} {cs : List AV} {Vs : List Value} {bs : List Nat} (h : RCells w w' O cs Vs bs) (ho : ∀ b, O' b → O b) (hb : ∀ b, b ∈ bs → O' b) : RCells w w' O' cs Vs bs := by
  induction h with
  | nil => exact .nil
  | imm h1 _ ih => exact .imm (h1.mono (Nat.le_refl _) (fun b _ h => ho b h) (fun _ _ _ => rfl)) (ih hb)
  | fn _ ih => exact .fn (ih hb)
  | shared h0 h1 _ ih => exact .shared h0 (h1.mono (Nat.le_refl _) (fun b _ h => ho b h) (fun _ _ _ => rfl)) (ih hb)
  | excl h1 h2 h3 h4 h5 h6 h7 h8 h9 h10 _ h12 h13 _ ih =>
    exact .excl h1 h2 h3 h4 h5 h6 h7 h8 h9 (fun i j u hu => (h10 i j u hu).mono (Nat.le_refl _) (fun b _ h => ho b h) (fun _ _ _ => rfl)) (hb _ (List.mem_cons_self ..)) h12 h13 (ih (fun b h => hb b (List.mem_cons_of_mem _ h)))
theorem RRes.less {w w' : World} {O O' : Nat → Prop} {cs : List AV} {Vs : List Value} {bs : List Nat} (h : RRes w w' O cs Vs bs) (ho : ∀ b, O' b → O b) (hb : ∀ b, b ∈ bs → O' b) : RRes w w' O' cs Vs bs := by
  induction h with
  | nil => exact .nil
  | agg h1 h2 _ ih => exact .agg (h1.less ho (fun b h => hb b (List.mem_append_left _ h))) h2 (ih (fun b h => hb b (List.mem_append_right _ h)))
  | one h0 h1 h2 _ ih => exact .one h0 (h1.less ho (fun b h => hb b (List.mem_append_left _ h))) h2 (ih (fun b h => hb b (List.mem_append_right _ h)))
theorem zero_own {w : World} {own : Nat → Prop} {b : Nat} : (zeroGh w own).own b ↔ own b := by
  constructor
  · rintro (h | ⟨id, h, _⟩)
    · exact h
    · simp [zeroGh, lookup] at h
  · exact fun h => .inl h
def endsAs (res : List AV) : List AV → St → Prop := fun vs st' => match outRes st'.objs vs [] with
  | some r => r = res
  | none => False
theorem spec_done {f : FuncId} {fn : Func} {args res : List AV} (hf : C.P.funcs[f]? = some fn) (hn : (fn.name == "runtime.NumGoroutine") = false) (hb : fn.body.isNone = false)
    (h : (∀ p, p ∈ pres → p) → ∀ (g : Gh) (b0 : Nat) (w0 : World) (vals : Array Value), Mem C.G b0 w0 st0.objs st0.next g → vals.size = args.length → (∀ (j : Nat) c, args[j]? = some c → ARep g c (vals.getD j undef)) →
      Calls C.P f vals g.w (FuncDone C b0 w0 st0 g (endsAs res) (fun _ _ => False))) :
    SpecOK C.P C.G f args pres res := by
  refine ⟨⟨fn, hf, hn, hb⟩, fun hp w own vals hown hsz hargs hG => ?_⟩
  have hM : Mem C.G w.heap.size w st0.objs st0.next (zeroGh w own) :=
    ⟨rfl, fun id ob h => by simp [zeroGh, lookup] at h, fun id id' b h => by simp [zeroGh, lookup] at h, fun id _ => rfl, Below.refl _ _, Nat.le_refl _, fun b hb => ⟨hown b hb, fun id h => by simp [zeroGh, lookup] at h⟩, fun id b h => by simp [zeroGh, lookup] at h, fun n l hn => by
      obtain ⟨q1, c, T, fr, q2, q3, q4, q5⟩ := hG n l hn
      refine ⟨fun h => q1 (zero_own.1 h), c, T, fr, q2, q3, fun j u hu => ?_, q5⟩
      have := q4 j u hu
      unfold GRep at this ⊢
      split at this
      · exact this.mono (Nat.le_refl _) (fun b _ h => zero_own.1 h) (fun _ _ _ => rfl)
      · exact this
      · exact this⟩
  have hc := h hp _ _ _ vals hM hsz hargs
  refine hc.mono ?_
  rintro e w' (⟨vs, st', g', Vs, rfl, k1, k2, rfl, k4, k5, k6⟩ | ⟨v, st', g', V, rfl, k1, _⟩)
  · unfold endsAs at k1
    split at k1
    case h_2 => exact k1.elim
    rename_i r hr
    subst k1
    obtain ⟨objs', g2, s1, s2, s3, s4, s5, s6, s7⟩ := settle_mem k2
    obtain ⟨bs, o1, o2⟩ := out_res s1 s6 s7 vs [] Vs hr ⟨k5, fun j c hc => by
      obtain ⟨V, hV, hrep⟩ := k6 j c hc
      exact ⟨V, hV, hrep.ext s2 s3⟩⟩
    rw [s4] at o1
    refine ⟨Vs, bs, rfl, k2.below, o1.less (fun b hb => ?_) (fun b hb => .inr hb), fun b hb => (o1.nodup.2 b hb).2⟩
    rcases hb with hb | hb
    · refine .inl ?_
      rw [s5, k4.base]
      exact hb
    · obtain ⟨id, _, e2, e3, e4⟩ := o2 b hb
      exact .inr ⟨id, e2, e3, e4⟩
  · exact k1.elim
theorem spec_ok {f : FuncId} {fn : Func} {args res : List AV} (hE : EOK C.P C.E C.G) (hC : CallOK C) (hf : C.P.funcs[f]? = some fn) (hn : (fn.name == "runtime.NumGoroutine") = false) (hb : fn.body.isNone = false) (h : (∀ p, p ∈ pres → p) → evSpec C fn args (fun r => r = res)) :
    SpecOK C.P C.G f args pres res :=
  spec_done hf hn hb (fun hp g b0 w0 vals hM hsz hargs => (evFunc_sound hE hC hf (h hp) hM hsz hargs).2)
end Go.AE
namespace Go.AE
open Go.RowKit
theorem rcells_settle {w w' : World} {O O' : Nat → Prop} {cs : List AV} {Vs : List Value} {bs : List Nat} (h : RCells w w' O cs Vs bs) (hO : ∀ b, O' b → O b) (hf : ∀ b, w.heap.size ≤ b → ¬ O' b) : RCells w w' O' (lmap settleCell cs) Vs [] := by
  induction h with
  | nil => exact .nil
  | imm h1 _ ih => exact .imm (h1.mono (Nat.le_refl _) (fun b _ hb => hO b hb) (fun _ _ _ => rfl)) ih
  | fn _ ih => exact .fn ih
  | shared _ h1 _ ih => exact .imm (h1.mono (Nat.le_refl _) (fun b _ hb => hO b hb) (fun _ _ _ => rfl)) ih
  | @excl u b n cap c' T fr r Vs bs h1 h2 h3 h4 h5 h6 h7 h8 h9 h10 h11 h12 h13 _ ih =>
    have hlt : b < w'.heap.size := (Array.getElem?_eq_some_iff.1 h2).1
    refine .imm (.slice (fun i j => c'.getD (i * u.esize + j) undef) h4 h5 h6 h7 h8 (hf b h1) hlt (fun i j x hx => ?_) (fun i j x hx => ?_)) ih
    · obtain ⟨hi, hj⟩ := cellAt_lt h4 h5 hx
      have : (i + 1) * u.esize ≤ cap * u.esize := Nat.mul_le_mul_right _ (by omega)
      rw [Nat.add_mul] at this
      rw [add_plain, Nat.zero_add, cell_of_row w' b _ c' T fr h2]
      exact some_of_lt (by omega)
    · exact (h10 i j x hx).mono (Nat.le_refl _) (fun b _ hb => hO b hb) (fun _ _ _ => rfl)
theorem rres_settle {w w' : World} {O O' : Nat → Prop} {res : List AV} {Vs : List Value} {bs : List Nat} (h : RRes w w' O res Vs bs) (hO : ∀ b, O' b → O b) (hf : ∀ b, w.heap.size ≤ b → ¬ O' b) : RRes w w' O' (lmap settle res) Vs [] := by
  induction h with
  | nil => exact .nil
  | agg h1 _ _ ih => exact .agg (bs := []) (bs' := []) (rcells_settle h1 hO hf) (fun b hb => by cases hb) ih
  | @one c V r Vs bs bs' h0 h1 _ _ ih =>
    have hs := settle_one h0
    have := rcells_settle h1 hO hf
    simp only [lmap] at this
    refine .one (bs := []) (bs' := []) ?_ ?_ (fun b hb => by cases hb) ih
    · intro cs e
      rw [hs] at e
      cases c <;> simp [settleCell] at e
      exact h0 _ rfl
    · rw [hs]; exact this
theorem spec_okS {C : Cx} {pres : List Prop} {f : FuncId} {fn : Func} {args res : List AV} (hE : EOK C.P C.E C.G) (hC : CallOK C) (hf : C.P.funcs[f]? = some fn) (hn : (fn.name == "runtime.NumGoroutine") = false) (hb : fn.body.isNone = false)
    (h : (∀ p, p ∈ pres → p) → evSpec C fn args (fun r => lmap settle r = res)) : SpecOK C.P C.G f args pres res := by
  refine ⟨⟨fn, hf, hn, hb⟩, fun hp w own vals hown hsz hargs hG => ?_⟩
  have hM : Mem C.G w.heap.size w st0.objs st0.next (zeroGh w own) :=
    ⟨rfl, fun id ob h => by simp [zeroGh, lookup] at h, fun id id' b h => by simp [zeroGh, lookup] at h, fun id _ => rfl, Below.refl _ _, Nat.le_refl _, fun b hb => ⟨hown b hb, fun id h => by simp [zeroGh, lookup] at h⟩, fun id b h => by simp [zeroGh, lookup] at h, fun n l hn => by
      obtain ⟨q1, c, T, fr, q2, q3, q4, q5⟩ := hG n l hn
      refine ⟨fun h => q1 (zero_own.1 h), c, T, fr, q2, q3, fun j u hu => ?_, q5⟩
      have := q4 j u hu
      unfold GRep at this ⊢
      split at this
      · exact this.mono (Nat.le_refl _) (fun b _ h => zero_own.1 h) (fun _ _ _ => rfl)
      · exact this
      · exact this⟩
  have hc := (evFunc_sound hE hC hf (h hp) hM hsz hargs).2
  refine hc.mono ?_
  rintro e w' (⟨vs, st', g', Vs, rfl, k1, k2, rfl, k4, k5, k6⟩ | ⟨v, st', g', V, rfl, k1, _⟩)
  · split at k1
    case h_2 => exact k1.elim
    rename_i r hr
    subst k1
    obtain ⟨objs', g2, s1, s2, s3, s4, s5, s6, s7⟩ := settle_mem k2
    obtain ⟨bs, o1, o2⟩ := out_res s1 s6 s7 vs [] Vs hr ⟨k5, fun j c hc => by
      obtain ⟨V, hV, hrep⟩ := k6 j c hc
      exact ⟨V, hV, hrep.ext s2 s3⟩⟩
    rw [s4] at o1
    refine ⟨Vs, [], rfl, k2.below, rres_settle o1 (fun b hb => ?_) (fun b hle hb => ?_), fun b hb => by cases hb⟩
    · rcases hb with hb | hb
      · refine .inl ?_
        rw [s5, k4.base]
        exact hb
      · cases hb
    · rcases hb with hb | hb
      · have := hown b hb; omega
      · cases hb
  · exact k1.elim
end Go.AE
namespace Go.AE
inductive Dir where
  | l | r | b
def codeAt : List Dir → Code → Code
  | [], c => c
  | .l :: p, .seq a _ => codeAt p a
  | .r :: p, .seq _ b => codeAt p b
  | .l :: p, .cond _ a _ => codeAt p a
  | .r :: p, .cond _ _ b => codeAt p b
  | .b :: p, .block _ c => codeAt p c
  | _, c => c
def kAt (C : Cx) : List Dir → Code → (AX → St → Prop) → (AX → St → Prop)
  | [], _, k => k
  | .l :: p, .seq a b, k => kAt C p a fun x st => match x with
    | .normal => evCode C b st k
    | x => k x st
  | .r :: p, .seq _ b, k => kAt C p b k
  | .l :: p, .cond _ a _, k => kAt C p a k
  | .r :: p, .cond _ _ b, k => kAt C p b k
  | .b :: p, .block id c, k => kAt C p c fun x st => match x with
    | .exit i => bif Nat.beq i id then k .normal st else k (.exit i) st
    | x => k x st
  | _, _, k => k
def loopsIn : Code → List (List Dir)
  | .seq a b => lapp (lmap (.l :: ·) (loopsIn a)) (lmap (.r :: ·) (loopsIn b))
  | .cond _ a b => lapp (lmap (.l :: ·) (loopsIn a)) (lmap (.r :: ·) (loopsIn b))
  | .block _ c => lmap (.b :: ·) (loopsIn c)
  | .loop _ => [[]]
  | _ => []
def pathN : List (List Dir) → Nat → List Dir
  | [], _ => []
  | p :: _, 0 => p
  | _ :: r, i + 1 => pathN r i
def loopN (c : Code) (i : Nat) : Code := codeAt (pathN (loopsIn c) i) c
def unloop : Code → Code
  | .loop c => c
  | c => c
def loopB (c : Code) (i : Nat) : Code := unloop (loopN c i)
def loopK (C : Cx) (c : Code) (i : Nat) (k : AX → St → Prop) : AX → St → Prop := kAt C (pathN (loopsIn c) i) c k
def LoopI (C : Cx) (c : Code) (i : Nat) (st : St) (k : AX → St → Prop) : Prop := evCode C (.loop (loopB c i)) st (loopK C c i k)
def bodyOf (fn : Func) : Code := match fn.body with
  | some c => c
  | none => .skip
def finK (C : Cx) (fn : Func) (K : List AV → Prop) : AX → St → Prop := fun x st1 => match x with
  | .normal => match resOf C.P st1 fn.results.toList with
    | some vs => match outRes st1.objs vs [] with
      | some r => K r
      | none => False
    | none => False
  | .ret => match resOf C.P st1 fn.results.toList with
    | some vs => match outRes st1.objs vs [] with
      | some r => K r
      | none => False
    | none => False
  | _ => False
def sget : List (Nat × AV) → Nat → AV
  | [], _ => .dead
  | (i, v) :: r, j => bif Nat.beq i j then v else sget r j
def spr (l : List (Nat × AV)) : Nat → Nat → List AV
  | _, 0 => []
  | i, n + 1 => sget l i :: spr l (i + 1) n
def msk (l : List Nat) : Nat → Nat → List Bool
  | _, 0 => []
  | i, n + 1 => natIn l i :: msk l (i + 1) n
def dN (n : Nat) : List AV := lrepl n .dead
theorem brn_intro {b : Bool} {x y : Prop} (h1 : b = true → x) (h2 : b = false → y) : brn b x y := by
  cases b
  · exact h2 rfl
  · exact h1 rfl
theorem loop_rule {C : Cx} {σ : Type} {c : Code} (I : σ → St) (P : σ → Prop) (μ : σ → Nat) {k : AX → St → Prop}
    (hbody : ∀ s, P s → ∀ K : AX → St → Prop, (∀ s' p st1, P s' → μ s' < μ s → norm p st1 = some (I s') → K .normal st1) → (∀ x st1, x ≠ .normal → k x st1 → K x st1) → evCode C c (I s) K)
    (hu : C.rounds = 0) (s : σ) (p : Plan) (st : St) (hP : P s) (hn : norm p st = some (I s)) : evCode C (.loop c) st k := by
  simp only [evCode, hu]
  have key : ∀ n s p st, P s → norm p st = some (I s) → μ s < n → LoopN (evCode C c) k n st := by
    intro n
    induction n with
    | zero => intro s p st _ _ h; omega
    | succ n ih =>
      intro s p st hP hn hμ
      refine ⟨p, I s, hn, hbody s hP _ (fun s' p' st1 hP' hμ' hn' => ?_) (fun x st1 hx hk => ?_)⟩
      · exact ih s' p' st1 hP' hn' (by omega)
      · cases x with
        | normal => exact absurd rfl hx
        | _ => exact hk
  exact ⟨μ s + 1, key _ s p st hP hn (by omega)⟩
end Go.AE
namespace E6
open Go Go.AE Go.Proofs
def errT : Value := .iface 215 (.agg #[.pointer (some ⟨4, 170, none⟩)])
def G16 : Nat → Option (List AV) := fun n => bif Nat.beq n 0 then some [.imm (.int .u8 0), .imm (.int .u8 0), .imm (.int .u8 50), .imm (.int .u8 51), .imm (.int .u8 52)] else bif Nat.beq n 1 then some [.imm (.bool false), .imm (.bool true)] else bif Nat.beq n 3 then some [.imm (.val errT)] else none
def flagOf : IV → Option Int
  | .sl n [[.iface t (.int .u8 x)]] => bif Nat.beq n 1 then (bif Nat.beq t 173 then some x else none) else none
  | _ => none
def asCall (st : St) (k : AV → St → Prop) : List AV → Prop
  | [.imm (.val .nilIface), .ifc t (.ptr _ off)] => bif Nat.beq t 175 then (bif Nat.beq off 0 then k (.imm (.bool false)) st else False) else False
  | [.ifc u (.ptr i o), .ifc t (.ptr j off)] => bif Nat.beq t 175 then bif Nat.beq u 211 then bif Nat.beq o 0 then bif Nat.beq off 0 then
      match lookup st.objs i, lookup st.objs j with
      | some ⟨_, _, .cells [.row r v]⟩, some ⟨own, ver, .cells [_]⟩ => match st.content (.row r v) with
        | some c => match flagOf c with
          | some x => k (.imm (.bool true)) { st with objs := update st.objs j ⟨own, ver, .cells [.imm (.int .u8 x)]⟩ }
          | none => False
        | none => False
      | _, _ => False
      else False else False else False else False
  | _ => False
noncomputable def call16 (I : FuncId → Option Func) (E : FuncId → List AV → Option (List Prop × List AV)) (u n : Nat) : FuncId → List AV → St → (AV → St → Prop) → (AV → St → Prop) → Prop :=
  fun f args st k kp => bif Nat.beq f 110 then asCall st k args else inl I Tryz.prog E G16 u n f args st k kp
structure Ty where
  o : Int
  d : Bool
  g : Int
deriving DecidableEq
def cellsT (t : Ty) : List IV := [.int .i32 t.o, .bool t.d, .int .u8 t.g]
def tyOf (el : List IV) : Ty := ⟨ivInt (ivNth el 0), ivBool (ivNth el 1), ivInt (ivNth el 2)⟩
def tys (xs : List (List IV)) : List Ty := xs.map tyOf
def okTy (t : Ty) : Prop := -2147483648 ≤ t.o ∧ t.o ≤ 2147483647 ∧ 0 ≤ t.g ∧ t.g ≤ 255
def okT (xs : List (List IV)) : Prop := xs = (tys xs).map cellsT ∧ ∀ t ∈ tys xs, okTy t
def bo (b : Bool) : AV := .imm (.bool b)
def i64 (n : Int) : AV := .imm (.int .i64 n)
def st (s : List UInt8) : AV := .imm (.str s)
def slT (L : List Ty) : IV := .sl 3 (L.map cellsT)
def beN (l : List UInt8) : Nat := l.foldl (fun v b => v * 256 + b.toNat) 0
def be : Nat → Nat → List UInt8
  | 0, _ => []
  | n + 1, v => be n (v / 256) ++ [UInt8.ofNat (v % 256)]
def sgnN (n : Nat) (v : Nat) : Int := if v < 2 ^ (8 * n - 1) then (v : Int) else (v : Int) - 2 ^ (8 * n)
def okR (b : List UInt8) (off n : Nat) : Bool := decide (off + n ≤ b.length)
def uintP (b : List UInt8) (off n : Nat) : Nat := if okR b off n then beN ((b.drop off).take n) else 0
def recB (b : List UInt8) : Ty := ⟨sgnN 4 (beN (b.take 4)), b.getD 4 0 == 1, (b.getD 5 0).toNat⟩
def flags (b : List UInt8) : Nat → Bool
  | 0 => true
  | k + 1 => flags b k && decide ((b.getD (6 * k + 4) 0).toNat ≤ 1)
def recs (b : List UInt8) : Nat → List Ty
  | 0 => []
  | k + 1 => recs b k ++ [recB (b.drop (6 * k))]
def dec (b : List UInt8) : List Ty := if flags b (b.length / 6) then recs b (b.length / 6) else []
def decOk (b : List UInt8) : Bool := flags b (b.length / 6)
def u64 (n : Int) : Nat := (n % 18446744073709551616).toNat
def enc1 (t : Ty) : List UInt8 := be 4 (u64 t.o) ++ [if t.d then 1 else 0, u8 t.g]
def enc : List Ty → List UInt8
  | [] => []
  | t :: r => enc1 t ++ enc r
def hold (t : Ty) (s : List UInt8) : Bool := t.o == 0 && !t.d && decide (s = [45, 48, 48])
def big : Int := 4611686018427387904
def sUint : List AV → Option (List Prop × List AV)
  | [.imm (.bytes b), .imm (.int .i64 off), .imm (.int .i64 n)] => some ([(b.length : Int) ≤ big, 0 ≤ off, off ≤ big, 0 ≤ n, n ≤ 8], [.imm (.int .u64 (uintP b off.toNat n.toNat : Int)), bo (okR b off.toNat n.toNat)])
  | _ => none
def sInt : List AV → Option (List Prop × List AV)
  | [.imm (.bytes b), .imm (.int .i64 off), .imm (.int .i64 n)] => some ([(b.length : Int) ≤ big, 0 ≤ off, off ≤ big, 1 ≤ n, n ≤ 8], [.imm (.int .i64 (sgnN n.toNat (uintP b off.toNat n.toNat))), bo (okR b off.toNat n.toNat)])
  | _ => none
def sAppend : List AV → Option (List Prop × List AV)
  | [.imm (.bytes b), .imm (.int .i64 n), .imm (.int .u64 v)] => some ([(b.length : Int) ≤ 1000000000000, 0 ≤ n, n ≤ 8, 0 ≤ v, v < 18446744073709551616], [.new (.bytes (b ++ be n.toNat v.toNat))])
  | _ => none
def sHalf : List AV → Option (List Prop × List AV)
  | [.imm (.int .i64 n)] => some ([1 ≤ n, n ≤ 8], [.imm (.int .u64 (2 ^ (8 * n.toNat - 1)))])
  | _ => none
def sSameB : List AV → Option (List Prop × List AV)
  | [.imm (.bytes a), .imm (.bytes b)] => some ([(a.length : Int) ≤ big, (b.length : Int) ≤ big], [bo (decide (a = b))])
  | _ => none
def sSameT : List AV → Option (List Prop × List AV)
  | [.imm (.sl 3 xs), .imm (.sl 3 ys)] => some ([okT xs, okT ys, (xs.length : Int) ≤ big, (ys.length : Int) ≤ big], [bo (decide (tys xs = tys ys))])
  | _ => none
def sDec : List AV → Option (List Prop × List AV)
  | [.imm (.bytes b)] => some ([(b.length : Int) ≤ 1000000000000], [.new (slT (dec b)), bo (decOk b)])
  | _ => none
def sEnc : List AV → Option (List Prop × List AV)
  | [.imm (.sl 3 xs)] => some ([okT xs, (xs.length : Int) ≤ 100000000000], [.new (.bytes (enc (tys xs)))])
  | _ => none
def E1 := addE (addE (addE noE 105 sUint) 91 sHalf) 63 sSameB
def E2 := addE E1 111 sInt
def E3 := addE (addE E2 31 sAppend) 64 sSameT
def E4 := addE (addE E3 33 sEnc) 85 sDec
noncomputable def cx (E : FuncId → List AV → Option (List Prop × List AV)) : Cx := ⟨Tryz.prog, E, noCall, G16, 0⟩
noncomputable def I16 : FuncId → Option Func := fun f => bif Nat.beq f 109 then some Tryz.f109 else bif Nat.beq f 126 then some Tryz.f126 else none
noncomputable def C0 : Cx := cx noE
noncomputable def C1 : Cx := cx E1
noncomputable def C3 : Cx := cx E3
end E6
namespace E6
open Go Go.AE Go.Proofs
def by' (b : List UInt8) : AV := .imm (.bytes b)
def u6 (n : Int) : AV := .imm (.int .u64 n)
def tl' (xs : List (List IV)) : AV := .imm (.sl 3 xs)
def ln (n : Nat) : AV := .imm (.int .i64 (n : Int))
def rowB (l : List UInt8) : List (Nat × Ob) := [(0, ⟨true, 0, .row (.bytes l)⟩)]
def rowT (L : List Ty) : List (Nat × Ob) := [(0, ⟨true, 0, .row (slT L)⟩)]
def h31 (b : List UInt8) (off n v : Int) (i : Nat) : St := ⟨spr [(0, by' b), (1, i64 off), (2, i64 n), (8, u6 v), (26, i64 n), (27, ln i)] 0 42, [], 0, []⟩
def p31 : Plan := ⟨[], msk [0, 1, 2, 8, 26, 27] 0 42, []⟩
def h30 (n p : Int) (i : Nat) : St := ⟨spr [(0, i64 n), (3, u6 p), (4, ln i)] 0 13, [], 0, []⟩
def p30 : Plan := ⟨[], msk [0, 3, 4] 0 13, []⟩
def h11 (a b : List UInt8) (i : Nat) : St := ⟨spr [(0, by' a), (1, by' b), (5, ln i)] 0 26, [], 0, []⟩
def p11 : Plan := ⟨[], msk [0, 1, 5] 0 26, []⟩
def h10 (a b : List (List IV)) (i : Nat) : St := ⟨spr [(0, tl' a), (1, tl' b), (5, ln i)] 0 26, [], 0, []⟩
def h22 (b : List UInt8) (n v : Int) (own : Bool) (l : List UInt8) (i : Nat) : St := ⟨spr [(0, by' b), (1, i64 n), (2, u6 v), (7, .row 0 0), (8, ln i)] 0 28, [(0, ⟨own, 0, .row (.bytes l)⟩)], 1, []⟩
def p22i : Plan := ⟨[.tmp 7 (.bytes [])], msk [0, 1, 2, 7, 8] 0 28, [0]⟩
def p22 : Plan := ⟨[], msk [0, 1, 2, 7, 8] 0 28, [1]⟩
def h12 (xs : List (List IV)) (l : List UInt8) (i : Nat) : St := ⟨spr [(3, .row 0 0), (11, tl' xs), (12, ln xs.length), (13, ln i)] 0 33, rowB l, 1, []⟩
def h13 (xs : List (List IV)) (l : List UInt8) (i : Nat) : St := ⟨spr [(0, tl' xs), (3, .row 0 0), (4, ln i)] 0 36, rowB l, 1, []⟩
def p13i : Plan := ⟨[.tmp 3 (.bytes [])], msk [0, 3, 4] 0 36, [0]⟩
noncomputable def C8 : Cx := ⟨Tryz.prog, E3, call16 I16 E3 3 3, G16, 0⟩
def h8 (b : List UInt8) (L : List Ty) (i : Nat) : St := ⟨spr [(0, by' b), (4, .row 0 0), (5, ln i)] 0 33, rowT L, 1, []⟩
def p8i : Plan := ⟨[.tmp 4 (.sl 3 [])], msk [0, 4, 5] 0 33, [0]⟩
end E6
namespace Y27
open Go Go.AE Go.Proofs E6
structure Lp where
  a : Int
  c : Int
deriving DecidableEq
def cellsL (l : Lp) : List IV := [.int .i64 l.a, .int .i32 l.c]
def lpOf (el : List IV) : Lp := ⟨ivInt (ivNth el 0), ivInt (ivNth el 1)⟩
def lps (xs : List (List IV)) : List Lp := xs.map lpOf
def okLp (l : Lp) : Prop := -9223372036854775808 ≤ l.a ∧ l.a ≤ 9223372036854775807 ∧ -2147483648 ≤ l.c ∧ l.c ≤ 2147483647
def okL (xs : List (List IV)) : Prop := xs = (lps xs).map cellsL ∧ ∀ l ∈ lps xs, okLp l
def slL (L : List Lp) : IV := .sl 2 (L.map cellsL)
def u32 (n : Int) : AV := .imm (.int .u32 n)
def curAV (d : List UInt8) (p e a : Int) : AV := .agg [by' d, i64 p, i64 e, i64 a]
structure Cu where
  d : List UInt8
  p : Int
  e : Int
  a : Int
def Cu.av (c : Cu) : AV := curAV c.d c.p c.e c.a
structure Hd where
  v : Int
  iu : Int
  is : Int
  l : Int
  t : Int
  ty : Int
  c : Int
deriving DecidableEq
def hdAV (v iu is l t ty c : Int) : AV := .agg [i64 v, u32 iu, u32 is, u32 l, u32 t, u32 ty, u32 c]
def Hd.av (h : Hd) : AV := hdAV h.v h.iu h.is h.l h.t h.ty h.c
def blkAV (T : List Int) (I : List UInt8) (X : List (List IV)) (C : List UInt8) (L : List (List IV)) (S U : List Bool) : AV :=
  .agg [.imm (.ints .i64 T), by' I, .imm (.sl 3 X), by' C, .imm (.sl 2 L), .imm (.bools S), .imm (.bools U)]
def U32 (n : Int) : Prop := 0 ≤ n ∧ n ≤ 4294967295
def okH (h : Hd) : Prop := U32 h.iu ∧ U32 h.is ∧ U32 h.l ∧ U32 h.t ∧ U32 h.ty ∧ U32 h.c
def restU (c : Cu) : Int := if c.e = 0 then (c.d.length : Int) - c.p else 0
def failU (c : Cu) (why at' : Int) : Cu := if c.e = 0 ∧ why ≠ 0 then ⟨c.d, c.p, why, at'⟩ else c
def advOk (c : Cu) (n : Int) : Bool := decide (c.e = 0 ∧ 0 ≤ n ∧ n ≤ restU c)
def advU (c : Cu) (n : Int) : Cu := if c.e = 0 then (if 0 ≤ n ∧ n ≤ restU c then ⟨c.d, c.p + n, 0, c.a⟩ else ⟨c.d, c.p, 1, c.d.length⟩) else c
def takeU (c : Cu) (n : Int) : List UInt8 := if advOk c n then (c.d.drop c.p.toNat).take n.toNat else []
def okU (c : Cu) : Prop := 0 ≤ c.p ∧ c.p ≤ (c.d.length : Int) ∧ (c.d.length : Int) ≤ 1000000000000
def l0 (h : Hd) (s : Int) : Int := h.t * s
def l1 (h : Hd) : Int := h.t
def l2 (h : Hd) : Int := 6 * h.ty
def l3 (h : Hd) : Int := h.c
def l4 (h : Hd) (s : Int) : Int := h.l * (s + 4)
def l5 (h : Hd) : Int := h.is
def l6 (h : Hd) : Int := h.iu
def sumU (h : Hd) (s : Int) : Int := l0 h s + l1 h + l2 h + l3 h + l4 h s + l5 h + l6 h
def o1 (h : Hd) (s : Int) : Int := l0 h s
def o2 (h : Hd) (s : Int) : Int := o1 h s + l1 h
def o3 (h : Hd) (s : Int) : Int := o2 h s + l2 h
def o4 (h : Hd) (s : Int) : Int := o3 h s + l3 h
def o5 (h : Hd) (s : Int) : Int := o4 h s + l4 h s
def o6 (h : Hd) (s : Int) : Int := o5 h s + l5 h
def o7 (h : Hd) (s : Int) : Int := o6 h s + l6 h
def u32w (n : Nat) : Int := IntKind.wrap .u32 (n : Int)
def hdOf (T : List Int) (X : List (List IV)) (C : List UInt8) (L : List (List IV)) (S U : List Bool) (v : Int) : Hd := ⟨v, u32w U.length, u32w S.length, u32w L.length, u32w T.length, u32w X.length, u32w C.length⟩
def fewB (T : List Int) (I : List UInt8) (X : List (List IV)) (C : List UInt8) (L : List (List IV)) (S U : List Bool) : Bool :=
  decide (T.length ≤ 200) && decide (I.length ≤ 200) && decide (X.length ≤ 200) && decide (C.length ≤ 600) && decide (L.length ≤ 200) && decide (S.length ≤ 200) && decide (U.length ≤ 200)
def numAt (b : List UInt8) (s i : Nat) : Int := sgnN s (beN ((b.drop (s * i)).take s))
def decI (b : List UInt8) (s : Nat) : Nat → List Int
  | 0 => []
  | k + 1 => decI b s k ++ [numAt b s k]
def encI (s : Nat) : List Int → List UInt8
  | [] => []
  | t :: r => be s (u64 t) ++ encI s r
def lpAt (b : List UInt8) (s i : Nat) : Lp := ⟨sgnN s (beN ((b.drop ((s + 4) * i)).take s)), sgnN 4 (beN ((b.drop ((s + 4) * i + s)).take 4))⟩
def decL (b : List UInt8) (s : Nat) : Nat → List Lp
  | 0 => []
  | k + 1 => decL b s k ++ [lpAt b s k]
def encL (s : Nat) : List Lp → List UInt8
  | [] => []
  | l :: r => be s (u64 l.a) ++ be 4 (u64 l.c) ++ encL s r
def indOk (b : List UInt8) : Bool := b.all fun x => decide (x.toNat ≤ 1)
def decO (b : List UInt8) : List Bool := if indOk b then b.map (fun x => x == 1) else []
def encO (l : List Bool) : List UInt8 := l.map fun x => if x then 1 else 0
def fitsP (v n : Int) : Bool := decide (n = 8) || (decide (-2147483648 ≤ v) && decide (v < 2147483648))
def fitP (T : List Int) (n : Int) : Bool := T.all fun v => fitsP v n
def sz48 (n : Int) : Prop := n = 4 ∨ n = 8
def mulU (a b m : Int) : Int := if a * b ≤ m then a * b else 0
def addU (a b m : Int) : Int := if a + b ≤ m then a + b else 0
def sNew : List AV → Option (List Prop × List AV)
  | [.imm (.bytes d)] => some ([], [curAV d 0 0 0])
  | _ => none
def sRest : List AV → Option (List Prop × List AV)
  | [.agg [.imm (.bytes d), .imm (.int .i64 p), .imm (.int .i64 e), .imm (.int .i64 a)]] => some ([okU ⟨d, p, e, a⟩], [i64 (restU ⟨d, p, e, a⟩)])
  | _ => none
def sFail : List AV → Option (List Prop × List AV)
  | [.agg [.imm (.bytes d), .imm (.int .i64 p), .imm (.int .i64 e), .imm (.int .i64 a)], .imm (.int .i64 w), .imm (.int .i64 t)] => some ([], [(failU ⟨d, p, e, a⟩ w t).av])
  | _ => none
def sAdv : List AV → Option (List Prop × List AV)
  | [.agg [.imm (.bytes d), .imm (.int .i64 p), .imm (.int .i64 e), .imm (.int .i64 a)], .imm (.int .i64 n)] => some ([okU ⟨d, p, e, a⟩], [(advU ⟨d, p, e, a⟩ n).av, bo (advOk ⟨d, p, e, a⟩ n)])
  | _ => none
def sTake : List AV → Option (List Prop × List AV)
  | [.agg [.imm (.bytes d), .imm (.int .i64 p), .imm (.int .i64 e), .imm (.int .i64 a)], .imm (.int .i64 n)] => some ([okU ⟨d, p, e, a⟩], [.new (.bytes (takeU ⟨d, p, e, a⟩ n)), (advU ⟨d, p, e, a⟩ n).av])
  | _ => none
def hdS (k : Hd → Int → Option (List Prop × List AV)) : List AV → Option (List Prop × List AV)
  | [.agg [.imm (.int .i64 v), .imm (.int .u32 iu), .imm (.int .u32 is), .imm (.int .u32 l), .imm (.int .u32 t), .imm (.int .u32 ty), .imm (.int .u32 c)], .imm (.int .i64 s)] => k ⟨v, iu, is, l, t, ty, c⟩ s
  | _ => none
def sLens : List AV → Option (List Prop × List AV) := hdS fun h s => some ([okH h, sz48 s], [.agg [u6 (l0 h s), u6 (l1 h), u6 (l2 h), u6 (l3 h), u6 (l4 h s), u6 (l5 h), u6 (l6 h)]])
def sOffs : List AV → Option (List Prop × List AV) := hdS fun h s => some ([okH h, sz48 s], [.agg [u6 0, u6 (o1 h s), u6 (o2 h s), u6 (o3 h s), u6 (o4 h s), u6 (o5 h s), u6 (o6 h s), u6 (o7 h s)]])
def sSum : List AV → Option (List Prop × List AV) := hdS fun h s => some ([okH h, sz48 s], [u6 (sumU h s)])
def sTotal : List AV → Option (List Prop × List AV)
  | [.agg [.imm (.int .i64 v), .imm (.int .u32 iu), .imm (.int .u32 is), .imm (.int .u32 l), .imm (.int .u32 t), .imm (.int .u32 ty), .imm (.int .u32 c)], .imm (.int .i64 s), .imm (.int .u64 m)] =>
    some ([okH ⟨v, iu, is, l, t, ty, c⟩, sz48 s, 0 ≤ m, m ≤ 18446744073709551615], [u6 (if sumU ⟨v, iu, is, l, t, ty, c⟩ s ≤ m then sumU ⟨v, iu, is, l, t, ty, c⟩ s else 0), bo (decide (sumU ⟨v, iu, is, l, t, ty, c⟩ s ≤ m))])
  | _ => none
def sMul : List AV → Option (List Prop × List AV)
  | [.imm (.int .u64 a), .imm (.int .u64 b), .imm (.int .u64 m)] => some ([0 ≤ a, a ≤ 4294967295, 0 ≤ b, b ≤ 4294967295, 0 ≤ m, m ≤ 18446744073709551615], [u6 (mulU a b m), bo (decide (a * b ≤ m))])
  | _ => none
def sAdd : List AV → Option (List Prop × List AV)
  | [.imm (.int .u64 a), .imm (.int .u64 b), .imm (.int .u64 m)] => some ([0 ≤ a, a ≤ 18446744073709551615, 0 ≤ b, b ≤ 18446744073709551615, 0 ≤ m, m ≤ 18446744073709551615], [u6 (addU a b m), bo (decide (a + b ≤ m))])
  | _ => none
def sMul64 : List AV → Option (List Prop × List AV)
  | [.imm (.int .u64 a), .imm (.int .u64 b)] => some ([0 ≤ a, a ≤ 4294967295, 0 ≤ b, b ≤ 4294967295], [u6 0, u6 (a * b)])
  | _ => none
def blkS (k : List Int → List UInt8 → List (List IV) → List UInt8 → List (List IV) → List Bool → List Bool → List AV → Option (List Prop × List AV)) : List AV → Option (List Prop × List AV)
  | .agg [.imm (.ints .i64 T), .imm (.bytes I), .imm (.sl 3 X), .imm (.bytes C), .imm (.sl 2 L), .imm (.bools S), .imm (.bools U)] :: r => k T I X C L S U r
  | _ => none
def sHeader : List AV → Option (List Prop × List AV) := blkS fun T I X C L S U r => match r with
  | [.imm (.int .i64 v)] => some ([], [(hdOf T X C L S U v).av])
  | _ => none
def sFew : List AV → Option (List Prop × List AV) := blkS fun T I X C L S U r => match r with
  | [] => some ([], [bo (fewB T I X C L S U)])
  | _ => none
def big' : Int := 1000000000000
def sSameI : List AV → Option (List Prop × List AV)
  | [.imm (.ints .i64 a), .imm (.ints .i64 b)] => some ([(a.length : Int) ≤ big', (b.length : Int) ≤ big'], [bo (decide (a = b))])
  | _ => none
def sSameL : List AV → Option (List Prop × List AV)
  | [.imm (.sl 2 xs), .imm (.sl 2 ys)] => some ([okL xs, okL ys, (xs.length : Int) ≤ big', (ys.length : Int) ≤ big'], [bo (decide (lps xs = lps ys))])
  | _ => none
def sSameO : List AV → Option (List Prop × List AV)
  | [.imm (.bools a), .imm (.bools b)] => some ([(a.length : Int) ≤ big', (b.length : Int) ≤ big'], [bo (decide (a = b))])
  | _ => none
def sameK (T : List Int) (I : List UInt8) (X : List (List IV)) (C : List UInt8) (L : List (List IV)) (S U : List Bool) (T' : List Int) (I' : List UInt8) (X' : List (List IV)) (C' : List UInt8) (L' : List (List IV)) (S' U' : List Bool) : Bool :=
  decide (T = T') && (decide (I = I') && (decide (tys X = tys X') && (decide (C = C') && (decide (lps L = lps L') && (decide (S = S') && decide (U = U'))))))
def okB (T : List Int) (I : List UInt8) (X : List (List IV)) (C : List UInt8) (L : List (List IV)) (S U : List Bool) : Prop :=
  okT X ∧ okL L ∧ (T.length : Int) ≤ big' ∧ (I.length : Int) ≤ big' ∧ (X.length : Int) ≤ big' ∧ (C.length : Int) ≤ big' ∧ (L.length : Int) ≤ big' ∧ (S.length : Int) ≤ big' ∧ (U.length : Int) ≤ big'
def sEqual : List AV → Option (List Prop × List AV) := blkS fun T I X C L S U r => blkS (fun T' I' X' C' L' S' U' r => match r with
  | [] => some ([okB T I X C L S U, okB T' I' X' C' L' S' U'], [bo (sameK T I X C L S U T' I' X' C' L' S' U')])
  | _ => none) r
def sDecI : List AV → Option (List Prop × List AV)
  | [.imm (.bytes b), .imm (.int .i64 s)] => some ([sz48 s, (b.length : Int) ≤ big'], [.new (.ints .i64 (decI b s.toNat (b.length / s.toNat)))])
  | _ => none
def sEncI : List AV → Option (List Prop × List AV)
  | [.imm (.ints .i64 T), .imm (.int .i64 s)] => some ([sz48 s, (T.length : Int) ≤ 10000000000], [.new (.bytes (encI s.toNat T))])
  | _ => none
def sDecL : List AV → Option (List Prop × List AV)
  | [.imm (.bytes b), .imm (.int .i64 s)] => some ([sz48 s, (b.length : Int) ≤ big'], [.new (slL (decL b s.toNat (b.length / (s.toNat + 4))))])
  | _ => none
def sEncL : List AV → Option (List Prop × List AV)
  | [.imm (.sl 2 xs), .imm (.int .i64 s)] => some ([okL xs, sz48 s, (xs.length : Int) ≤ 10000000000], [.new (.bytes (encL s.toNat (lps xs)))])
  | _ => none
def sDecO : List AV → Option (List Prop × List AV)
  | [.imm (.bytes b)] => some ([(b.length : Int) ≤ big'], [.new (.bools (decO b)), bo (indOk b)])
  | _ => none
def sEncO : List AV → Option (List Prop × List AV)
  | [.imm (.bools l)] => some ([(l.length : Int) ≤ big'], [.new (.bytes (encO l))])
  | _ => none
def sFits : List AV → Option (List Prop × List AV)
  | [.imm (.int .i64 v), .imm (.int .i64 n)] => some ([sz48 n], [bo (fitsP v n)])
  | _ => none
def sFit : List AV → Option (List Prop × List AV)
  | [.imm (.ints .i64 T), .imm (.int .i64 n)] => some ([sz48 n, (T.length : Int) ≤ big], [bo (fitP T n)])
  | _ => none
end Y27
namespace Y27
open Go Go.AE Go.Proofs E6
def F1a := addE (addE (addE (addE E4 27 sNew) 51 sRest) 79 sFail) 36 sFew
def F1b := addE (addE (addE F1a 21 sHeader) 124 sMul64) 107 sAdd
def F1c := addE (addE (addE F1b 62 sSameI) 65 sSameL) 66 sSameO
def F1d := addE (addE (addE (addE F1c 40 sLens) 87 sDecI) 88 sDecL) 86 sDecO
def F1 := addE (addE (addE (addE F1d 32 sEncI) 34 sEncL) 35 sEncO) 56 sFits
def F2 := addE (addE (addE (addE (addE (addE F1 106 sMul) 89 sAdv) 22 sSum) 55 sFit) 38 sEqual) 108 sLens
noncomputable def K0 : Cx := cx E4
noncomputable def K1 : Cx := cx F1
noncomputable def K2 : Cx := cx F2
noncomputable def I2 : FuncId → Option Func := fun f => bif Nat.beq f 80 then some Tryz.f80 else bif Nat.beq f 81 then some Tryz.f81 else none
noncomputable def inlU (E : FuncId → List AV → Option (List Prop × List AV)) (u : Nat) : Cx := ⟨Tryz.prog, E, inl I2 Tryz.prog E G16 u 3, G16, u⟩
noncomputable def K1u : Cx := inlU F1 9
noncomputable def K2u : Cx := inlU F2 9
end Y27
namespace Y27
open Go Go.AE Go.Proofs E6
def ii (l : List Int) : AV := .imm (.ints .i64 l)
def oo (l : List Bool) : AV := .imm (.bools l)
def ll (xs : List (List IV)) : AV := .imm (.sl 2 xs)
def rowI (l : List Int) : List (Nat × Ob) := [(0, ⟨true, 0, .row (.ints .i64 l)⟩)]
def rowL (L : List Lp) : List (Nat × Ob) := [(0, ⟨true, 0, .row (slL L)⟩)]
def rowO (l : List Bool) : List (Nat × Ob) := [(0, ⟨true, 0, .row (.bools l)⟩)]
def hA (x y : AV) (i : Nat) : St := ⟨spr [(0, x), (1, y), (5, ln i)] 0 26, [], 0, []⟩
def pA : Plan := ⟨[], msk [0, 1, 5] 0 26, []⟩
def hB (x y : AV) (n i : Nat) : St := ⟨spr [(0, x), (1, y), (12, ln n), (13, ln i)] 0 26, [], 0, []⟩
def h33 (b : List UInt8) (s : Int) (l : List Int) (i : Int) : St := ⟨spr [(0, by' b), (1, i64 s), (5, .row 0 0), (6, i64 i)] 0 30, rowI l, 1, []⟩
def p33i : Plan := ⟨[.tmp 5 (.ints .i64 [])], msk [0, 1, 5, 6] 0 30, [0]⟩
def h34 (b : List UInt8) (s : Int) (l : List Lp) (i : Int) : St := ⟨spr [(0, by' b), (1, i64 s), (5, .row 0 0), (6, i64 i)] 0 45, rowL l, 1, []⟩
def p34i : Plan := ⟨[.tmp 5 (.sl 2 [])], msk [0, 1, 5, 6] 0 45, [0]⟩
def h32 (b : List UInt8) (l : List Bool) (i : Nat) : St := ⟨spr [(4, .row 0 0), (7, by' b), (8, ln b.length), (9, ln i)] 0 24, rowO l, 1, []⟩
def p32i : Plan := ⟨[.tmp 4 (.bools [])], msk [4, 7, 8, 9] 0 24, [0]⟩
def h58 (T : List Int) (s : Int) (l : List UInt8) (i : Nat) : St := ⟨spr [(0, ii T), (1, i64 s), (5, .row 0 0), (6, ln i)] 0 22, rowB l, 1, []⟩
def p58i : Plan := ⟨[.tmp 5 (.bytes [])], msk [0, 1, 5, 6] 0 22, [0]⟩
def h60 (xs : List (List IV)) (s : Int) (l : List UInt8) (i : Nat) : St := ⟨spr [(0, ll xs), (1, i64 s), (5, .row 0 0), (6, ln i)] 0 32, rowB l, 1, []⟩
def p60i : Plan := ⟨[.tmp 5 (.bytes [])], msk [0, 1, 5, 6] 0 32, [0]⟩
def h57 (l : List Bool) (v : List UInt8) (i : Nat) : St := ⟨spr [(3, .row 0 0), (9, oo l), (10, ln l.length), (11, ln i)] 0 22, rowB v, 1, []⟩
def h61 (l : List Bool) (v : List UInt8) (i : Nat) : St := ⟨spr [(0, oo l), (3, .row 0 0), (4, ln i)] 0 22, rowB v, 1, []⟩
def p61i : Plan := ⟨[.tmp 3 (.bytes [])], msk [0, 3, 4] 0 22, [0]⟩
def h52 (T : List Int) (n : Int) (i : Nat) : St := ⟨spr [(0, ii T), (1, i64 n), (5, ln i)] 0 19, [], 0, []⟩
def p52 : Plan := ⟨[], msk [0, 1, 5] 0 19, []⟩
def zCur : List AV := [.imm (.val (.slice none 0 0)), i64 0, i64 0, i64 0]
def h37 (d : List UInt8) (p e a n : Int) (l : List UInt8) (i : Nat) : St :=
  ⟨spr [(1, i64 n), (2, .ptr 0 0), (5, .ptr 1 0), (6, .row 2 0), (7, ln i)] 0 52, [(0, ⟨true, 0, .cells [by' d, i64 p, i64 e, i64 a]⟩), (1, ⟨true, 0, .cells zCur⟩), (2, ⟨true, 0, .row (.bytes l)⟩)], 3, []⟩
end Y27
namespace Y27
open Go Go.AE Go.Proofs E6
structure Bk where
  T : List Int
  I : List UInt8
  X : List Ty
  C : List UInt8
  L : List Lp
  S : List Bool
  U : List Bool
deriving DecidableEq
def Bk.av (b : Bk) : AV := blkAV b.T b.I (b.X.map cellsT) b.C (b.L.map cellsL) b.S b.U
def zB : Bk := ⟨[], [], [], [], [], [], []⟩
def pt (d : List UInt8) (o n : Int) : List UInt8 := (d.drop o.toNat).take n.toNat
def b0 (d : List UInt8) (h : Hd) (s : Int) : List UInt8 := pt d 0 (l0 h s)
def b1 (d : List UInt8) (h : Hd) (s : Int) : List UInt8 := pt d (o1 h s) (l1 h)
def b2 (d : List UInt8) (h : Hd) (s : Int) : List UInt8 := pt d (o2 h s) (l2 h)
def b3 (d : List UInt8) (h : Hd) (s : Int) : List UInt8 := pt d (o3 h s) (l3 h)
def b4 (d : List UInt8) (h : Hd) (s : Int) : List UInt8 := pt d (o4 h s) (l4 h s)
def b5 (d : List UInt8) (h : Hd) (s : Int) : List UInt8 := pt d (o5 h s) (l5 h)
def b6 (d : List UInt8) (h : Hd) (s : Int) : List UInt8 := pt d (o6 h s) (l6 h)
def tI (b : List UInt8) (s : Int) : List Int := decI b s.toNat (b.length / s.toNat)
def tL (b : List UInt8) (s : Int) : List Lp := decL b s.toNat (b.length / (s.toNat + 4))
def decB (d : List UInt8) (h : Hd) (s : Int) : Bk := ⟨tI (b0 d h s) s, b1 d h s, dec (b2 d h s), b3 d h s, tL (b4 d h s) s, decO (b5 d h s), decO (b6 d h s)⟩
def okD (d : List UInt8) (h : Hd) (s : Int) : Bool := decOk (b2 d h s) && indOk (b5 d h s) && indOk (b6 d h s)
def fitsD (c : Cu) (h : Hd) (s : Int) : Bool := decide (sumU h s ≤ restU c)
def decU (c : Cu) (h : Hd) (s a : Int) : Bk × Cu :=
  if c.e = 0 then (if fitsD c h s then (if okD (c.d.drop c.p.toNat) h s then (decB (c.d.drop c.p.toNat) h s, ⟨c.d, c.p + sumU h s, 0, c.a⟩) else (zB, ⟨c.d, c.p + sumU h s, 10, a⟩)) else (zB, ⟨c.d, c.p, 1, c.d.length⟩)) else (zB, c)
def sDecode : List AV → Option (List Prop × List AV)
  | [.agg [.imm (.bytes d), .imm (.int .i64 p), .imm (.int .i64 e), .imm (.int .i64 a)], .agg [.imm (.int .i64 v), .imm (.int .u32 iu), .imm (.int .u32 is), .imm (.int .u32 l), .imm (.int .u32 t), .imm (.int .u32 ty), .imm (.int .u32 c)], .imm (.int .i64 s), .imm (.int .i64 at')] =>
    some ([okU ⟨d, p, e, a⟩, okH ⟨v, iu, is, l, t, ty, c⟩, sz48 s], [(decU ⟨d, p, e, a⟩ ⟨v, iu, is, l, t, ty, c⟩ s at').1.av, (decU ⟨d, p, e, a⟩ ⟨v, iu, is, l, t, ty, c⟩ s at').2.av])
  | _ => none
def encB (T : List Int) (I : List UInt8) (X : List Ty) (C : List UInt8) (L : List Lp) (S U : List Bool) (s : Nat) : List UInt8 := encI s T ++ (I ++ (enc X ++ (C ++ (encL s L ++ (encO S ++ encO U)))))
def okE (T : List Int) (I : List UInt8) (X : List (List IV)) (C : List UInt8) (L : List (List IV)) (S U : List Bool) : Prop :=
  okT X ∧ okL L ∧ (T.length : Int) ≤ 1000000000 ∧ (I.length : Int) ≤ 1000000000 ∧ (X.length : Int) ≤ 1000000000 ∧ (C.length : Int) ≤ 1000000000 ∧ (L.length : Int) ≤ 1000000000 ∧ (S.length : Int) ≤ 1000000000 ∧ (U.length : Int) ≤ 1000000000
def sEncode : List AV → Option (List Prop × List AV) := blkS fun T I X C L S U r => match r with
  | [.imm (.int .i64 s)] => some ([okE T I X C L S U, sz48 s], [.new (.bytes (encB T I (tys X) C (lps L) S U s.toNat))])
  | _ => none
def F3 := addE (addE (addE F2 50 sTotal) 82 sTake) 83 sOffs
noncomputable def K3 : Cx := cx F3
noncomputable def I3 : FuncId → Option Func := fun f => bif Nat.beq f 84 then some Tryz.f84 else none
noncomputable def K3i : Cx := ⟨Tryz.prog, F3, inl I3 Tryz.prog F3 G16 0 3, G16, 0⟩
end Y27
namespace Y27
open Go Go.AE Go.Proofs E6
def blkC (T : List Int) (I : List UInt8) (X : List (List IV)) (C : List UInt8) (L : List (List IV)) (S U : List Bool) : List AV := [ii T, by' I, .imm (.sl 3 X), by' C, ll L, oo S, oo U]
def h19 (T : List Int) (I : List UInt8) (X : List (List IV)) (C : List UInt8) (L : List (List IV)) (S U : List Bool) (s : Int) (i : Nat) : St :=
  ⟨spr [(1, i64 s), (2, .ptr 0 0), (5, ln i)] 0 39, [(0, ⟨true, 0, .cells (blkC T I X C L S U)⟩)], 1, []⟩
end Y27
namespace Y27
open Go Go.AE Go.Proofs E6
def F4 := addE (addE F3 52 sDecode) 17 sEncode
def sm (S : St) : Prop := some S = some S
end Y27
namespace E6
open Go Go.Proofs Go.RowKit Go.Extern.Stop Go.Stop Go.Extern
theorem as_nil (t : Value) (w : World) :
    Calls Tryz.prog 110 #[.nilIface, t] w fun e w' => e = .returned (.bool false) ∧ w' = w := by
  go_enter Tryz.func110, Tryz.ntmps110
  go_wp2
  go_ret
  exact ⟨rfl, rfl⟩
def hv (t : Nat) : Value := .agg #[.pointer (some ⟨4, t, none⟩)]
theorem valueOf46 (t : Addr) (w : World) : (ReflectliteValue.unpack (.iface 175 (.pointer (some t)))).run Tryz.prog w
    = .ok (.agg #[.pointer (some ⟨4, 175, none⟩), .pointer (some ⟨w.heap.size, 0, none⟩), .int .u64 150]) (w.alloc (.cells #[.pointer (some t)] 175)) := by kernel_rfl
theorem valueOf44 (x : Int) (w : World) : (ReflectliteValue.unpack (.iface 173 (.int .u8 x))).run Tryz.prog w
    = .ok (.agg #[.pointer (some ⟨4, 173, none⟩), .pointer (some ⟨w.heap.size, 0, none⟩), .int .u64 136]) (w.alloc (.cells #[.int .u8 x] 173)) := by kernel_rfl
theorem type46 (a : Addr) (w : World) : (ReflectliteValue.methodAny (ReflectliteValue.valueError "reflectlite.Value.Type" 0) (fun t _ _ _ => ReflectliteType.toType t) #[.agg #[.pointer (some ⟨4, 175, none⟩), .pointer (some a), .int .u64 150]]).run Tryz.prog w
    = .ok (.iface 215 (.agg #[.pointer (some ⟨4, 175, none⟩)])) w := by kernel_rfl
theorem kind46 (w : World) : ((ReflectliteType.abiMethod fun t => (fun a : Nat => Value.int IntKind.u8 (a : Int)) <$> Rtype.kind t) #[.pointer (some ⟨4, 175, none⟩)]).run Tryz.prog w = .ok (.int .u8 22) w := by kernel_rfl
theorem kind44 (w : World) : ((ReflectliteType.abiMethod fun t => (fun a : Nat => Value.int IntKind.u8 (a : Int)) <$> Rtype.kind t) #[.pointer (some ⟨4, 173, none⟩)]).run Tryz.prog w = .ok (.int .u8 8) w := by kernel_rfl
theorem elem46 (w : World) : (ReflectliteType.method ReflectliteType.elem #[.agg #[.pointer (some ⟨4, 175, none⟩)]]).run Tryz.prog w = .ok (.iface 215 (.agg #[.pointer (some ⟨4, 173, none⟩)])) w := by kernel_rfl
theorem implements44 (w : World) : (ReflectliteType.relation "Implements" ReflectliteType.implements_ #[.agg #[.pointer (some ⟨4, 173, none⟩)], .iface 215 (.agg #[.pointer (some ⟨4, 170, none⟩)])]).run Tryz.prog w = .ok (.bool true) w := by kernel_rfl
theorem typeOf44 (v : Value) (w : World) : (ReflectliteType.typeOf #[.iface 173 v]).run Tryz.prog w = .ok (.iface 215 (.agg #[.pointer (some ⟨4, 173, none⟩)])) w := by kernel_rfl
theorem typeOf69 (v : Value) (w : World) : (ReflectliteType.typeOf #[.iface 211 v]).run Tryz.prog w = .ok (.iface 215 (.agg #[.pointer (some ⟨4, 211, none⟩)])) w := by kernel_rfl
theorem assign44 (w : World) : (ReflectliteType.relation "AssignableTo" ReflectliteType.assignableTo #[.agg #[.pointer (some ⟨4, 173, none⟩)], .iface 215 (.agg #[.pointer (some ⟨4, 173, none⟩)])]).run Tryz.prog w = .ok (.bool true) w := by kernel_rfl
theorem assign69 (w : World) : (ReflectliteType.relation "AssignableTo" ReflectliteType.assignableTo #[.agg #[.pointer (some ⟨4, 211, none⟩)], .iface 215 (.agg #[.pointer (some ⟨4, 173, none⟩)])]).run Tryz.prog w = .ok (.bool false) w := by kernel_rfl
theorem methodKind (h : Value) (w : World) : (Go.method 357 215 (.agg #[h]) "Kind").run Tryz.prog w = .ok (156, h) w := by kernel_rfl
theorem methodElem (h : Value) (w : World) : (Go.method 357 215 (.agg #[h]) "Elem").run Tryz.prog w = .ok (168, .agg #[h]) w := by kernel_rfl
theorem methodImplements (h : Value) (w : World) : (Go.method 357 215 (.agg #[h]) "Implements").run Tryz.prog w = .ok (169, .agg #[h]) w := by kernel_rfl
theorem methodAssignableTo (h : Value) (w : World) : (Go.method 357 215 (.agg #[h]) "AssignableTo").run Tryz.prog w = .ok (166, .agg #[h]) w := by kernel_rfl
theorem rlm (z : Sem Value) (f : TypeId → Addr → Nat → Nat → Sem Value) (v : Value) : ReflectliteValue.method z f #[v] = (do match ← ReflectliteValue.parts v with | none => z | some (t, a, fl) => f t a fl (fl % 32)) := rfl theorem parts46 (a : Addr) (w : World) : (ReflectliteValue.parts (.agg #[.pointer (some ⟨4, 175, none⟩), .pointer (some a), .int .u64 150])).run Tryz.prog w = .ok (some (175, a, 150)) w := by kernel_rfl
theorem isNil46 (a p : Addr) (W : World) (ha : W.cell? a = some (.pointer (some p))) :
    (ReflectliteValue.method (ReflectliteValue.valueError "reflectlite.Value.IsNil" 0) ReflectliteValue.isNil #[.agg #[.pointer (some ⟨4, 175, none⟩), .pointer (some a), .int .u64 150]]).run Tryz.prog W = .ok (.bool false) W := by
  rw [rlm]
  simp only [Sem.run_bind, parts46, Result.andThen]
  simp [ReflectliteValue.isNil, loadVar, isAgg, underlying, Tryz.underlying175, ha, Result.andThen]
theorem elemOf46 (w : World) : (Rtype.elem? 175).run Tryz.prog w = .ok (some 173) w := by kernel_rfl
theorem mk44 (p : Addr) (w : World) : (ReflectliteValue.mk 173 p ReflectliteValue.flagAddr).run Tryz.prog w = .ok (.agg #[.pointer (some ⟨4, 173, none⟩), .pointer (some p), .int .u64 392]) w := by kernel_rfl
theorem elemV46 (a p : Addr) (W : World) (ha : W.cell? a = some (.pointer (some p))) :
    (ReflectliteValue.method (ReflectliteValue.valueError "reflectlite.Value.Elem" 0) ReflectliteValue.elem #[.agg #[.pointer (some ⟨4, 175, none⟩), .pointer (some a), .int .u64 150]]).run Tryz.prog W
      = .ok (.agg #[.pointer (some ⟨4, 173, none⟩), .pointer (some p), .int .u64 392]) W := by
  rw [rlm]
  simp only [Sem.run_bind, parts46, Result.andThen]
  simp [ReflectliteValue.elem, loadVar, isAgg, underlying, Tryz.underlying175, ha, Result.andThen, elemOf46, mk44]
theorem rls (v x : Value) : ReflectliteValue.set #[v, x] = (do
    let (some (dst, a, fl), some (src, b, _)) := (← ReflectliteValue.parts v, ← ReflectliteValue.parts x)
      | unsupported (.noEntry "extern/(internal/reflectlite.Value).Set.zeroValue")
    if fl / ReflectliteValue.flagAddr % 2 == 0 then unsupported (.noEntry "extern/(internal/reflectlite.Value).Set.unaddressable")
    let val ← loadVar src b
    if ← Rtype.directlyAssignable dst src then storeVar dst a val
    else if ← Rtype.implements dst src then
      if (← Rtype.kind src) == 20 then
        match val with
        | .nilIface => unsupported (.noEntry "extern/reflectlite: a nil value of one interface type handed on as a value of another")
        | _ => storeVar dst a val
      else storeVar dst a (.iface src val)
    else panicString ("reflectlite.Set: value of type " ++ (← Rtype.spelt src) ++ " is not assignable to type " ++ (← Rtype.spelt dst))
    pure (.tuple #[])) := rfl
theorem parts44a (a : Addr) (w : World) : (ReflectliteValue.parts (.agg #[.pointer (some ⟨4, 173, none⟩), .pointer (some a), .int .u64 392])).run Tryz.prog w = .ok (some (173, a, 392)) w := by kernel_rfl
theorem parts44 (a : Addr) (w : World) : (ReflectliteValue.parts (.agg #[.pointer (some ⟨4, 173, none⟩), .pointer (some a), .int .u64 136])).run Tryz.prog w = .ok (some (173, a, 136)) w := by kernel_rfl
theorem direct44 (w : World) : (Rtype.directlyAssignable 173 173).run Tryz.prog w = .ok true w := by kernel_rfl
theorem set44 (ta b : Addr) (x : Int) (old : Value) (W : World) (hb : W.cell? b = some (.int .u8 x)) (ht : W.cell? ta = some old) (hf : W.frozen? ta = false) :
    (ReflectliteValue.set #[.agg #[.pointer (some ⟨4, 173, none⟩), .pointer (some ta), .int .u64 392], .agg #[.pointer (some ⟨4, 173, none⟩), .pointer (some b), .int .u64 136]]).run Tryz.prog W
      = .ok (.tuple #[]) (W.setCell ta (.int .u8 x)) := by
  rw [rls]
  simp only [Sem.run_bind, parts44a, parts44, Result.andThen]
  simp [ReflectliteValue.flagAddr, loadVar, isAgg, underlying, Tryz.underlying173, hb, Result.andThen, direct44, storeVar, Value.cells, storeCells, Addr.add]
  rw [run_store Tryz.prog W ta _ _ (by rfl)]
  simp [ht, hf]
end E6
namespace E6
open Go Go.Proofs Go.RowKit Go.Extern.Stop Go.Stop Go.Extern
set_option maxRecDepth 100000 in
set_option maxHeartbeats 4000000 in
theorem as_flag (x : Int) (t pv : Addr) (old : Value) (w : World) (hpv : w.cell? pv = some (.pointer (some t))) (ht : w.cell? t = some old) (hf : w.frozen? t = false) :
    Calls Tryz.prog 130 #[.iface 173 (.int .u8 x), .iface 175 (.pointer (some t)), .agg #[.pointer (some ⟨4, 175, none⟩), .pointer (some pv), .int .u64 150], .iface 215 (.agg #[.pointer (some ⟨4, 173, none⟩)])] w fun e w' =>
      e = .returned (.bool true) ∧ w' = ((w.alloc (.cells #[.pointer (some ⟨4, 175, none⟩), .pointer (some pv), .int .u64 150] 198)).alloc (.cells #[.int .u8 x] 173)).setCell t (.int .u8 x) := by
  have h32 := @run_callFunc_extern Tryz.prog 136 _ ReflectliteType.typeOf Tryz.func136 (by kernel_rfl) (by kernel_rfl) (by kernel_rfl) (by kernel_rfl)
  have h59 := @run_callFunc_extern Tryz.prog 166 _ (ReflectliteType.relation "AssignableTo" ReflectliteType.assignableTo) Tryz.func166 (by kernel_rfl) (by kernel_rfl) (by kernel_rfl) (by kernel_rfl)
  have h33 := @run_callFunc_extern Tryz.prog 137 _ (ReflectliteValue.method (ReflectliteValue.valueError "reflectlite.Value.Elem" 0) ReflectliteValue.elem) Tryz.func137 (by kernel_rfl) (by kernel_rfl) (by kernel_rfl) (by kernel_rfl)
  have h25 := @run_callFunc_extern Tryz.prog 127 _ (fun args => ReflectliteValue.unpack (args.getD 0 (.tuple #[]))) Tryz.func127 (by kernel_rfl) (by kernel_rfl) (by kernel_rfl) (by kernel_rfl)
  have h34 := @run_callFunc_extern Tryz.prog 138 _ ReflectliteValue.set Tryz.func138 (by kernel_rfl) (by kernel_rfl) (by kernel_rfl) (by kernel_rfl)
  have tO := typeOf44
  have mA := methodAssignableTo
  have a44 := assign44
  have v44 := valueOf44
  have hpl : pv.block < w.heap.size := by
    rcases Nat.lt_or_ge pv.block w.heap.size with h | h
    · exact h
    · simp [World.cell?, Array.getElem?_eq_none h] at hpv
  have htl : t.block < w.heap.size := by
    rcases Nat.lt_or_ge t.block w.heap.size with h | h
    · exact h
    · simp [World.cell?, Array.getElem?_eq_none h] at ht
  have el := elemV46 pv t (w.alloc (.cells #[.pointer (some ⟨4, 175, none⟩), .pointer (some pv), .int .u64 150] 198)) (by rw [World.cell?_alloc_lt _ _ pv hpl]; exact hpv)
  have st := set44 t ⟨w.heap.size + 1, 0, none⟩ x old ((w.alloc (.cells #[.pointer (some ⟨4, 175, none⟩), .pointer (some pv), .int .u64 150] 198)).alloc (.cells #[.int .u8 x] 173))
    (by rw [World.cell?_alloc_at _ _ _ _ (by simp)]; rfl)
    (by rw [World.cell?_alloc_lt _ _ t (by simp; omega), World.cell?_alloc_lt _ _ t htl]; exact ht)
    (by rw [World.frozen?_alloc_old _ _ t (by simp; omega), World.frozen?_alloc_old _ _ t (Nat.ne_of_lt htl)]; exact hf)
  go_enter Tryz.func130, Tryz.ntmps130
  go_wp2
  refine wp_loop_rounds 1 ?_
  rw [rounds_succ]
  go_wp2
  go_ret
  exact ⟨rfl, rfl⟩
end E6
namespace E6
open Go Go.Proofs Go.RowKit Go.Extern.Stop Go.Stop Go.Extern
theorem no69_78 (v : Value) (xT : TypeId) (w : World) : (Instr.typeAssert (.iface 211 v) xT 220 true).run Tryz.prog w = .ok (.tuple #[.nilIface, .bool false]) w := run_typeAssert_lacksB Tryz.underlying220 (by kernel_rfl) (by kernel_rfl) v xT w
theorem no69_81 (v : Value) (xT : TypeId) (w : World) : (Instr.typeAssert (.iface 211 v) xT 223 true).run Tryz.prog w = .ok (.tuple #[.nilIface, .bool false]) w := run_typeAssert_lacksB Tryz.underlying223 (by kernel_rfl) (by kernel_rfl) v xT w
theorem is69_83 (v : Value) (xT : TypeId) (w : World) : (Instr.typeAssert (.iface 211 v) xT 225 true).run Tryz.prog w = .ok (.tuple #[.iface 211 v, .bool true]) w := run_typeAssert_hasB Tryz.underlying225 (by kernel_rfl) v xT w
theorem methodUnwrap (v : Value) (w : World) : (Go.method 357 211 v "Unwrap").run Tryz.prog w = .ok (164, v) w := by kernel_rfl
theorem unwrap (pe a : Addr) (cap : Nat) (w : World) (he : w.cell? pe = some (.slice (some a) 1 cap)) :
    Calls Tryz.prog 164 #[.pointer (some pe)] w fun e w' => e = .returned (.slice (some a) 1 cap) ∧ w' = w := by
  go_enter Tryz.func164, Tryz.ntmps164
  go_wp2
  go_ret
  exact ⟨rfl, rfl⟩
set_option maxRecDepth 100000 in
set_option maxHeartbeats 4000000 in
theorem as_join (x : Int) (pe a t pv : Addr) (cap : Nat) (old : Value) (w : World) (he : w.cell? pe = some (.slice (some a) 1 cap)) (ha : w.cell? a = some (.iface 173 (.int .u8 x))) (hpv : w.cell? pv = some (.pointer (some t))) (ht : w.cell? t = some old) (hf : w.frozen? t = false) :
    Calls Tryz.prog 130 #[.iface 211 (.pointer (some pe)), .iface 175 (.pointer (some t)), .agg #[.pointer (some ⟨4, 175, none⟩), .pointer (some pv), .int .u64 150], .iface 215 (.agg #[.pointer (some ⟨4, 173, none⟩)])] w fun e w' =>
      e = .returned (.bool true) ∧ w' = (((w.alloc (.cells #[.pointer (some ⟨4, 175, none⟩), .pointer (some pv), .int .u64 150] 198)).alloc (.cells #[.pointer (some ⟨4, 175, none⟩), .pointer (some pv), .int .u64 150] 198)).alloc (.cells #[.int .u8 x] 173)).setCell t (.int .u8 x) := by
  have h32 := @run_callFunc_extern Tryz.prog 136 _ ReflectliteType.typeOf Tryz.func136 (by kernel_rfl) (by kernel_rfl) (by kernel_rfl) (by kernel_rfl)
  have h59 := @run_callFunc_extern Tryz.prog 166 _ (ReflectliteType.relation "AssignableTo" ReflectliteType.assignableTo) Tryz.func166 (by kernel_rfl) (by kernel_rfl) (by kernel_rfl) (by kernel_rfl)
  have tO := typeOf69
  have mA := methodAssignableTo
  have a69 := assign69
  have n78 := no69_78
  have n81 := no69_81
  have i83 := is69_83
  have mU := methodUnwrap
  go_enter Tryz.func130, Tryz.ntmps130
  have hel : pe.block < w.heap.size := by
    rcases Nat.lt_or_ge pe.block w.heap.size with h | h
    · exact h
    · simp [World.cell?, Array.getElem?_eq_none h] at he
  have hal : a.block < w.heap.size := by
    rcases Nat.lt_or_ge a.block w.heap.size with h | h
    · exact h
    · simp [World.cell?, Array.getElem?_eq_none h] at ha
  have hpl : pv.block < w.heap.size := by
    rcases Nat.lt_or_ge pv.block w.heap.size with h | h
    · exact h
    · simp [World.cell?, Array.getElem?_eq_none h] at hpv
  have htl : t.block < w.heap.size := by
    rcases Nat.lt_or_ge t.block w.heap.size with h | h
    · exact h
    · simp [World.cell?, Array.getElem?_eq_none h] at ht
  have he1 : (w.alloc (.cells #[.pointer (some ⟨4, 175, none⟩), .pointer (some pv), .int .u64 150] 198)).cell? pe = some (.slice (some a) 1 cap) := by rw [World.cell?_alloc_lt _ _ pe hel]; exact he
  have ha1 : (w.alloc (.cells #[.pointer (some ⟨4, 175, none⟩), .pointer (some pv), .int .u64 150] 198)).cell? a = some (.iface 173 (.int .u8 x)) := by rw [World.cell?_alloc_lt _ _ a hal]; exact ha
  have hp1 : (w.alloc (.cells #[.pointer (some ⟨4, 175, none⟩), .pointer (some pv), .int .u64 150] 198)).cell? pv = some (.pointer (some t)) := by rw [World.cell?_alloc_lt _ _ pv hpl]; exact hpv
  have ht1 : (w.alloc (.cells #[.pointer (some ⟨4, 175, none⟩), .pointer (some pv), .int .u64 150] 198)).cell? t = some old := by rw [World.cell?_alloc_lt _ _ t htl]; exact ht
  have hf1 : (w.alloc (.cells #[.pointer (some ⟨4, 175, none⟩), .pointer (some pv), .int .u64 150] 198)).frozen? t = false := by rw [World.frozen?_alloc_old _ _ t (Nat.ne_of_lt htl)]; exact hf
  go_wp2_with fail
  refine wp_loop_rounds 1 ?_
  rw [rounds_succ]
  go_wp2_with fail
  refine (unwrap pe a cap _ he1).mono ?_
  rintro e w' ⟨rfl, rfl⟩
  go_wp2_with fail
  refine wp_loop_rounds 1 ?_
  rw [rounds_succ]
  go_wp2_with fail
  refine (as_flag x t pv old _ hp1 ht1 hf1).mono ?_
  rintro e w' ⟨rfl, rfl⟩
  go_wp2_with fail
  go_ret
  exact ⟨rfl, rfl⟩
end E6
namespace E6
open Go Go.Proofs Go.RowKit Go.Extern.Stop Go.Stop Go.Extern
theorem cell_lt {w : World} {a : Addr} {v : Value} (h : w.cell? a = some v) : a.block < w.heap.size := by
  rcases Nat.lt_or_ge a.block w.heap.size with h1 | h1
  · exact h1
  · simp [World.cell?, Array.getElem?_eq_none h1] at h
noncomputable def wAs (t : Addr) (w : World) : World := (w.alloc (.cells #[.pointer (some t)] 175)).alloc (.cells #[.pointer (some ⟨4, 175, none⟩), .pointer (some ⟨w.heap.size, 0, none⟩), .int .u64 150] 198)
noncomputable def wHit (x : Int) (t : Addr) (w : World) : World := ((((wAs t w).alloc (.cells #[.pointer (some ⟨4, 175, none⟩), .pointer (some ⟨w.heap.size, 0, none⟩), .int .u64 150] 198)).alloc (.cells #[.pointer (some ⟨4, 175, none⟩), .pointer (some ⟨w.heap.size, 0, none⟩), .int .u64 150] 198)).alloc (.cells #[.int .u8 x] 173)).setCell t (.int .u8 x)
set_option maxRecDepth 100000 in
set_option maxHeartbeats 4000000 in
theorem as_hit (x : Int) (pe a t : Addr) (cap : Nat) (old : Value) (w : World) (he : w.cell? pe = some (.slice (some a) 1 cap)) (ha : w.cell? a = some (.iface 173 (.int .u8 x))) (ht : w.cell? t = some old) (hf : w.frozen? t = false)
    (hg : w.cell? ⟨3, 0, none⟩ = some (.iface 215 (.agg #[.pointer (some ⟨4, 170, none⟩)]))) :
    Calls Tryz.prog 110 #[.iface 211 (.pointer (some pe)), .iface 175 (.pointer (some t))] w fun e w' => e = .returned (.bool true) ∧ w' = wHit x t w := by
  have h25 := @run_callFunc_extern Tryz.prog 127 _ (fun args => ReflectliteValue.unpack (args.getD 0 (.tuple #[]))) Tryz.func127 (by kernel_rfl) (by kernel_rfl) (by kernel_rfl) (by kernel_rfl)
  have h26 := @run_callFunc_extern Tryz.prog 128 _ (ReflectliteValue.methodAny (ReflectliteValue.valueError "reflectlite.Value.Type" 0) (fun t _ _ _ => ReflectliteType.toType t)) Tryz.func128 (by kernel_rfl) (by kernel_rfl) (by kernel_rfl) (by kernel_rfl)
  have h27 := @run_callFunc_extern Tryz.prog 129 _ (ReflectliteValue.method (ReflectliteValue.valueError "reflectlite.Value.IsNil" 0) ReflectliteValue.isNil) Tryz.func129 (by kernel_rfl) (by kernel_rfl) (by kernel_rfl) (by kernel_rfl)
  have h49 := @run_callFunc_extern Tryz.prog 156 _ (ReflectliteType.abiMethod fun t => do pure (.int .u8 (← Rtype.kind t))) Tryz.func156 (by kernel_rfl) (by kernel_rfl) (by kernel_rfl) (by kernel_rfl)
  have h61 := @run_callFunc_extern Tryz.prog 168 _ (ReflectliteType.method ReflectliteType.elem) Tryz.func168 (by kernel_rfl) (by kernel_rfl) (by kernel_rfl) (by kernel_rfl)
  have h62 := @run_callFunc_extern Tryz.prog 169 _ (ReflectliteType.relation "Implements" ReflectliteType.implements_) Tryz.func169 (by kernel_rfl) (by kernel_rfl) (by kernel_rfl) (by kernel_rfl)
  have f6 := valueOf46
  have f7 := type46
  have mK := methodKind
  have mE := methodElem
  have mI := methodImplements
  have k46 := kind46
  have k44 := kind44
  have e46 := elem46
  have i44 := implements44
  have n8 := isNil46 ⟨w.heap.size, 0, none⟩ t (wAs t w) (by unfold wAs; simp)
  have old2 : ∀ (p : Addr), p.block < w.heap.size → (wAs t w).cell? p = w.cell? p := fun p hp => by
    unfold wAs
    rw [World.cell?_alloc_lt _ _ p (by simp; omega), World.cell?_alloc_lt _ _ p hp]
  have hg2 : (wAs t w).cell? ⟨3, 0, none⟩ = some (.iface 215 (.agg #[.pointer (some ⟨4, 170, none⟩)])) := by rw [old2 _ (cell_lt hg)]; exact hg
  have hj := as_join x pe a t ⟨w.heap.size, 0, none⟩ cap old (wAs t w) (by rw [old2 _ (cell_lt he)]; exact he) (by rw [old2 _ (cell_lt ha)]; exact ha) (by unfold wAs; simp) (by rw [old2 _ (cell_lt ht)]; exact ht)
    (by unfold wAs; rw [World.frozen?_alloc_old _ _ t (by have := cell_lt ht; simp; omega), World.frozen?_alloc_old _ _ t (Nat.ne_of_lt (cell_lt ht))]; exact hf)
  unfold wHit
  unfold wAs at n8 hg2 hj ⊢
  go_enter Tryz.func110, Tryz.ntmps110
  go_wp2_with fail
  refine hj.mono ?_
  rintro e w' ⟨rfl, rfl⟩
  go_wp2_with fail
  go_ret
  exact ⟨rfl, rfl⟩
end E6
namespace E6
open Go Go.AE Go.Proofs Go.RowKit
theorem flagOf_spec {c : IV} {x : Int} (h : flagOf c = some x) : c = .sl 1 [[.iface 173 (.int .u8 x)]] := by
  unfold flagOf at h
  split at h
  · rename_i n t x'
    obtain ⟨h1, h⟩ := bif_some h
    obtain ⟨h2, h⟩ := bif_some h
    cases h
    rw [nbeq h1, nbeq h2]
  · cases h
variable {b0 : Nat} {w0 : World} {g : Gh} {st : St}
theorem cells_one {G : Nat → Option (List AV)} {next : Nat} {objs : List (Nat × Ob)} {i : Nat} {own : Bool} {ver b : Nat} {c : AV} (hM : Mem G b0 w0 objs next g) (h : lookup objs i = some ⟨own, ver, .cells [c]⟩) (hp : g.ρ i = .pointer (some ⟨b, 0, none⟩)) :
    ∃ V T fr, g.ex i = true ∧ g.w.heap[b]? = some (.cells #[V] T fr) ∧ Free #[V] fr ∧ ARep g c V ∧ g.w.cell? ⟨b, 0, none⟩ = some V ∧ b0 ≤ b ∧ (ver = 0 ∨ ver = T + 1) := by
  have hl : lookup g.objs i = some ⟨own, ver, .cells [c]⟩ := by rw [hM.same]; exact h
  have ho := hM.each i _ hl
  rw [hp] at ho
  generalize hex : g.ex i = ee at ho
  cases ho with
  | @cells _ _ _ _ cc T fr k1 k2 k3 k4 k5 k6 k7 =>
    subst k1
    have hs : cc.size = 1 := k4
    obtain ⟨V, rfl⟩ : ∃ V, cc = #[V] := by
      match cc, hs with
      | ⟨[V]⟩, _ => exact ⟨V, rfl⟩
    refine ⟨V, T, fr, rfl, k2, k3, k5 0 c rfl, by simp [World.cell?, k2], (hM.above i b (by rw [hl]; rfl) hex (by rw [hp]; rfl)).1, k7⟩
theorem sem16 {E : FuncId → List AV → Option (List Prop × List AV)} {call : FuncId → List AV → St → (AV → St → Prop) → (AV → St → Prop) → Prop} {u : Nat} {args : List AV} {k kp : AV → St → Prop} {vals : Array Value}
    (h : asCall st k args) (hM : Mem G16 b0 w0 st.objs st.next g) (hs : vals.size = args.length) (ha : ∀ (j : Nat) c, args[j]? = some c → ARep g c (vals.getD j undef)) :
    Calls Tryz.prog 110 vals g.w (CallDone ⟨Tryz.prog, E, call, G16, u⟩ b0 w0 st g k kp) := by
  have two : ∀ {x y : AV}, args = [x, y] → ∃ X Y, vals = #[X, Y] ∧ ARep g x X ∧ ARep g y Y := by
    intro x y e
    subst e
    have hs' : vals.size = 2 := hs
    match vals, hs' with
    | ⟨[X, Y]⟩, _ => exact ⟨X, Y, rfl, ha 0 x rfl, ha 1 y rfl⟩
  unfold asCall at h
  split at h
  case h_3 => exact h.elim
  · rename_i t p off
    obtain ⟨X, Y, rfl, rX, rY⟩ := two rfl
    obtain ⟨_, h⟩ := bif_prop h
    obtain ⟨_, h⟩ := bif_prop h
    obtain rfl := rep_val rX.imm_inv
    refine (as_nil Y g.w).mono ?_
    rintro e w' ⟨rfl, rfl⟩
    exact .inl ⟨_, st, g, _, rfl, h, hM, rfl, Step.refl _ _, .imm .bool⟩
  · rename_i u' i o t j off
    obtain ⟨X, Y, rfl, rX, rY⟩ := two rfl
    obtain ⟨ht, h⟩ := bif_prop h
    obtain ⟨hu, h⟩ := bif_prop h
    obtain ⟨ho, h⟩ := bif_prop h
    obtain ⟨hf, h⟩ := bif_prop h
    have ht := nbeq ht
    have hu := nbeq hu
    have ho := nbeq ho
    have hf := nbeq hf
    subst ht hu ho hf
    split at h
    case h_2 => exact h.elim
    rename_i own1 ver1 r v own ver c0 hi hj
    split at h
    case h_2 => exact h.elim
    rename_i c hc
    split at h
    case h_2 => exact h.elim
    rename_i x hx
    have hcs := flagOf_spec hx
    subst hcs
    cases rX with
    | ifc rX =>
    cases rY with
    | ifc rY =>
    cases rX with
    | @ptr _ _ bi obi qi1 qi2 =>
    cases rY with
    | @ptr _ _ bj obj qj1 qj2 =>
    obtain ⟨Vi, Ti, fri, _, _, _, hri, hci, _⟩ := cells_one hM hi qi2
    obtain ⟨Vj, Tj, frj, hexj, hhj, hfrj, _, hcj, hbj, hvj⟩ := cells_one hM hj qj2
    rcases content_cells (C := ⟨Tryz.prog, E, call, G16, u⟩) hM hc hri rfl rfl with ⟨_, h0⟩ | ⟨ad, cap, vs, rfl, p1, p2, p3, p4, p5, p6⟩
    · cases h0
    have hca : (IV.sl 1 [[.iface 173 (.int .u8 x)]]).cellAt 0 0 = some (.iface 173 (.int .u8 x)) := rfl
    have e1 := p5 0 0 _ hca
    have e2 := p6 0 0 _ hca
    have e3 : ∃ V, vs 0 0 = .iface 173 V ∧ Rep g.w g.own (.int .u8 x) V := by
      generalize vs 0 0 = Z at e2
      cases e2 with
      | iface hq => exact ⟨_, rfl, hq⟩
      | nilSlice hq _ => simp [IV.isSl] at hq
      | slice _ hq => simp [IV.isSl] at hq
    obtain ⟨V, hv0, hq⟩ := e3
    obtain ⟨rfl, hin⟩ := rep_int hq
    rw [hv0] at e1
    have e1' : g.w.cell? ad = some (.iface 173 (.int .u8 x)) := by
      rw [← e1]
      show _ = g.w.cell? (ad.add 0)
      simp [Addr.add]
    have hg : g.w.cell? ⟨3, 0, none⟩ = some (.iface 215 (.agg #[.pointer (some ⟨4, 170, none⟩)])) := by
      obtain ⟨_, c, T, fr, q1, q2, q3, _⟩ := hM.glob 3 _ rfl
      have hz := q3 0 _ rfl
      have hz' : Rep g.w g.own (.val errT) (c.getD 0 undef) := hz
      have hz1 := rep_val hz'
      have : c.size = 1 := q2
      match c, this with
      | ⟨[Z]⟩, _ =>
        have : Z = errT := hz1
        subst this
        simp [World.cell?, q1]
        rfl
    refine (as_hit x ⟨bi, 0, none⟩ ad ⟨bj, 0, none⟩ cap Vj g.w hci e1' hcj (not_frozen hhj hfrj (by simp)) hg).mono ?_
    rintro e w' ⟨rfl, rfl⟩
    generalize hW : ((((wAs ⟨bj, 0, none⟩ g.w).alloc (.cells #[.pointer (some ⟨4, 175, none⟩), .pointer (some ⟨g.w.heap.size, 0, none⟩), .int .u64 150] 198)).alloc (.cells #[.pointer (some ⟨4, 175, none⟩), .pointer (some ⟨g.w.heap.size, 0, none⟩), .int .u64 150] 198)).alloc (.cells #[.int .u8 x] 173)) = W
    have hB : Below g.w.heap.size g.w W := by
      rw [← hW]
      unfold wAs
      exact (((((Below.refl _ _).alloc (Nat.le_refl _) _).alloc (by simp) _).alloc (by simp; omega) _).alloc (by simp; omega) _).alloc (by simp; omega) _
    have hM1 := hM.grow hB
    have hbl : bj < g.w.heap.size := (Array.getElem?_eq_some_iff.1 hhj).1
    have hh1 : W.heap[bj]? = some (.cells #[Vj] Tj frj) := by rw [hB.block bj hbl]; exact hhj
    have hlk : lookup g.objs j = some ⟨own, ver, .cells [c0]⟩ := by rw [hM.same]; exact hj
    have hupd : Upd b0 { g with w := W } (W.setRow bj #[.int .u8 x]) j ⟨own, ver, .cells [c0]⟩ ⟨own, ver, .cells [.imm (.int .u8 x)]⟩ (.pointer (some ⟨bj, 0, none⟩)) true := {
      was := hlk
      ver := Nat.le_refl _
      same := fun _ => qj2.symm
      row := fun v h => by cases h
      ptr := fun _ _ => qj2.symm
      below := below_setRow _ _ hbj
      size := by simp
      block := fun k _ hk => setRow_other _ _ _ _ (fun he => hk hexj (by simp only; rw [qj2, he]; rfl))
      mine := fun _ k hk => ⟨.inr ⟨hexj, by simp only; rw [qj2]; exact hk⟩, by
        simp only [blk, Option.some.injEq] at hk
        subst hk
        rw [size_setRow]; exact Nat.lt_of_lt_of_le hbl hB.size⟩ }
    obtain ⟨hext, hstay⟩ := hupd.ext
    have hwr : wHit x ⟨bj, 0, none⟩ g.w = W.setRow bj #[.int .u8 x] := by
      unfold wHit
      rw [hW, setCell_eq_setRow W bj 0 #[Vj] Tj frj _ hh1]
      rfl
    rw [hwr]
    refine .inl ⟨_, _, _, _, rfl, h, hupd.mem hM1 ?_, rfl, ?_, .imm .bool⟩
    · refine .cells rfl (setRow_heap W bj _ _ Tj frj hh1) (fun q hq => hfrj q (by simpa using hq)) rfl (fun q v hv => ?_) (fun q hq => ?_) hvj
      · cases q with
        | zero => cases hv; exact .imm (.int hin)
        | succ q => simp at hv
      · cases q with
        | zero => rfl
        | succ q => simp at hq
    · have s1 : Step st g st { g with w := W } := .of (ext_grow hB) stays_grow rfl rfl rfl
      exact s1.trans (.of hext hstay rfl rfl rfl)
theorem call16_ok {I : FuncId → Option Func} {E : FuncId → List AV → Option (List Prop × List AV)} {u : Nat} (hE : EOK Tryz.prog E G16) (hI : ∀ f fn, I f = some fn → Tryz.prog.funcs[f]? = some fn ∧ (fn.name == "runtime.NumGoroutine") = false) (n : Nat) :
    CallOK ⟨Tryz.prog, E, call16 I E u n, G16, u⟩ := by
  intro f args st k kp h
  simp only [call16] at h
  cases hf : Nat.beq f 110 with
  | false =>
    rw [hf, cond_false] at h
    exact inl_ok (u := u) hE hI n f args st k kp h
  | true =>
    rw [hf, cond_true] at h
    obtain rfl := nbeq hf
    exact ⟨_, Tryz.func110, by kernel_rfl, by kernel_rfl, fun g b0 w0 vals hM hs ha => sem16 h hM hs ha⟩
end E6
set_option maxRecDepth 100000
namespace E6
open Go Go.AE Go.Proofs
attribute [local irreducible] loopK evCode evSpec loopB norm
theorem f31_in (b : List UInt8) (off : Int) (n : Int) (K : List AV → Prop) : evSpec C0 Tryz.f105 [.imm (.bytes b), i64 off, i64 n] K = (brn (decide (off < 0) || decide (off > (b.length : Int)) || decide (IntKind.wrap .i64 ((b.length : Int) - off) < n)) (K [.imm (.int IntKind.u64 (0 : Int)), bo false]) (LoopI C0 (bodyOf Tryz.f105) 0 (St.mk (lapp [by' b, i64 off, i64 n, .dead, .dead, .dead, .imm (.int IntKind.u64 (0 : Int)), bo false, .imm (.int IntKind.u64 (0 : Int)), .dead, i64 off, bo (decide (off < 0)), bo (decide (off < 0)), .opt [(12, false)] (i64 off), .opt [(12, false)] (by' b), .opt [(12, false)] (i64 (b.length : Int)), .opt [(12, false)] (bo (decide (off > (b.length : Int)))), bo (decide (off < 0) || decide (off > (b.length : Int))), bo (decide (off < 0) || decide (off > (b.length : Int))), .opt [(18, false)] (by' b), .opt [(18, false)] (i64 (b.length : Int)), .opt [(18, false)] (i64 off), .opt [(18, false)] (i64 (IntKind.wrap .i64 ((b.length : Int) - off))), .opt [(18, false)] (i64 n), .opt [(18, false)] (bo (decide (IntKind.wrap .i64 ((b.length : Int) - off) < n))), bo (decide (off < 0) || decide (off > (b.length : Int)) || decide (IntKind.wrap .i64 ((b.length : Int) -
 off) < n)), i64 n, i64 0] (dN 14)) [] 0 []) (finK C0 Tryz.f105 K))) := by kernel_rfl
theorem f30_in (n : Int) (K : List AV → Prop) : evSpec C0 Tryz.f91 [i64 n] K = (LoopI C0 (bodyOf Tryz.f91) 0 (St.mk (lapp [i64 n, .dead, .imm (.int IntKind.u64 (0 : Int)), .imm (.int IntKind.u64 (128 : Int)), i64 1] (dN 8)) [] 0 []) (finK C0 Tryz.f91 K)) := by kernel_rfl
theorem f11_in (a : List UInt8) (b : List UInt8) (K : List AV → Prop) : evSpec C0 Tryz.f63 [.imm (.bytes a), .imm (.bytes b)] K = (brn ((a.length : Int) != (b.length : Int)) (K [bo false]) (LoopI C0 (bodyOf Tryz.f63) 0 (St.mk (lapp [by' a, by' b, .dead, .dead, bo false, i64 0, by' a, i64 (a.length : Int), by' b, i64 (b.length : Int), bo ((a.length : Int) != (b.length : Int))] (dN 15)) [] 0 []) (finK C0 Tryz.f63 K))) := by kernel_rfl
theorem f23_in (b : List UInt8) (off : Int) (n : Int) (K : List AV → Prop) : evSpec C1 Tryz.f111 [.imm (.bytes b), i64 off, i64 n] K = ((b.length : Int) ≤ big ∧ (0 : Int) ≤ off ∧ off ≤ big ∧ (0 : Int) ≤ n ∧ n ≤ 8 ∧ (0 : Int) ≤ IntKind.wrap IntKind.u64 (IntKind.wrap .i64 ((64 : Int) - IntKind.wrap .i64 ((8 : Int) * n))) ∧ (0 : Int) ≤ IntKind.wrap IntKind.u64 (IntKind.wrap .i64 ((64 : Int) - IntKind.wrap .i64 ((8 : Int) * n))) ∧ K [i64 (shrV IntKind.i64 (IntKind.wrap .i64 (shlV IntKind.u64 (↑(uintP b (Int.toNat off) n.toNat) : Int) (IntKind.wrap IntKind.u64 (IntKind.wrap .i64 ((64 : Int) - IntKind.wrap .i64 ((8 : Int) * n)))))) (IntKind.wrap IntKind.u64 (IntKind.wrap .i64 ((64 : Int) - IntKind.wrap .i64 ((8 : Int) * n))))), bo (okR b (Int.toNat off) n.toNat)]) := by kernel_rfl
theorem f22_in (b : List UInt8) (n : Int) (v : Int) (K : List AV → Prop) : evSpec C0 Tryz.f31 [.imm (.bytes b), i64 n, .imm (.int IntKind.u64 v)] K = (LoopI C0 (bodyOf Tryz.f31) 0 (St.mk (lapp [by' b, i64 n, .imm (.int IntKind.u64 v), .dead, .dead, .dead, .full (IV.bytes []), .full (IV.bytes (List.map u8 [])), i64 0, .full (IV.bytes (List.map u8 []))] (dN 18)) [] 0 []) (finK C0 Tryz.f31 K)) := by kernel_rfl
theorem f10_in (xs : List (List IV)) (ys : List (List IV)) (K : List AV → Prop) : evSpec C0 Tryz.f64 [.imm (.sl 3 xs), .imm (.sl 3 ys)] K = (brn ((↑(List.length xs) : Int) != (↑(List.length ys) : Int)) (K [bo false]) (LoopI C0 (bodyOf Tryz.f64) 0 (St.mk (lapp [.imm (.sl 3 xs), .imm (.sl 3 ys), .dead, .dead, bo false, i64 0, .imm (.sl 3 xs), i64 (↑(List.length xs) : Int), .imm (.sl 3 ys), i64 (↑(List.length ys) : Int), bo ((↑(List.length xs) : Int) != (↑(List.length ys) : Int))] (dN 15)) [] 0 []) (finK C0 Tryz.f64 K))) := by kernel_rfl
theorem f13_in (xs : List (List IV)) (K : List AV → Prop) : evSpec C3 Tryz.f33 [.imm (.sl 3 xs)] K = (LoopI C3 (bodyOf Tryz.f33) 0 (St.mk (lapp [.imm (.sl 3 xs), .dead, .full (IV.bytes []), .full (IV.bytes []), i64 0] (dN 31)) [] 0 []) (finK C3 Tryz.f33 K)) := by kernel_rfl
end E6
set_option maxRecDepth 100000
namespace E6
open Go Go.AE Go.Proofs
attribute [local irreducible] loopK evCode evSpec loopB norm
theorem f31_lp (b : List UInt8) (off : Int) (n : Int) (v : Int) (i : Nat) (k : AX → St → Prop) : evCode C0 (loopB (bodyOf Tryz.f105) 0) (h31 b off n v i) k = (brn (decide ((↑i : Int) < n)) ((0 : Int) ≤ 8 ∧ (0 : Int) ≤ IntKind.wrap .i64 (off + (↑i : Int)) ∧ IntKind.wrap .i64 (off + (↑i : Int)) < (b.length : Int) ∧ k AX.normal (St.mk (lapp [by' b, i64 off, i64 n] (lapp (dN 5) (lapp [.imm (.int IntKind.u64 (bitsV BinOp.or IntKind.u64 (shlV IntKind.u64 v (8 : Int)) (IntKind.wrap IntKind.u64 (↑(UInt8.toNat (List.getD b (IntKind.wrap .i64 (off + (↑i : Int))).toNat (0 : UInt8))) : Int)))), i64 (↑i : Int)] (lapp (dN 16) [i64 n, i64 (IntKind.wrap .i64 ((↑i : Int) + 1)), bo (decide ((↑i : Int) < n)), i64 (↑i : Int), .imm (.int IntKind.u64 v), .imm (.int IntKind.u64 (shlV IntKind.u64 v (8 : Int))), by' b, i64 off, i64 (↑i : Int), i64 (IntKind.wrap .i64 (off + (↑i : Int))), AV.elv [IV.int .u8 (↑(UInt8.toNat (List.getD b (IntKind.wrap .i64 (off + (↑i : Int))).toNat (0 : UInt8))) : Int)], .imm (.int .u8 (↑(UInt8.toNat (List.getD b (IntKind.wrap .i64 (off + (↑i : Int))).toNat (0 : UInt8))) : Int)), .imm (.int IntKind.u64 (IntKind.wrap IntKind.u64 (↑(UInt8.toNat (List.getD b (IntKind.wrap .i64 (off
 + (↑i : Int))).toNat (0 : UInt8))) : Int))), .imm (.int IntKind.u64 (bitsV BinOp.or IntKind.u64 (shlV IntKind.u64 v (8 : Int)) (IntKind.wrap IntKind.u64 (↑(UInt8.toNat (List.getD b (IntKind.wrap .i64 (off + (↑i : Int))).toNat (0 : UInt8))) : Int)))), i64 (IntKind.wrap .i64 ((↑i : Int) + 1)), .dead])))) [] 0 [])) (k (AX.exit 0) (St.mk (lapp [by' b, i64 off, i64 n] (lapp (dN 5) (lapp [.imm (.int IntKind.u64 v)] (lapp (dN 17) (lapp [i64 n, i64 (↑i : Int), bo (decide ((↑i : Int) < n))] (dN 13)))))) [] 0 []))) := by kernel_rfl
theorem f30_lp (n : Int) (p : Int) (i : Nat) (k : AX → St → Prop) : evCode C0 (loopB (bodyOf Tryz.f91) 0) (h30 n p i) k = (brn (decide ((↑i : Int) < n)) (k AX.normal (St.mk [i64 n, .dead, .dead, .imm (.int IntKind.u64 (IntKind.wrap IntKind.u64 (p * 256))), i64 (IntKind.wrap .i64 ((↑i : Int) + 1)), i64 (↑i : Int), i64 n, bo (decide ((↑i : Int) < n)), i64 (↑i : Int), i64 (IntKind.wrap .i64 ((↑i : Int) + 1)), .imm (.int IntKind.u64 p), .imm (.int IntKind.u64 (IntKind.wrap IntKind.u64 (p * 256))), .dead] [] 0 [])) (k (AX.exit 0) (St.mk (lapp [i64 n, .dead, .dead, .imm (.int IntKind.u64 p), i64 (↑i : Int), i64 (↑i : Int), i64 n, bo (decide ((↑i : Int) < n))] (dN 5)) [] 0 []))) := by kernel_rfl
theorem f11_lp (a : List UInt8) (b : List UInt8) (i : Nat) (k : AX → St → Prop) : evCode C0 (loopB (bodyOf Tryz.f63) 0) (h11 a b i) k = (brn (decide ((↑i : Int) < (a.length : Int))) ((0 : Int) ≤ (↑i : Int) ∧ (↑i : Int) < (a.length : Int) ∧ (0 : Int) ≤ (↑i : Int) ∧ (↑i : Int) < (b.length : Int) ∧ brn ((↑(UInt8.toNat (List.getD a (↑i : Int).toNat (0 : UInt8))) : Int) != (↑(UInt8.toNat (List.getD b (↑i : Int).toNat (0 : UInt8))) : Int)) (k AX.ret (St.mk (lapp [by' a, by' b, .dead, .dead, bo false, i64 (↑i : Int)] (lapp (dN 5) [i64 (↑i : Int), by' a, i64 (a.length : Int), bo (decide ((↑i : Int) < (a.length : Int))), .dead, .dead, by' a, i64 (↑i : Int), AV.elv [IV.int .u8 (↑(UInt8.toNat (List.getD a (↑i : Int).toNat (0 : UInt8))) : Int)], .imm (.int .u8 (↑(UInt8.toNat (List.getD a (↑i : Int).toNat (0 : UInt8))) : Int)), by' b, i64 (↑i : Int), AV.elv [IV.int .u8 (↑(UInt8.toNat (List.getD b (↑i : Int).toNat (0 : UInt8))) : Int)], .imm (.int .u8 (↑(UInt8.toNat (List.getD b (↑i : Int).toNat (0 : UInt8))) : Int)), bo ((↑(UInt8.toNat (List.getD a (↑i : Int).toNat (0 : UInt8))) : Int) != (↑(UInt8.toNat (List.getD b (↑i : Int).toNat (0 : UInt8))) : Int))])) [] 0 [])) (k AX.normal (St.mk (lapp
 [by' a, by' b, .dead, .dead, .dead, i64 (IntKind.wrap .i64 ((↑i : Int) + 1))] (lapp (dN 5) [i64 (↑i : Int), by' a, i64 (a.length : Int), bo (decide ((↑i : Int) < (a.length : Int))), i64 (↑i : Int), i64 (IntKind.wrap .i64 ((↑i : Int) + 1)), by' a, i64 (↑i : Int), AV.elv [IV.int .u8 (↑(UInt8.toNat (List.getD a (↑i : Int).toNat (0 : UInt8))) : Int)], .imm (.int .u8 (↑(UInt8.toNat (List.getD a (↑i : Int).toNat (0 : UInt8))) : Int)), by' b, i64 (↑i : Int), AV.elv [IV.int .u8 (↑(UInt8.toNat (List.getD b (↑i : Int).toNat (0 : UInt8))) : Int)], .imm (.int .u8 (↑(UInt8.toNat (List.getD b (↑i : Int).toNat (0 : UInt8))) : Int)), bo ((↑(UInt8.toNat (List.getD a (↑i : Int).toNat (0 : UInt8))) : Int) != (↑(UInt8.toNat (List.getD b (↑i : Int).toNat (0 : UInt8))) : Int))])) [] 0 []))) (k (AX.exit 0) (St.mk (lapp [by' a, by' b, .dead, .dead, .dead, i64 (↑i : Int)] (lapp (dN 5) (lapp [i64 (↑i : Int), by' a, i64 (a.length : Int), bo (decide ((↑i : Int) < (a.length : Int)))] (dN 11)))) [] 0 []))) := by kernel_rfl
theorem f10_lp (a : List (List IV)) (b : List (List IV)) (i : Nat) (k : AX → St → Prop) : evCode C0 (loopB (bodyOf Tryz.f64) 0) (h10 a b i) k = (brn (decide ((↑i : Int) < (a.length : Int))) ((0 : Int) ≤ (↑i : Int) ∧ (↑i : Int) < (a.length : Int) ∧ kcells (List.getD a (↑i : Int).toNat []) 0 (lapp [CK.int IntKind.i32] (lapp [CK.bool] (lapp [CK.int IntKind.u8] []))) = List.getD a (↑i : Int).toNat [] ∧ (0 : Int) ≤ (↑i : Int) ∧ (↑i : Int) < (b.length : Int) ∧ kcells (List.getD b (↑i : Int).toNat []) 0 (lapp [CK.int IntKind.i32] (lapp [CK.bool] (lapp [CK.int IntKind.u8] []))) = List.getD b (↑i : Int).toNat [] ∧ brn (!(ivInt (ivNth (List.getD a (↑i : Int).toNat []) 0) == ivInt (ivNth (List.getD b (↑i : Int).toNat []) 0) && (ivBool (ivNth (List.getD a (↑i : Int).toNat []) (0 + 1)) == ivBool (ivNth (List.getD b (↑i : Int).toNat []) (0 + 1)) && (ivInt (ivNth (List.getD a (↑i : Int).toNat []) (0 + 1 + 1)) == ivInt (ivNth (List.getD b (↑i : Int).toNat []) (0 + 1 + 1)) && true)))) (k AX.ret (St.mk (lapp [.imm (.sl 3 a), .imm (.sl 3 b), .dead, .dead, bo false, i64 (↑i : Int)] (lapp (dN 5) [i64 (↑i : Int), .imm (.sl 3 a), i64 (a.length : Int), bo (decide ((↑i : Int) < (a.length : Int))), .dead,
 .dead, .imm (.sl 3 a), i64 (↑i : Int), AV.elv [IV.int IntKind.i32 (ivInt (ivNth (List.getD a (↑i : Int).toNat []) 0)), IV.bool (ivBool (ivNth (List.getD a (↑i : Int).toNat []) (0 + 1))), IV.int .u8 (ivInt (ivNth (List.getD a (↑i : Int).toNat []) (0 + 1 + 1)))], .agg [.imm (.int IntKind.i32 (ivInt (ivNth (List.getD a (↑i : Int).toNat []) 0))), bo (ivBool (ivNth (List.getD a (↑i : Int).toNat []) (0 + 1))), .imm (.int .u8 (ivInt (ivNth (List.getD a (↑i : Int).toNat []) (0 + 1 + 1))))], .imm (.sl 3 b), i64 (↑i : Int), AV.elv [IV.int IntKind.i32 (ivInt (ivNth (List.getD b (↑i : Int).toNat []) 0)), IV.bool (ivBool (ivNth (List.getD b (↑i : Int).toNat []) (0 + 1))), IV.int .u8 (ivInt (ivNth (List.getD b (↑i : Int).toNat []) (0 + 1 + 1)))], .agg [.imm (.int IntKind.i32 (ivInt (ivNth (List.getD b (↑i : Int).toNat []) 0))), bo (ivBool (ivNth (List.getD b (↑i : Int).toNat []) (0 + 1))), .imm (.int .u8 (ivInt (ivNth (List.getD b (↑i : Int).toNat []) (0 + 1 + 1))))], bo (!(ivInt (ivNth (List.getD a (↑i : Int).toNat []) 0) == ivInt (ivNth (List.getD b (↑i : Int).toNat []) 0) && (ivBool (ivNth (List.getD a (↑i : Int).toNat []) (0 + 1)) == ivBool (ivNth (List.getD b (↑i : Int).toNat []) (0 + 1)) &&
 (ivInt (ivNth (List.getD a (↑i : Int).toNat []) (0 + 1 + 1)) == ivInt (ivNth (List.getD b (↑i : Int).toNat []) (0 + 1 + 1)) && true))))])) [] 0 [])) (k AX.normal (St.mk (lapp [.imm (.sl 3 a), .imm (.sl 3 b), .dead, .dead, .dead, i64 (IntKind.wrap .i64 ((↑i : Int) + 1))] (lapp (dN 5) [i64 (↑i : Int), .imm (.sl 3 a), i64 (a.length : Int), bo (decide ((↑i : Int) < (a.length : Int))), i64 (↑i : Int), i64 (IntKind.wrap .i64 ((↑i : Int) + 1)), .imm (.sl 3 a), i64 (↑i : Int), AV.elv [IV.int IntKind.i32 (ivInt (ivNth (List.getD a (↑i : Int).toNat []) 0)), IV.bool (ivBool (ivNth (List.getD a (↑i : Int).toNat []) (0 + 1))), IV.int .u8 (ivInt (ivNth (List.getD a (↑i : Int).toNat []) (0 + 1 + 1)))], .agg [.imm (.int IntKind.i32 (ivInt (ivNth (List.getD a (↑i : Int).toNat []) 0))), bo (ivBool (ivNth (List.getD a (↑i : Int).toNat []) (0 + 1))), .imm (.int .u8 (ivInt (ivNth (List.getD a (↑i : Int).toNat []) (0 + 1 + 1))))], .imm (.sl 3 b), i64 (↑i : Int), AV.elv [IV.int IntKind.i32 (ivInt (ivNth (List.getD b (↑i : Int).toNat []) 0)), IV.bool (ivBool (ivNth (List.getD b (↑i : Int).toNat []) (0 + 1))), IV.int .u8 (ivInt (ivNth (List.getD b (↑i : Int).toNat []) (0 + 1 + 1)))], .agg [.imm (.int
 IntKind.i32 (ivInt (ivNth (List.getD b (↑i : Int).toNat []) 0))), bo (ivBool (ivNth (List.getD b (↑i : Int).toNat []) (0 + 1))), .imm (.int .u8 (ivInt (ivNth (List.getD b (↑i : Int).toNat []) (0 + 1 + 1))))], bo (!(ivInt (ivNth (List.getD a (↑i : Int).toNat []) 0) == ivInt (ivNth (List.getD b (↑i : Int).toNat []) 0) && (ivBool (ivNth (List.getD a (↑i : Int).toNat []) (0 + 1)) == ivBool (ivNth (List.getD b (↑i : Int).toNat []) (0 + 1)) && (ivInt (ivNth (List.getD a (↑i : Int).toNat []) (0 + 1 + 1)) == ivInt (ivNth (List.getD b (↑i : Int).toNat []) (0 + 1 + 1)) && true))))])) [] 0 []))) (k (AX.exit 0) (St.mk (lapp [.imm (.sl 3 a), .imm (.sl 3 b), .dead, .dead, .dead, i64 (↑i : Int)] (lapp (dN 5) (lapp [i64 (↑i : Int), .imm (.sl 3 a), i64 (a.length : Int), bo (decide ((↑i : Int) < (a.length : Int)))] (dN 11)))) [] 0 []))) := by kernel_rfl
theorem f22_lp (b : List UInt8) (n : Int) (v : Int) (own : Bool) (l : List UInt8) (i : Nat) (k : AX → St → Prop) : evCode C0 (loopB (bodyOf Tryz.f31) 0) (h22 b n v own l i) k = (brn (decide ((↑i : Int) < n)) ((256 : Int) ≠ 0 ∧ ((List.map u8 [IntKind.wrap IntKind.u8 (Int.tmod v (256 : Int))]).length + l.length) * 1 ≤ 140737488355328 ∧ (List.map u8 [IntKind.wrap IntKind.u8 (Int.tmod v (256 : Int))]).length + l.length ≤ 140737488355328 ∧ (256 : Int) ≠ 0 ∧ k AX.normal (St.mk (lapp [by' b, i64 n, .imm (.int IntKind.u64 (IntKind.wrap IntKind.u64 (Int.tdiv v (256 : Int))))] (lapp (dN 4) (lapp [AV.row 1 0, i64 (IntKind.wrap .i64 ((↑i : Int) + 1)), .dead, i64 (↑i : Int), i64 n, bo (decide ((↑i : Int) < n)), i64 (↑i : Int), i64 (IntKind.wrap .i64 ((↑i : Int) + 1)), .imm (.int IntKind.u64 v), .imm (.int IntKind.u64 (Int.tmod v (256 : Int))), .imm (.int .u8 (IntKind.wrap IntKind.u8 (Int.tmod v (256 : Int)))), .full (IV.bytes (List.map u8 [IntKind.wrap IntKind.u8 (Int.tmod v (256 : Int))])), AV.row 0 0, AV.row 1 0, .imm (.int IntKind.u64 v), .imm (.int IntKind.u64 (IntKind.wrap IntKind.u64 (Int.tdiv v (256 : Int))))] (dN 5)))) [(0, Ob.mk own 0 (AObj.row (IV.bytes l))), (1, Ob.mk (bif noneIV
 ((fun l => IV.bytes (List.map u8 l)) [IntKind.wrap IntKind.u8 (Int.tmod v (256 : Int))]) then true else someIV (IV.bytes l)) 0 (AObj.row (IV.bytes (List.map u8 [IntKind.wrap IntKind.u8 (Int.tmod v (256 : Int))] ++ l))))] 2 [])) (k (AX.exit 0) (St.mk (lapp [by' b, i64 n, .imm (.int IntKind.u64 v)] (lapp (dN 4) (lapp [AV.row 0 0, i64 (↑i : Int), .dead, i64 (↑i : Int), i64 n, bo (decide ((↑i : Int) < n))] (dN 15)))) [(0, Ob.mk own 0 (AObj.row (IV.bytes l)))] 1 []))) := by kernel_rfl
theorem f13_lp (xs : List (List IV)) (l : List UInt8) (i : Nat) (k : AX → St → Prop) : evCode C3 (loopB (bodyOf Tryz.f33) 0) (h13 xs l i) k = (brn (decide ((↑i : Int) < (↑(List.length xs) : Int))) ((0 : Int) ≤ (↑i : Int) ∧ (↑i : Int) < (↑(List.length xs) : Int) ∧ kcells (List.getD xs (↑i : Int).toNat []) 0 (lapp [CK.int IntKind.i32] (lapp [CK.bool] (lapp [CK.int IntKind.u8] []))) = List.getD xs (↑i : Int).toNat [] ∧ (l.length : Int) ≤ 1000000000000 ∧ (0 : Int) ≤ 4 ∧ (4 : Int) ≤ 8 ∧ (0 : Int) ≤ IntKind.wrap IntKind.u64 (IntKind.wrap .i64 (ivInt (ivNth (List.getD xs (↑i : Int).toNat []) 0))) ∧ IntKind.wrap IntKind.u64 (IntKind.wrap .i64 (ivInt (ivNth (List.getD xs (↑i : Int).toNat []) 0))) < 18446744073709551616 ∧ (0 : Int) ≤ (↑i : Int) ∧ (↑i : Int) < (↑(List.length xs) : Int) ∧ kcells (List.getD xs (↑i : Int).toNat []) 0 (lapp [CK.int IntKind.i32] (lapp [CK.bool] (lapp [CK.int IntKind.u8] []))) = List.getD xs (↑i : Int).toNat [] ∧ brn (ivBool (ivNth (List.getD xs (↑i : Int).toNat []) (0 + 1))) ((0 : Int) ≤ (↑i : Int) ∧ (↑i : Int) < (↑(List.length xs) : Int) ∧ kcells (List.getD xs (↑i : Int).toNat []) 0 (lapp [CK.int IntKind.i32] (lapp [CK.bool] (lapp [CK.int IntKind.u8] []))) =
 List.getD xs (↑i : Int).toNat [] ∧ ((l ++ be (4 : Int).toNat (IntKind.wrap IntKind.u64 (IntKind.wrap .i64 (ivInt (ivNth (List.getD xs (↑i : Int).toNat []) 0)))).toNat).length + (List.map u8 [(1 : Int), ivInt (ivNth (List.getD xs (↑i : Int).toNat []) (0 + 1 + 1))]).length) * 1 ≤ 140737488355328 ∧ (l ++ be (4 : Int).toNat (IntKind.wrap IntKind.u64 (IntKind.wrap .i64 (ivInt (ivNth (List.getD xs (↑i : Int).toNat []) 0)))).toNat).length + (List.map u8 [(1 : Int), ivInt (ivNth (List.getD xs (↑i : Int).toNat []) (0 + 1 + 1))]).length ≤ 140737488355328 ∧ k AX.normal (St.mk [.imm (.sl 3 xs), .dead, .dead, AV.row 1 1, i64 (IntKind.wrap .i64 ((↑i : Int) + 1)), .imm (.int .u8 1), i64 (↑i : Int), .imm (.sl 3 xs), i64 (↑(List.length xs) : Int), bo (decide ((↑i : Int) < (↑(List.length xs) : Int))), i64 (↑i : Int), i64 (IntKind.wrap .i64 ((↑i : Int) + 1)), AV.row 0 0, .imm (.sl 3 xs), i64 (↑i : Int), AV.elv [IV.int IntKind.i32 (ivInt (ivNth (List.getD xs (↑i : Int).toNat []) 0)), IV.bool (ivBool (ivNth (List.getD xs (↑i : Int).toNat []) (0 + 1))), IV.int .u8 (ivInt (ivNth (List.getD xs (↑i : Int).toNat []) (0 + 1 + 1)))], AV.elv [IV.int IntKind.i32 (ivInt (ivNth (List.getD xs (↑i : Int).toNat [])
 0)), IV.bool (ivBool (ivNth (List.getD xs (↑i : Int).toNat []) (0 + 1))), IV.int .u8 (ivInt (ivNth (List.getD xs (↑i : Int).toNat []) (0 + 1 + 1)))], .imm (.int IntKind.i32 (ivInt (ivNth (List.getD xs (↑i : Int).toNat []) 0))), i64 (IntKind.wrap .i64 (ivInt (ivNth (List.getD xs (↑i : Int).toNat []) 0))), .imm (.int IntKind.u64 (IntKind.wrap IntKind.u64 (IntKind.wrap .i64 (ivInt (ivNth (List.getD xs (↑i : Int).toNat []) 0))))), AV.row 1 0, .imm (.sl 3 xs), i64 (↑i : Int), AV.elv [IV.int IntKind.i32 (ivInt (ivNth (List.getD xs (↑i : Int).toNat []) 0)), IV.bool (ivBool (ivNth (List.getD xs (↑i : Int).toNat []) (0 + 1))), IV.int .u8 (ivInt (ivNth (List.getD xs (↑i : Int).toNat []) (0 + 1 + 1)))], AV.elv [IV.bool (ivBool (ivNth (List.getD xs (↑i : Int).toNat []) (0 + 1))), IV.int .u8 (ivInt (ivNth (List.getD xs (↑i : Int).toNat []) (0 + 1 + 1)))], bo (ivBool (ivNth (List.getD xs (↑i : Int).toNat []) (0 + 1))), AV.row 1 0, .imm (.int .u8 1), .imm (.sl 3 xs), i64 (↑i : Int), AV.elv [IV.int IntKind.i32 (ivInt (ivNth (List.getD xs (↑i : Int).toNat []) 0)), IV.bool (ivBool (ivNth (List.getD xs (↑i : Int).toNat []) (0 + 1))), IV.int .u8 (ivInt (ivNth (List.getD xs (↑i : Int).toNat []) (0 + 1 +
 1)))], AV.elv [IV.int .u8 (ivInt (ivNth (List.getD xs (↑i : Int).toNat []) (0 + 1 + 1)))], .imm (.int .u8 (ivInt (ivNth (List.getD xs (↑i : Int).toNat []) (0 + 1 + 1)))), .full (IV.bytes (List.map u8 [(1 : Int), ivInt (ivNth (List.getD xs (↑i : Int).toNat []) (0 + 1 + 1))])), AV.row 1 1, .dead] [(0, Ob.mk false 0 (AObj.row (IV.bytes l))), (1, Ob.mk true 1 (AObj.row (IV.bytes (l ++ be (4 : Int).toNat (IntKind.wrap IntKind.u64 (IntKind.wrap .i64 (ivInt (ivNth (List.getD xs (↑i : Int).toNat []) 0)))).toNat ++ List.map u8 [(1 : Int), ivInt (ivNth (List.getD xs (↑i : Int).toNat []) (0 + 1 + 1))]))))] 2 [])) ((0 : Int) ≤ (↑i : Int) ∧ (↑i : Int) < (↑(List.length xs) : Int) ∧ kcells (List.getD xs (↑i : Int).toNat []) 0 (lapp [CK.int IntKind.i32] (lapp [CK.bool] (lapp [CK.int IntKind.u8] []))) = List.getD xs (↑i : Int).toNat [] ∧ ((l ++ be (4 : Int).toNat (IntKind.wrap IntKind.u64 (IntKind.wrap .i64 (ivInt (ivNth (List.getD xs (↑i : Int).toNat []) 0)))).toNat).length + (List.map u8 [(0 : Int), ivInt (ivNth (List.getD xs (↑i : Int).toNat []) (0 + 1 + 1))]).length) * 1 ≤ 140737488355328 ∧ (l ++ be (4 : Int).toNat (IntKind.wrap IntKind.u64 (IntKind.wrap .i64 (ivInt (ivNth (List.getD xs (↑i :
 Int).toNat []) 0)))).toNat).length + (List.map u8 [(0 : Int), ivInt (ivNth (List.getD xs (↑i : Int).toNat []) (0 + 1 + 1))]).length ≤ 140737488355328 ∧ k AX.normal (St.mk [.imm (.sl 3 xs), .dead, .dead, AV.row 1 1, i64 (IntKind.wrap .i64 ((↑i : Int) + 1)), .imm (.int .u8 0), i64 (↑i : Int), .imm (.sl 3 xs), i64 (↑(List.length xs) : Int), bo (decide ((↑i : Int) < (↑(List.length xs) : Int))), i64 (↑i : Int), i64 (IntKind.wrap .i64 ((↑i : Int) + 1)), AV.row 0 0, .imm (.sl 3 xs), i64 (↑i : Int), AV.elv [IV.int IntKind.i32 (ivInt (ivNth (List.getD xs (↑i : Int).toNat []) 0)), IV.bool (ivBool (ivNth (List.getD xs (↑i : Int).toNat []) (0 + 1))), IV.int .u8 (ivInt (ivNth (List.getD xs (↑i : Int).toNat []) (0 + 1 + 1)))], AV.elv [IV.int IntKind.i32 (ivInt (ivNth (List.getD xs (↑i : Int).toNat []) 0)), IV.bool (ivBool (ivNth (List.getD xs (↑i : Int).toNat []) (0 + 1))), IV.int .u8 (ivInt (ivNth (List.getD xs (↑i : Int).toNat []) (0 + 1 + 1)))], .imm (.int IntKind.i32 (ivInt (ivNth (List.getD xs (↑i : Int).toNat []) 0))), i64 (IntKind.wrap .i64 (ivInt (ivNth (List.getD xs (↑i : Int).toNat []) 0))), .imm (.int IntKind.u64 (IntKind.wrap IntKind.u64 (IntKind.wrap .i64 (ivInt (ivNth (List.getD xs
 (↑i : Int).toNat []) 0))))), AV.row 1 0, .imm (.sl 3 xs), i64 (↑i : Int), AV.elv [IV.int IntKind.i32 (ivInt (ivNth (List.getD xs (↑i : Int).toNat []) 0)), IV.bool (ivBool (ivNth (List.getD xs (↑i : Int).toNat []) (0 + 1))), IV.int .u8 (ivInt (ivNth (List.getD xs (↑i : Int).toNat []) (0 + 1 + 1)))], AV.elv [IV.bool (ivBool (ivNth (List.getD xs (↑i : Int).toNat []) (0 + 1))), IV.int .u8 (ivInt (ivNth (List.getD xs (↑i : Int).toNat []) (0 + 1 + 1)))], bo (ivBool (ivNth (List.getD xs (↑i : Int).toNat []) (0 + 1))), AV.row 1 0, .imm (.int .u8 0), .imm (.sl 3 xs), i64 (↑i : Int), AV.elv [IV.int IntKind.i32 (ivInt (ivNth (List.getD xs (↑i : Int).toNat []) 0)), IV.bool (ivBool (ivNth (List.getD xs (↑i : Int).toNat []) (0 + 1))), IV.int .u8 (ivInt (ivNth (List.getD xs (↑i : Int).toNat []) (0 + 1 + 1)))], AV.elv [IV.int .u8 (ivInt (ivNth (List.getD xs (↑i : Int).toNat []) (0 + 1 + 1)))], .imm (.int .u8 (ivInt (ivNth (List.getD xs (↑i : Int).toNat []) (0 + 1 + 1)))), .full (IV.bytes (List.map u8 [(0 : Int), ivInt (ivNth (List.getD xs (↑i : Int).toNat []) (0 + 1 + 1))])), AV.row 1 1, .dead] [(0, Ob.mk false 0 (AObj.row (IV.bytes l))), (1, Ob.mk true 1 (AObj.row (IV.bytes (l ++ be (4 :
 Int).toNat (IntKind.wrap IntKind.u64 (IntKind.wrap .i64 (ivInt (ivNth (List.getD xs (↑i : Int).toNat []) 0)))).toNat ++ List.map u8 [(0 : Int), ivInt (ivNth (List.getD xs (↑i : Int).toNat []) (0 + 1 + 1))]))))] 2 []))) (k (AX.exit 0) (St.mk (lapp [.imm (.sl 3 xs), .dead, .dead, AV.row 0 0, i64 (↑i : Int), .dead, i64 (↑i : Int), .imm (.sl 3 xs), i64 (↑(List.length xs) : Int), bo (decide ((↑i : Int) < (↑(List.length xs) : Int)))] (dN 26)) [(0, Ob.mk true 0 (AObj.row (IV.bytes l)))] 1 []))) := by kernel_rfl
theorem f8_in (b : List UInt8) (K : List AV → Prop) : evSpec C8 Tryz.f85 [.imm (.bytes b)] K = (LoopI C8 (bodyOf Tryz.f85) 0 (St.mk (lapp [by' b, .dead, .full (IV.sl 3 []), bo false, .full (IV.sl 3 []), i64 0] (dN 27)) [] 0 []) (finK C8 Tryz.f85 K)) := by kernel_rfl
theorem f8_lp (b : List UInt8) (L : List Ty) (i : Nat) (k : AX → St → Prop) : evCode C8 (loopB (bodyOf Tryz.f85) 0) (h8 b L i) k = (brn (decide (IntKind.wrap .i64 ((↑i : Int) + 6) ≤ (b.length : Int))) ((0 : Int) ≤ (↑i : Int) ∧ (↑i : Int) ≤ IntKind.wrap .i64 ((↑i : Int) + 6) ∧ IntKind.wrap .i64 ((↑i : Int) + 6) ≤ (b.length : Int) ∧ (↑(List.take ((IntKind.wrap .i64 ((↑i : Int) + 6)).toNat - (↑i : Int).toNat) (List.drop (↑i : Int).toNat b)).length : Int) ≤ big ∧ (0 : Int) ≤ 0 ∧ (0 : Int) ≤ big ∧ (1 : Int) ≤ 4 ∧ (4 : Int) ≤ 8 ∧ (0 : Int) ≤ 4 ∧ (4 : Int) < (↑(List.take ((IntKind.wrap .i64 ((↑i : Int) + 6)).toNat - (↑i : Int).toNat) (List.drop (↑i : Int).toNat b)).length : Int) ∧ brn (decide ((↑(UInt8.toNat (List.getD (List.take ((IntKind.wrap .i64 ((↑i : Int) + 6)).toNat - (↑i : Int).toNat) (List.drop (↑i : Int).toNat b)) (4 : Int).toNat (0 : UInt8))) : Int) > 1)) ((0 : Int) ≤ 4 ∧ (4 : Int) < (↑(List.take ((IntKind.wrap .i64 ((↑i : Int) + 6)).toNat - (↑i : Int).toNat) (List.drop (↑i : Int).toNat b)).length : Int) ∧ (0 : Int) ≤ 0 ∧ (0 : Int) < (↑(List.length [[IV.iface 173 (IV.int .u8 (↑(UInt8.toNat (List.getD (List.take ((IntKind.wrap .i64 ((↑i : Int) + 6)).toNat - (↑i : Int).toNat)
 (List.drop (↑i : Int).toNat b)) (4 : Int).toNat (0 : UInt8))) : Int))]]) : Int) ∧ kcells (List.getD [[IV.iface 173 (IV.int .u8 (↑(UInt8.toNat (List.getD (List.take ((IntKind.wrap .i64 ((↑i : Int) + 6)).toNat - (↑i : Int).toNat) (List.drop (↑i : Int).toNat b)) (4 : Int).toNat (0 : UInt8))) : Int))]] (0 : Int).toNat []) 0 [CK.any] = List.getD [[IV.iface 173 (IV.int .u8 (↑(UInt8.toNat (List.getD (List.take ((IntKind.wrap .i64 ((↑i : Int) + 6)).toNat - (↑i : Int).toNat) (List.drop (↑i : Int).toNat b)) (4 : Int).toNat (0 : UInt8))) : Int))]] (0 : Int).toNat [] ∧ (0 : Int) ≤ 0 ∧ (0 : Int) ≤ IntKind.wrap .i64 ((0 : Int) + 1) ∧ (↑16 : Int) * IntKind.wrap .i64 ((0 : Int) + 1) ≤ 140737488355328 ∧ IntKind.wrap .i64 ((0 : Int) + 1) ≤ 140737488355328 ∧ (0 : Int) ≤ 0 ∧ (0 : Int) < (↑(List.length [[IV.iface 173 (IV.int .u8 (↑(UInt8.toNat (List.getD (List.take ((IntKind.wrap .i64 ((↑i : Int) + 6)).toNat - (↑i : Int).toNat) (List.drop (↑i : Int).toNat b)) (4 : Int).toNat (0 : UInt8))) : Int))]]) : Int) ∧ kcells (List.getD [[IV.iface 173 (IV.int .u8 (↑(UInt8.toNat (List.getD (List.take ((IntKind.wrap .i64 ((↑i : Int) + 6)).toNat - (↑i : Int).toNat) (List.drop (↑i : Int).toNat b)) (4 : Int).toNat (0 :
 UInt8))) : Int))]] (0 : Int).toNat []) 0 [CK.any] = List.getD [[IV.iface 173 (IV.int .u8 (↑(UInt8.toNat (List.getD (List.take ((IntKind.wrap .i64 ((↑i : Int) + 6)).toNat - (↑i : Int).toNat) (List.drop (↑i : Int).toNat b)) (4 : Int).toNat (0 : UInt8))) : Int))]] (0 : Int).toNat [] ∧ ((List.replicate (0 : Int).toNat [IV.val Value.nilIface]).length + List.length [[kcell CK.any (ivNth (List.getD [[IV.iface 173 (IV.int .u8 (↑(UInt8.toNat (List.getD (List.take ((IntKind.wrap .i64 ((↑i : Int) + 6)).toNat - (↑i : Int).toNat) (List.drop (↑i : Int).toNat b)) (4 : Int).toNat (0 : UInt8))) : Int))]] (0 : Int).toNat []) 0)]]) * 16 ≤ 140737488355328 ∧ (List.replicate (0 : Int).toNat [IV.val Value.nilIface]).length + List.length [[kcell CK.any (ivNth (List.getD [[IV.iface 173 (IV.int .u8 (↑(UInt8.toNat (List.getD (List.take ((IntKind.wrap .i64 ((↑i : Int) + 6)).toNat - (↑i : Int).toNat) (List.drop (↑i : Int).toNat b)) (4 : Int).toNat (0 : UInt8))) : Int))]] (0 : Int).toNat []) 0)]] ≤ 140737488355328 ∧ k AX.ret (St.mk (lapp [by' b, .dead, .full (IV.sl 3 []), bo false, AV.row 0 0, i64 (↑i : Int), .ptr 4 0, AV.ifc 211 (.ptr 3 0), .ptr 5 0, i64 (↑i : Int), i64 (IntKind.wrap .i64 ((↑i : Int) + 6)), by'
 b, i64 (b.length : Int), bo (decide (IntKind.wrap .i64 ((↑i : Int) + 6) ≤ (b.length : Int))), .dead, .dead, .tup [.agg [.imm (.int IntKind.i32 (0 : Int)), bo false, .imm (.int .u8 0)], AV.ifc 211 (.ptr 3 0)], by' b, i64 (↑i : Int), i64 (↑i : Int), i64 (IntKind.wrap .i64 ((↑i : Int) + 6)), by' (List.take ((IntKind.wrap .i64 ((↑i : Int) + 6)).toNat - (↑i : Int).toNat) (List.drop (↑i : Int).toNat b)), .tup [.agg [.imm (.int IntKind.i32 (0 : Int)), bo false, .imm (.int .u8 0)], AV.ifc 211 (.ptr 3 0)], .agg [.imm (.int IntKind.i32 (0 : Int)), bo false, .imm (.int .u8 0)], AV.ifc 211 (.ptr 3 0), AV.ifc 211 (.ptr 3 0), AV.ifc 175 (.ptr 5 0), bo true] (dN 5)) [(0, Ob.mk true 0 (AObj.row (IV.sl 3 (List.map cellsT L)))), (1, Ob.mk true 0 (AObj.cells [.imm (.int IntKind.i32 (0 : Int)), bo false, .imm (.int .u8 0)])), (2, Ob.mk true 1 (AObj.row (IV.sl 1 [[IV.iface 173 (IV.int .u8 (↑(UInt8.toNat (List.getD (List.take ((IntKind.wrap .i64 ((↑i : Int) + 6)).toNat - (↑i : Int).toNat) (List.drop (↑i : Int).toNat b)) (4 : Int).toNat (0 : UInt8))) : Int))]]))), (3, Ob.mk true 0 (AObj.cells [AV.row 2 1])), (4, Ob.mk true 0 (AObj.cells [.imm (.int IntKind.i32 (0 : Int)), bo false, .imm (.int .u8 0)])),
 (5, Ob.mk true 0 (AObj.cells [.imm (.int .u8 (↑(UInt8.toNat (List.getD (List.take ((IntKind.wrap .i64 ((↑i : Int) + 6)).toNat - (↑i : Int).toNat) (List.drop (↑i : Int).toNat b)) (4 : Int).toNat (0 : UInt8))) : Int))]))] 6 [])) ((0 : Int) ≤ 4 ∧ (4 : Int) < (↑(List.take ((IntKind.wrap .i64 ((↑i : Int) + 6)).toNat - (↑i : Int).toNat) (List.drop (↑i : Int).toNat b)).length : Int) ∧ (0 : Int) ≤ 5 ∧ (5 : Int) < (↑(List.take ((IntKind.wrap .i64 ((↑i : Int) + 6)).toNat - (↑i : Int).toNat) (List.drop (↑i : Int).toNat b)).length : Int) ∧ ((List.map cellsT L).length + List.length [[IV.int IntKind.i32 (IntKind.wrap IntKind.i32 (sgnN (4 : Int).toNat (uintP (List.take ((IntKind.wrap .i64 ((↑i : Int) + 6)).toNat - (↑i : Int).toNat) (List.drop (↑i : Int).toNat b)) (0 : Int).toNat (4 : Int).toNat))), IV.bool ((↑(UInt8.toNat (List.getD (List.take ((IntKind.wrap .i64 ((↑i : Int) + 6)).toNat - (↑i : Int).toNat) (List.drop (↑i : Int).toNat b)) (4 : Int).toNat (0 : UInt8))) : Int) == 1), IV.int .u8 (↑(UInt8.toNat (List.getD (List.take ((IntKind.wrap .i64 ((↑i : Int) + 6)).toNat - (↑i : Int).toNat) (List.drop (↑i : Int).toNat b)) (5 : Int).toNat (0 : UInt8))) : Int)]]) * 8 ≤ 140737488355328 ∧ (List.map
 cellsT L).length + List.length [[IV.int IntKind.i32 (IntKind.wrap IntKind.i32 (sgnN (4 : Int).toNat (uintP (List.take ((IntKind.wrap .i64 ((↑i : Int) + 6)).toNat - (↑i : Int).toNat) (List.drop (↑i : Int).toNat b)) (0 : Int).toNat (4 : Int).toNat))), IV.bool ((↑(UInt8.toNat (List.getD (List.take ((IntKind.wrap .i64 ((↑i : Int) + 6)).toNat - (↑i : Int).toNat) (List.drop (↑i : Int).toNat b)) (4 : Int).toNat (0 : UInt8))) : Int) == 1), IV.int .u8 (↑(UInt8.toNat (List.getD (List.take ((IntKind.wrap .i64 ((↑i : Int) + 6)).toNat - (↑i : Int).toNat) (List.drop (↑i : Int).toNat b)) (5 : Int).toNat (0 : UInt8))) : Int)]] ≤ 140737488355328 ∧ k AX.normal (St.mk [by' b, .dead, .dead, .dead, AV.row 0 1, i64 (IntKind.wrap .i64 ((↑i : Int) + 6)), .ptr 2 0, .imm (.val Value.nilIface), .ptr 3 0, i64 (↑i : Int), i64 (IntKind.wrap .i64 ((↑i : Int) + 6)), by' b, i64 (b.length : Int), bo (decide (IntKind.wrap .i64 ((↑i : Int) + 6) ≤ (b.length : Int))), i64 (↑i : Int), i64 (IntKind.wrap .i64 ((↑i : Int) + 6)), .tup [.agg [.imm (.int IntKind.i32 (IntKind.wrap IntKind.i32 (sgnN (4 : Int).toNat (uintP (List.take ((IntKind.wrap .i64 ((↑i : Int) + 6)).toNat - (↑i : Int).toNat) (List.drop (↑i : Int).toNat b))
 (0 : Int).toNat (4 : Int).toNat)))), bo ((↑(UInt8.toNat (List.getD (List.take ((IntKind.wrap .i64 ((↑i : Int) + 6)).toNat - (↑i : Int).toNat) (List.drop (↑i : Int).toNat b)) (4 : Int).toNat (0 : UInt8))) : Int) == 1), .imm (.int .u8 (↑(UInt8.toNat (List.getD (List.take ((IntKind.wrap .i64 ((↑i : Int) + 6)).toNat - (↑i : Int).toNat) (List.drop (↑i : Int).toNat b)) (5 : Int).toNat (0 : UInt8))) : Int))], .imm (.val Value.nilIface)], by' b, i64 (↑i : Int), i64 (↑i : Int), i64 (IntKind.wrap .i64 ((↑i : Int) + 6)), by' (List.take ((IntKind.wrap .i64 ((↑i : Int) + 6)).toNat - (↑i : Int).toNat) (List.drop (↑i : Int).toNat b)), .tup [.agg [.imm (.int IntKind.i32 (IntKind.wrap IntKind.i32 (sgnN (4 : Int).toNat (uintP (List.take ((IntKind.wrap .i64 ((↑i : Int) + 6)).toNat - (↑i : Int).toNat) (List.drop (↑i : Int).toNat b)) (0 : Int).toNat (4 : Int).toNat)))), bo ((↑(UInt8.toNat (List.getD (List.take ((IntKind.wrap .i64 ((↑i : Int) + 6)).toNat - (↑i : Int).toNat) (List.drop (↑i : Int).toNat b)) (4 : Int).toNat (0 : UInt8))) : Int) == 1), .imm (.int .u8 (↑(UInt8.toNat (List.getD (List.take ((IntKind.wrap .i64 ((↑i : Int) + 6)).toNat - (↑i : Int).toNat) (List.drop (↑i : Int).toNat b)) (5 :
 Int).toNat (0 : UInt8))) : Int))], .imm (.val Value.nilIface)], .agg [.imm (.int IntKind.i32 (IntKind.wrap IntKind.i32 (sgnN (4 : Int).toNat (uintP (List.take ((IntKind.wrap .i64 ((↑i : Int) + 6)).toNat - (↑i : Int).toNat) (List.drop (↑i : Int).toNat b)) (0 : Int).toNat (4 : Int).toNat)))), bo ((↑(UInt8.toNat (List.getD (List.take ((IntKind.wrap .i64 ((↑i : Int) + 6)).toNat - (↑i : Int).toNat) (List.drop (↑i : Int).toNat b)) (4 : Int).toNat (0 : UInt8))) : Int) == 1), .imm (.int .u8 (↑(UInt8.toNat (List.getD (List.take ((IntKind.wrap .i64 ((↑i : Int) + 6)).toNat - (↑i : Int).toNat) (List.drop (↑i : Int).toNat b)) (5 : Int).toNat (0 : UInt8))) : Int))], .imm (.val Value.nilIface), .imm (.val Value.nilIface), AV.ifc 175 (.ptr 3 0), bo false, AV.row 0 0, .agg [.imm (.int IntKind.i32 (IntKind.wrap IntKind.i32 (sgnN (4 : Int).toNat (uintP (List.take ((IntKind.wrap .i64 ((↑i : Int) + 6)).toNat - (↑i : Int).toNat) (List.drop (↑i : Int).toNat b)) (0 : Int).toNat (4 : Int).toNat)))), bo ((↑(UInt8.toNat (List.getD (List.take ((IntKind.wrap .i64 ((↑i : Int) + 6)).toNat - (↑i : Int).toNat) (List.drop (↑i : Int).toNat b)) (4 : Int).toNat (0 : UInt8))) : Int) == 1), .imm (.int .u8 (↑(UInt8.toNat
 (List.getD (List.take ((IntKind.wrap .i64 ((↑i : Int) + 6)).toNat - (↑i : Int).toNat) (List.drop (↑i : Int).toNat b)) (5 : Int).toNat (0 : UInt8))) : Int))], .full (IV.sl 3 [[IV.int IntKind.i32 (IntKind.wrap IntKind.i32 (sgnN (4 : Int).toNat (uintP (List.take ((IntKind.wrap .i64 ((↑i : Int) + 6)).toNat - (↑i : Int).toNat) (List.drop (↑i : Int).toNat b)) (0 : Int).toNat (4 : Int).toNat))), IV.bool ((↑(UInt8.toNat (List.getD (List.take ((IntKind.wrap .i64 ((↑i : Int) + 6)).toNat - (↑i : Int).toNat) (List.drop (↑i : Int).toNat b)) (4 : Int).toNat (0 : UInt8))) : Int) == 1), IV.int .u8 (↑(UInt8.toNat (List.getD (List.take ((IntKind.wrap .i64 ((↑i : Int) + 6)).toNat - (↑i : Int).toNat) (List.drop (↑i : Int).toNat b)) (5 : Int).toNat (0 : UInt8))) : Int)]]), AV.row 0 1, .dead] [(0, Ob.mk true 1 (AObj.row (IV.sl 3 (List.map cellsT L ++ [[IV.int IntKind.i32 (IntKind.wrap IntKind.i32 (sgnN (4 : Int).toNat (uintP (List.take ((IntKind.wrap .i64 ((↑i : Int) + 6)).toNat - (↑i : Int).toNat) (List.drop (↑i : Int).toNat b)) (0 : Int).toNat (4 : Int).toNat))), IV.bool ((↑(UInt8.toNat (List.getD (List.take ((IntKind.wrap .i64 ((↑i : Int) + 6)).toNat - (↑i : Int).toNat) (List.drop (↑i : Int).toNat b))
 (4 : Int).toNat (0 : UInt8))) : Int) == 1), IV.int .u8 (↑(UInt8.toNat (List.getD (List.take ((IntKind.wrap .i64 ((↑i : Int) + 6)).toNat - (↑i : Int).toNat) (List.drop (↑i : Int).toNat b)) (5 : Int).toNat (0 : UInt8))) : Int)]])))), (1, Ob.mk true 0 (AObj.cells [.imm (.int IntKind.i32 (IntKind.wrap IntKind.i32 (sgnN (4 : Int).toNat (uintP (List.take ((IntKind.wrap .i64 ((↑i : Int) + 6)).toNat - (↑i : Int).toNat) (List.drop (↑i : Int).toNat b)) (0 : Int).toNat (4 : Int).toNat)))), bo ((↑(UInt8.toNat (List.getD (List.take ((IntKind.wrap .i64 ((↑i : Int) + 6)).toNat - (↑i : Int).toNat) (List.drop (↑i : Int).toNat b)) (4 : Int).toNat (0 : UInt8))) : Int) == 1), .imm (.int .u8 (↑(UInt8.toNat (List.getD (List.take ((IntKind.wrap .i64 ((↑i : Int) + 6)).toNat - (↑i : Int).toNat) (List.drop (↑i : Int).toNat b)) (5 : Int).toNat (0 : UInt8))) : Int))])), (2, Ob.mk true 0 (AObj.cells [.imm (.int IntKind.i32 (IntKind.wrap IntKind.i32 (sgnN (4 : Int).toNat (uintP (List.take ((IntKind.wrap .i64 ((↑i : Int) + 6)).toNat - (↑i : Int).toNat) (List.drop (↑i : Int).toNat b)) (0 : Int).toNat (4 : Int).toNat)))), bo ((↑(UInt8.toNat (List.getD (List.take ((IntKind.wrap .i64 ((↑i : Int) + 6)).toNat - (↑i :
 Int).toNat) (List.drop (↑i : Int).toNat b)) (4 : Int).toNat (0 : UInt8))) : Int) == 1), .imm (.int .u8 (↑(UInt8.toNat (List.getD (List.take ((IntKind.wrap .i64 ((↑i : Int) + 6)).toNat - (↑i : Int).toNat) (List.drop (↑i : Int).toNat b)) (5 : Int).toNat (0 : UInt8))) : Int))])), (3, Ob.mk true 0 (AObj.cells [.imm (.int .u8 0)]))] 4 []))) (k (AX.exit 0) (St.mk (lapp [by' b, .dead, .dead, .dead, AV.row 0 0, i64 (↑i : Int), .dead, .dead, .dead, i64 (↑i : Int), i64 (IntKind.wrap .i64 ((↑i : Int) + 6)), by' b, i64 (b.length : Int), bo (decide (IntKind.wrap .i64 ((↑i : Int) + 6) ≤ (b.length : Int)))] (dN 19)) [(0, Ob.mk true 0 (AObj.row (IV.sl 3 (List.map cellsT L))))] 1 []))) := by kernel_rfl
end E6
set_option maxRecDepth 100000
namespace E6
open Go Go.AE Go.Proofs
attribute [local irreducible] loopK evCode evSpec loopB norm
theorem wrap64 {n : Int} (h1 : -9223372036854775808 ≤ n) (h2 : n ≤ 9223372036854775807) : IntKind.wrap .i64 n = n := by
  have := IntKind.wrap_i64 n
  rw [show IntKind.wrap .i64 n = IntKind.i64.wrap n from rfl, this]; omega
theorem wrapU {n : Int} (h1 : 0 ≤ n) (h2 : n < 18446744073709551616) : IntKind.wrap .u64 n = n := by
  simp [IntKind.wrap, IntKind.min, IntKind.max, IntKind.signed, IntKind.bits]
  omega
theorem wrapU8 {n : Int} (h1 : 0 ≤ n) (h2 : n < 256) : IntKind.wrap .u8 n = n := by
  simp [IntKind.wrap, IntKind.min, IntKind.max, IntKind.signed, IntKind.bits]
  omega
theorem wrapUm (n : Int) : IntKind.wrap .u64 n = n % 18446744073709551616 := by
  simp [IntKind.wrap, IntKind.min, IntKind.max, IntKind.signed, IntKind.bits]
theorem or8 {m y : Nat} (hm : m * 256 + y < 18446744073709551616) (hy : y < 256) : bitsV .or .u64 (shlV .u64 (m : Int) 8) (y : Int) = ((m * 256 + y : Nat) : Int) := by
  have e1 : shlV .u64 (m : Int) 8 = ((m * 256 : Nat) : Int) := by
    unfold shlV
    have : min (Int.toNat 8) IntKind.u64.bits = 8 := rfl
    rw [this, show ((m : Int) * 2 ^ 8) = ((m * 256 : Nat) : Int) by omega, wrapU (by omega) (by omega)]
  rw [e1]
  unfold bitsV
  simp only
  have h1 : (BitVec.ofInt IntKind.u64.bits ((m * 256 : Nat) : Int) ||| BitVec.ofInt IntKind.u64.bits (y : Int)).toNat = m * 256 + y := by
    rw [BitVec.toNat_or, BitVec.ofInt_natCast, BitVec.ofInt_natCast, BitVec.toNat_ofNat, BitVec.toNat_ofNat]
    have hb : 2 ^ IntKind.u64.bits = 18446744073709551616 := rfl
    rw [hb, Nat.mod_eq_of_lt (by omega), Nat.mod_eq_of_lt (by omega)]
    have := Nat.shiftLeft_add_eq_or_of_lt (i := 8) (b := y) (by omega) m
    rw [Nat.shiftLeft_eq] at this
    exact this.symm
  rw [h1, wrapU (by omega) (by omega)]
theorem beN_app (l : List UInt8) (b : UInt8) : beN (l ++ [b]) = beN l * 256 + b.toNat := by simp [beN]
theorem beN_fold : ∀ (l : List UInt8) (v : Nat), l.foldl (fun v b => v * 256 + b.toNat) v + 1 ≤ (v + 1) * 256 ^ l.length
  | [], v => by simp
  | b :: l, v => by
    have h1 := beN_fold l (v * 256 + b.toNat)
    have h2 := b.toNat_lt
    rw [List.foldl_cons, List.length_cons, Nat.pow_succ]
    have h3 : (v * 256 + b.toNat + 1) * 256 ^ l.length ≤ ((v + 1) * 256) * 256 ^ l.length := Nat.mul_le_mul_right _ (by omega)
    have h4 : ((v + 1) * 256) * 256 ^ l.length = (v + 1) * (256 ^ l.length * 256) := by rw [Nat.mul_assoc, Nat.mul_comm 256]
    omega
theorem beN_lt (l : List UInt8) : beN l < 256 ^ l.length := by
  have := beN_fold l 0
  unfold beN
  omega
theorem beN_lt8 {l : List UInt8} (h : l.length ≤ 8) : beN l < 18446744073709551616 := by
  have h1 := beN_lt l
  have h2 : 256 ^ l.length ≤ 256 ^ 8 := Nat.pow_le_pow_right (by decide) h
  have : (256 : Nat) ^ 8 = 18446744073709551616 := rfl
  omega
theorem take_succ' {b : List UInt8} {i : Nat} (h : i < b.length) : b.take (i + 1) = b.take i ++ [b.getD i 0] := by
  rw [List.take_add_one, List.getElem?_eq_getElem h, List.getD_eq_getElem?_getD, List.getElem?_eq_getElem h]
  rfl
theorem getD_drop' (b : List UInt8) (o i : Nat) : (b.drop o).getD i 0 = b.getD (o + i) 0 := by
  simp only [List.getD_eq_getElem?_getD, List.getElem?_drop]
theorem mk {E : FuncId → List AV → Option (List Prop × List AV)} (hE : EOK Tryz.prog E G16) {f : FuncId} {fn : Func} {args res : List AV} {pres : List Prop} (hf : Tryz.prog.funcs[f]? = some fn) (hn : (fn.name == "runtime.NumGoroutine") = false) (hb : fn.body.isNone = false)
    (h : (∀ p, p ∈ pres → p) → ∀ K : List AV → Prop, K res → evSpec (cx E) fn args K) : SpecOK Tryz.prog G16 f args pres res :=
  spec_ok (C := cx E) hE noCall_ok hf hn hb (fun hp => h hp _ rfl)
theorem ok0 : EOK Tryz.prog noE G16 := noE_ok
theorem f31_ev (b : List UInt8) (off n : Int) (hb : (b.length : Int) ≤ big) (h0 : 0 ≤ off) (h1 : off ≤ big) (n0 : 0 ≤ n) (n8 : n ≤ 8) (K : List AV → Prop) (hK : K [.imm (.int .u64 (uintP b off.toNat n.toNat : Int)), bo (okR b off.toNat n.toNat)]) :
    evSpec C0 Tryz.f105 [.imm (.bytes b), i64 off, i64 n] K := by
  have hbig : big = 4611686018427387904 := rfl
  rw [f31_in]
  refine brn_intro (fun h => ?_) (fun h => ?_)
  · have hr : okR b off.toNat n.toNat = false := by
      rw [wrap64 (by omega) (by omega)] at h
      simp only [Bool.or_eq_true, decide_eq_true_eq] at h
      unfold okR
      simp only [decide_eq_false_iff_not]
      omega
    unfold uintP at hK
    rw [hr] at hK
    exact hK
  · rw [wrap64 (by omega) (by omega)] at h
    simp only [Bool.or_eq_false_iff, decide_eq_false_iff_not] at h
    have hr : okR b off.toNat n.toNat = true := by
      unfold okR
      simp only [decide_eq_true_eq]
      omega
    unfold uintP at hK
    rw [hr, if_pos rfl] at hK
    unfold LoopI
    refine loop_rule (fun i : Nat => h31 b off n (beN ((b.drop off.toNat).take i) : Int) i) (fun i => (i : Int) ≤ n) (fun i => n.toNat - i) (fun i hP K' hnorm hexit => ?_) rfl 0 p31 _ n0 (by kernel_rfl)
    rw [f31_lp]
    refine brn_intro (fun hi => ?_) (fun hi => ?_)
    · simp only [decide_eq_true_eq] at hi
      have e1 : IntKind.wrap .i64 (off + (i : Int)) = ((off.toNat + i : Nat) : Int) := by rw [wrap64 (by omega) (by omega)]; omega
      have e2 : IntKind.wrap .i64 ((i : Int) + 1) = ((i + 1 : Nat) : Int) := by rw [wrap64 (by omega) (by omega)]; rfl
      have hl : ((b.drop off.toNat).take (i + 1)) = (b.drop off.toNat).take i ++ [b.getD (off.toNat + i) 0] := by
        rw [take_succ' (by rw [List.length_drop]; omega), getD_drop']
      have hlt : beN ((b.drop off.toNat).take (i + 1)) < 18446744073709551616 := beN_lt8 (by rw [List.length_take]; omega)
      have hby := (b.getD (off.toNat + i) 0).toNat_lt
      rw [hl, beN_app] at hlt
      have e3 : IntKind.wrap .u64 (((b.getD (off.toNat + i) 0).toNat : Nat) : Int) = ((b.getD (off.toNat + i) 0).toNat : Int) := wrapU (by omega) (by omega)
      have e4 := or8 (m := beN ((b.drop off.toNat).take i)) (y := (b.getD (off.toNat + i) 0).toNat) hlt (by omega)
      rw [← beN_app, ← hl] at e4
      simp only [e1, e2, Int.toNat_natCast, e3, e4]
      refine ⟨by decide, by omega, by omega, hnorm (i + 1) p31 _ (by omega) (by omega) (by kernel_rfl)⟩
    · simp only [decide_eq_false_iff_not] at hi
      have hin : i = n.toNat := by omega
      subst hin
      exact hexit _ _ (by simp) (Eq.mp (by kernel_rfl) hK)
theorem f30_ev (n : Int) (n1 : 1 ≤ n) (n8 : n ≤ 8) (K : List AV → Prop) (hK : K [.imm (.int .u64 (2 ^ (8 * n.toNat - 1)))]) : evSpec C0 Tryz.f91 [i64 n] K := by
  rw [f30_in]
  unfold LoopI
  refine loop_rule (fun i : Nat => h30 n (2 ^ (8 * i - 1)) i) (fun i => 1 ≤ i ∧ (i : Int) ≤ n) (fun i => n.toNat - i) (fun i hP K' hnorm hexit => ?_) rfl 1 p30 _ ⟨Nat.le_refl _, n1⟩ (by kernel_rfl)
  rw [f30_lp]
  obtain ⟨hi1, hin⟩ := hP
  refine brn_intro (fun hi => ?_) (fun hi => ?_)
  · simp only [decide_eq_true_eq] at hi
    have e2 : IntKind.wrap .i64 ((i : Int) + 1) = ((i + 1 : Nat) : Int) := by rw [wrap64 (by omega) (by omega)]; rfl
    have ep : (2 : Int) ^ (8 * i - 1) * 256 = 2 ^ (8 * (i + 1) - 1) := by
      rw [show 8 * (i + 1) - 1 = (8 * i - 1) + 8 by omega, Int.pow_add]; rfl
    have hle : (2 : Int) ^ (8 * (i + 1) - 1) ≤ 2 ^ 63 := by
      have : (2 : Nat) ^ (8 * (i + 1) - 1) ≤ 2 ^ 63 := Nat.pow_le_pow_right (by decide) (by omega)
      exact_mod_cast this
    have h0 : (0 : Int) ≤ 2 ^ (8 * (i + 1) - 1) := Int.le_of_lt (Int.pow_pos (by decide))
    have e3 : IntKind.wrap .u64 ((2 : Int) ^ (8 * i - 1) * 256) = 2 ^ (8 * (i + 1) - 1) := by
      rw [ep, wrapU h0 (by have : (2 : Int) ^ 63 = 9223372036854775808 := rfl; omega)]
    simp only [e2, e3]
    exact hnorm (i + 1) p30 _ ⟨by omega, by omega⟩ (by omega) (by kernel_rfl)
  · simp only [decide_eq_false_iff_not] at hi
    have hin : i = n.toNat := by omega
    subst hin
    exact hexit _ _ (by simp) (Eq.mp (by kernel_rfl) hK)
end E6
set_option maxRecDepth 100000
namespace E6
open Go Go.AE Go.Proofs
attribute [local irreducible] loopK evCode evSpec loopB norm
theorem f22_out (b : List UInt8) (n : Int) (v : Int) (own : Bool) (l : List UInt8) (i : Nat) (K : List AV → Prop) : loopK C0 (bodyOf Tryz.f31) 0 (finK C0 Tryz.f31 K) (AX.exit 0) (St.mk (lapp [by' b, i64 n, .imm (.int IntKind.u64 v)] (lapp (dN 4) (lapp [AV.row 0 0, i64 (↑i : Int), .dead, i64 (↑i : Int), i64 n, bo (decide ((↑i : Int) < n))] (dN 15)))) [(0, Ob.mk own 0 (AObj.row (IV.bytes l)))] 1 []) = (((List.map u8 []).length + b.length) * 1 ≤ 140737488355328 ∧ (List.map u8 []).length + b.length ≤ 140737488355328 ∧ ((List.map u8 [] ++ b).length + l.length) * 1 ≤ 140737488355328 ∧ (List.map u8 [] ++ b).length + l.length ≤ 140737488355328 ∧ K [AV.new (IV.bytes (List.map u8 [] ++ b ++ l))]) := by kernel_rfl
end E6
set_option maxRecDepth 100000
namespace E6
open Go Go.AE Go.Proofs
attribute [local irreducible] loopK evCode evSpec loopB norm
def t0 : Ty := ⟨0, false, 0⟩
theorem getT {L : List Ty} {i : Nat} (h : i < L.length) : (L.map cellsT).getD i [] = cellsT (L.getD i t0) := by
  simp only [List.getD_eq_getElem?_getD, List.getElem?_map, List.getElem?_eq_getElem h]
  rfl
theorem kT (t : Ty) : kcells (cellsT t) 0 (lapp [CK.int .i32] (lapp [CK.bool] (lapp [CK.int .u8] []))) = cellsT t := rfl
theorem oT (t : Ty) : ivInt (ivNth (cellsT t) 0) = t.o := rfl
theorem dT (t : Ty) : ivBool (ivNth (cellsT t) (0 + 1)) = t.d := rfl
theorem gT (t : Ty) : ivInt (ivNth (cellsT t) (0 + 1 + 1)) = t.g := rfl
theorem okT_elim {xs : List (List IV)} (h : okT xs) : ∃ L : List Ty, xs = L.map cellsT ∧ tys xs = L ∧ ∀ t ∈ L, okTy t := ⟨tys xs, h.1, rfl, h.2⟩
theorem takeS {α : Type} {l : List α} {i : Nat} (d : α) (h : i < l.length) : l.take (i + 1) = l.take i ++ [l.getD i d] := by
  rw [List.take_add_one, List.getElem?_eq_getElem h, List.getD_eq_getElem?_getD, List.getElem?_eq_getElem h]
  rfl
theorem ne_of_at {α : Type} {a b : List α} {i : Nat} (d : α) (h : a.getD i d ≠ b.getD i d) : a ≠ b := fun e => h (by rw [e])
theorem memD {α : Type} {l : List α} {i : Nat} (d : α) (h : i < l.length) : l.getD i d ∈ l := by
  rw [List.getD_eq_getElem?_getD, List.getElem?_eq_getElem h]
  exact List.getElem_mem h
theorem f11_ev (a b : List UInt8) (ha : (a.length : Int) ≤ big) (hb : (b.length : Int) ≤ big) (K : List AV → Prop) (hK : K [bo (decide (a = b))]) : evSpec C0 Tryz.f63 [.imm (.bytes a), .imm (.bytes b)] K := by
  have hbig : big = 4611686018427387904 := rfl
  have no : a ≠ b → K [.imm (.bool false)] := fun h => by rw [decide_eq_false h] at hK; exact hK
  rw [f11_in]
  refine brn_intro (fun h => ?_) (fun h => ?_)
  · refine no (fun e => ?_)
    subst e
    simp at h
  · have hl : a.length = b.length := by simp at h; omega
    unfold LoopI
    refine loop_rule (fun i : Nat => h11 a b i) (fun i => i ≤ a.length ∧ a.take i = b.take i) (fun i => a.length - i) (fun i hP K' hnorm hexit => ?_) rfl 0 p11 _ ⟨Nat.zero_le _, by simp⟩ (by kernel_rfl)
    obtain ⟨hi, ht⟩ := hP
    rw [f11_lp]
    refine brn_intro (fun h1 => ?_) (fun h1 => ?_)
    · simp only [decide_eq_true_eq] at h1
      simp only [Int.toNat_natCast]
      refine ⟨by omega, by omega, by omega, by omega, brn_intro (fun h2 => ?_) (fun h2 => ?_)⟩
      · refine hexit _ _ (by simp) (Eq.mp (by kernel_rfl) (no (ne_of_at 0 (i := i) fun e => ?_)))
        rw [e] at h2
        simp at h2
      · have e2 : IntKind.wrap .i64 ((i : Int) + 1) = ((i + 1 : Nat) : Int) := by rw [wrap64 (by omega) (by omega)]; rfl
        have e3 : a.getD i 0 = b.getD i 0 := by
          simp only [bne_eq_false_iff_eq] at h2
          exact UInt8.toNat_inj.1 (by omega)
        simp only [e2]
        refine hnorm (i + 1) p11 _ ⟨by omega, ?_⟩ (by omega) (by kernel_rfl)
        rw [takeS 0 (by omega), takeS 0 (by omega), ht, e3]
    · simp only [decide_eq_false_iff_not] at h1
      have hil : i = a.length := by omega
      have e : a = b := by
        rw [hil, List.take_length, hl, List.take_length] at ht
        exact ht
      rw [decide_eq_true e] at hK
      exact hexit _ _ (by simp) (Eq.mp (by kernel_rfl) hK)
theorem f10_ev (L M : List Ty) (ha : (L.length : Int) ≤ big) (hb : (M.length : Int) ≤ big) (K : List AV → Prop) (hK : K [bo (decide (L = M))]) : evSpec C0 Tryz.f64 [.imm (slT L), .imm (slT M)] K := by
  have hbig : big = 4611686018427387904 := rfl
  have no : L ≠ M → K [.imm (.bool false)] := fun h => by rw [decide_eq_false h] at hK; exact hK
  unfold slT
  rw [f10_in]
  simp only [List.length_map]
  refine brn_intro (fun h => ?_) (fun h => ?_)
  · refine no (fun e => ?_)
    subst e
    simp at h
  · have hl : L.length = M.length := by simp at h; omega
    unfold LoopI
    refine loop_rule (fun i : Nat => h10 (L.map cellsT) (M.map cellsT) i) (fun i => i ≤ L.length ∧ L.take i = M.take i) (fun i => L.length - i) (fun i hP K' hnorm hexit => ?_) rfl 0 p11 _ ⟨Nat.zero_le _, by simp⟩ (by kernel_rfl)
    obtain ⟨hi, ht⟩ := hP
    rw [f10_lp]
    simp only [List.length_map]
    refine brn_intro (fun h1 => ?_) (fun h1 => ?_)
    · simp only [decide_eq_true_eq] at h1
      have hlt : i < L.length := by omega
      simp only [Int.toNat_natCast, getT hlt, getT (hl ▸ hlt : i < M.length), kT, oT, dT, gT]
      refine ⟨by omega, by omega, True.intro, by omega, by omega, True.intro, brn_intro (fun h2 => ?_) (fun h2 => ?_)⟩
      · refine hexit _ _ (by simp) (Eq.mp (by kernel_rfl) (no (ne_of_at t0 (i := i) fun e => ?_)))
        rw [e] at h2
        simp at h2
      · have e2 : IntKind.wrap .i64 ((i : Int) + 1) = ((i + 1 : Nat) : Int) := by rw [wrap64 (by omega) (by omega)]; rfl
        have e3 : L.getD i t0 = M.getD i t0 := by
          simp only [Bool.not_eq_false', Bool.and_eq_true, beq_iff_eq, and_true] at h2
          obtain ⟨q1, q2, q3⟩ := h2
          generalize L.getD i t0 = x at *
          generalize M.getD i t0 = y at *
          cases x; cases y
          simp only at q1 q2 q3
          rw [q1, q2, q3]
        simp only [e2]
        refine hnorm (i + 1) p11 _ ⟨by omega, ?_⟩ (by omega) (by kernel_rfl)
        rw [takeS t0 (by omega), takeS t0 (by omega), ht, e3]
    · simp only [decide_eq_false_iff_not] at h1
      have hil : i = L.length := by omega
      have e : L = M := by
        rw [hil, List.take_length, hl, List.take_length] at ht
        exact ht
      rw [decide_eq_true e] at hK
      exact hexit _ _ (by simp) (Eq.mp (by kernel_rfl) hK)
theorem be_len : ∀ (n v : Nat), (be n v).length = n
  | 0, _ => rfl
  | n + 1, v => by rw [be, List.length_append, be_len n]; rfl
theorem be_front : ∀ (n v : Nat), be (n + 1) v = UInt8.ofNat (v / 256 ^ n % 256) :: be n v
  | 0, v => by simp [be]
  | n + 1, v => by
    rw [be, be_front n (v / 256), be, Nat.pow_succ, Nat.mul_comm, ← Nat.div_div_eq_div_mul, List.cons_append]
end E6
set_option maxRecDepth 100000
namespace E6
open Go Go.AE Go.Proofs
attribute [local irreducible] loopK evCode evSpec loopB norm
theorem tmodN (n : Nat) : Int.tmod (n : Int) 256 = ((n % 256 : Nat) : Int) := by simp [Int.tmod]
theorem tdivN (n : Nat) : Int.tdiv (n : Int) 256 = ((n / 256 : Nat) : Int) := by simp [Int.tdiv]
theorem f22_ev (b : List UInt8) (n v : Int) (hb : (b.length : Int) ≤ 1000000000000) (n0 : 0 ≤ n) (n8 : n ≤ 8) (v0 : 0 ≤ v) (v1 : v < 18446744073709551616) (K : List AV → Prop) (hK : K [.new (.bytes (b ++ be n.toNat v.toNat))]) :
    evSpec C0 Tryz.f31 [.imm (.bytes b), i64 n, .imm (.int .u64 v)] K := by
  rw [f22_in]
  unfold LoopI
  refine loop_rule (fun s : Nat × Int × Bool × List UInt8 => h22 b n s.2.1 s.2.2.1 s.2.2.2 s.1) (fun s => (s.1 : Int) ≤ n ∧ s.2.1 = ((v.toNat / 256 ^ s.1 : Nat) : Int) ∧ s.2.2.2 = be s.1 v.toNat) (fun s => n.toNat - s.1) (fun s hP K' hnorm hexit => ?_) rfl (0, v, true, []) p22i _ ⟨n0, by simp; omega, rfl⟩ (by kernel_rfl)
  obtain ⟨i, v', own, l⟩ := s
  obtain ⟨hi, hv, hl⟩ := hP
  simp only at hi hl hv
  have hlen : l.length ≤ 8 := by rw [hl, be_len]; omega
  rw [f22_lp]
  refine brn_intro (fun h1 => ?_) (fun h1 => ?_)
  · simp only [decide_eq_true_eq] at h1
    have e2 : IntKind.wrap .i64 ((i : Int) + 1) = ((i + 1 : Nat) : Int) := by rw [wrap64 (by omega) (by omega)]; rfl
    have e3 : IntKind.wrap .u8 (Int.tmod v' 256) = ((v.toNat / 256 ^ i % 256 : Nat) : Int) := by
      rw [hv, tmodN, wrapU8 (by omega) (by omega)]
    have e4 : IntKind.wrap .u64 (Int.tdiv v' 256) = ((v.toNat / 256 ^ (i + 1) : Nat) : Int) := by
      have hd : v.toNat / 256 ^ (i + 1) ≤ v.toNat := Nat.div_le_self _ _
      rw [hv, tdivN, Nat.div_div_eq_div_mul, ← Nat.pow_succ, Nat.succ_eq_add_one]
      generalize v.toNat / 256 ^ (i + 1) = q at hd ⊢
      rw [wrapU (by omega) (by omega)]
    simp only [e2, e3, e4, List.map_cons, List.map_nil, List.length_cons, List.length_nil]
    refine ⟨by decide, by omega, by omega, by decide, hnorm (i + 1, ((v.toNat / 256 ^ (i + 1) : Nat) : Int), someIV (.bytes l), [u8 ((v.toNat / 256 ^ i % 256 : Nat) : Int)] ++ l) p22 _ ⟨by simp only; omega, rfl, ?_⟩ (by simp only; omega) (by kernel_rfl)⟩
    simp only
    rw [be_front, hl]
    rfl
  · simp only [decide_eq_false_iff_not] at h1
    have hin : i = n.toNat := by omega
    rw [← hin, ← hl] at hK
    refine hexit _ _ (by simp) ?_
    rw [f22_out]
    refine ⟨by simp; omega, by simp; omega, by simp; omega, by simp; omega, ?_⟩
    simpa using hK
theorem uintP_lt (b : List UInt8) (off n : Nat) : uintP b off n < 256 ^ n := by
  unfold uintP okR
  split
  · rename_i h
    simp only [decide_eq_true_eq] at h
    have := beN_lt ((b.drop off).take n)
    rw [List.length_take, List.length_drop, Nat.min_eq_left (by omega)] at this
    exact this
  · exact Nat.pow_pos (by decide)
theorem wrap64m (n : Int) : IntKind.wrap .i64 n = (n + 9223372036854775808) % 18446744073709551616 - 9223372036854775808 := by
  have := IntKind.wrap_i64 n
  rw [show IntKind.wrap .i64 n = IntKind.i64.wrap n from rfl, this]
theorem shl_eq {u s : Nat} (hs : s ≤ 64) : shlV .u64 (u : Int) (s : Int) = ((u : Int) * 2 ^ s) % 18446744073709551616 := by
  unfold shlV
  rw [Int.toNat_natCast, Nat.min_eq_left (by have : IntKind.u64.bits = 64 := rfl; omega), wrapUm]
theorem shr_eq {x : Int} {s : Nat} (hs : s ≤ 64) : shrV .i64 x (s : Int) = x / 2 ^ s := by
  unfold shrV
  rw [Int.toNat_natCast, Nat.min_eq_left (by have : IntKind.i64.bits = 64 := rfl; omega), Int.fdiv_eq_ediv_of_nonneg _ (Int.le_of_lt (Int.pow_pos (by decide)))]
theorem sgn_eq {u n : Nat} (hu : u < 256 ^ n) (n1 : 1 ≤ n) (n8 : n ≤ 8) : shrV .i64 (IntKind.wrap .i64 (shlV .u64 (u : Int) ((64 - 8 * n : Nat) : Int))) ((64 - 8 * n : Nat) : Int) = sgnN n u := by
  rw [shl_eq (by omega), shr_eq (by omega), wrap64m]
  unfold sgnN
  have : n = 1 ∨ n = 2 ∨ n = 3 ∨ n = 4 ∨ n = 5 ∨ n = 6 ∨ n = 7 ∨ n = 8 := by omega
  rcases this with rfl | rfl | rfl | rfl | rfl | rfl | rfl | rfl <;> simp at hu ⊢ <;> split <;> omega
theorem f23_ev (b : List UInt8) (off n : Int) (hb : (b.length : Int) ≤ big) (h0 : 0 ≤ off) (h1 : off ≤ big) (n1 : 1 ≤ n) (n8 : n ≤ 8) (K : List AV → Prop) (hK : K [.imm (.int .i64 (sgnN n.toNat (uintP b off.toNat n.toNat))), bo (okR b off.toNat n.toNat)]) :
    evSpec C1 Tryz.f111 [.imm (.bytes b), i64 off, i64 n] K := by
  rw [f23_in]
  have e1 : IntKind.wrap .u64 (IntKind.wrap .i64 ((64 : Int) - IntKind.wrap .i64 ((8 : Int) * n))) = ((64 - 8 * n.toNat : Nat) : Int) := by
    rw [wrap64 (n := 8 * n) (by omega) (by omega), wrap64 (by omega) (by omega), wrapU (by omega) (by omega)]; omega
  rw [e1, sgn_eq (uintP_lt _ _ _) (by omega) (by omega)]
  exact ⟨hb, h0, h1, by omega, n8, by omega, by omega, hK⟩
end E6
set_option maxRecDepth 100000
namespace E6
open Go Go.AE Go.Proofs
attribute [local irreducible] loopK evCode evSpec loopB norm
end E6
set_option maxRecDepth 100000
namespace E6
open Go Go.AE Go.Proofs
attribute [local irreducible] loopK evCode evSpec loopB norm
theorem enc_app : ∀ (L M : List Ty), enc (L ++ M) = enc L ++ enc M
  | [], M => rfl
  | t :: L, M => by rw [List.cons_append, enc, enc, enc_app L M, List.append_assoc]
theorem enc1_len (t : Ty) : (enc1 t).length = 6 := by
  unfold enc1
  rw [List.length_append, be_len]
  rfl
theorem enc_len : ∀ L : List Ty, (enc L).length = 6 * L.length
  | [] => rfl
  | t :: L => by rw [enc, List.length_append, enc1_len, enc_len L, List.length_cons]; omega
theorem enc_take {L : List Ty} {i : Nat} (h : i < L.length) : enc (L.take (i + 1)) = enc (L.take i) ++ enc1 (L.getD i t0) := by
  rw [takeS t0 h, enc_app]
  congr 1
theorem u64_ok {o : Int} (h0 : -2147483648 ≤ o) (h1 : o ≤ 2147483647) : IntKind.wrap .u64 (IntKind.wrap .i64 o) = ((u64 o : Nat) : Int) := by
  rw [wrap64 (by omega) (by omega), wrapUm]
  unfold u64
  have := Int.emod_nonneg o (by decide : (18446744073709551616 : Int) ≠ 0)
  exact (Int.toNat_of_nonneg this).symm
theorem u64_lt (o : Int) : u64 o < 18446744073709551616 := by
  unfold u64
  have := Int.emod_lt_of_pos o (by decide : (0 : Int) < 18446744073709551616)
  have := Int.emod_nonneg o (by decide : (18446744073709551616 : Int) ≠ 0)
  omega
theorem f13_ev (L : List Ty) (hL : ∀ t ∈ L, okTy t) (hl : (L.length : Int) ≤ 100000000000) (K : List AV → Prop) (hK : K [.new (.bytes (enc L))]) : evSpec C3 Tryz.f33 [.imm (slT L)] K := by
  unfold slT
  rw [f13_in]
  unfold LoopI
  refine loop_rule (fun s : Nat × List UInt8 => h13 (L.map cellsT) s.2 s.1) (fun s => s.1 ≤ L.length ∧ s.2 = enc (L.take s.1)) (fun s => L.length - s.1) (fun s hP K' hnorm hexit => ?_) rfl (0, []) p13i _ ⟨Nat.zero_le _, rfl⟩ (by kernel_rfl)
  obtain ⟨i, l⟩ := s
  obtain ⟨hi, hll⟩ := hP
  simp only at hi hll
  rw [f13_lp]
  simp only [List.length_map]
  have e2 : IntKind.wrap .i64 ((i : Int) + 1) = ((i + 1 : Nat) : Int) := by rw [wrap64 (by omega) (by omega)]; rfl
  have hlen : l.length = 6 * i := by rw [hll, enc_len, List.length_take, Nat.min_eq_left hi]
  refine brn_intro (fun h1 => ?_) (fun h1 => ?_)
  · simp only [decide_eq_true_eq] at h1
    have hlt : i < L.length := by omega
    have hok := hL _ (memD t0 hlt)
    have het := enc_take hlt
    simp only [Int.toNat_natCast, getT hlt, kT, oT, dT, gT]
    generalize L.getD i t0 = t at hok het
    obtain ⟨q1, q2, q3, q4⟩ := hok
    have hu := u64_lt t.o
    simp only [e2, u64_ok q1 q2, Int.toNat_natCast, List.length_append, be_len, List.map_cons, List.map_nil, List.length_cons, List.length_nil]
    rw [← hll] at het
    refine ⟨by omega, by omega, True.intro, by omega, by omega, by omega, by omega, by omega, by omega, by omega, True.intro, brn_intro (fun h2 => ?_) (fun h2 => ?_)⟩
    · refine ⟨by omega, by omega, True.intro, by simp; omega, by simp; omega, hnorm (i + 1, l ++ be 4 (u64 t.o) ++ [u8 1, u8 t.g]) ⟨[], msk [0, 3, 4] 0 36, [1]⟩ _ ⟨hlt, ?_⟩ (by simp only; omega) (by kernel_rfl)⟩
      simp only
      rw [het]
      unfold enc1
      rw [h2, if_pos rfl, List.append_assoc]
      rfl
    · refine ⟨by omega, by omega, True.intro, by simp; omega, by simp; omega, hnorm (i + 1, l ++ be 4 (u64 t.o) ++ [u8 0, u8 t.g]) ⟨[], msk [0, 3, 4] 0 36, [1]⟩ _ ⟨hlt, ?_⟩ (by simp only; omega) (by kernel_rfl)⟩
      simp only
      rw [het]
      unfold enc1
      rw [h2, if_neg (by decide), List.append_assoc]
      rfl
  · simp only [decide_eq_false_iff_not] at h1
    have hil : i = L.length := by omega
    rw [hil, List.take_length] at hll
    rw [← hll] at hK
    exact hexit _ _ (by simp) (Eq.mp (by kernel_rfl) hK)
end E6
set_option maxRecDepth 100000
namespace E6
open Go Go.AE Go.Proofs
attribute [local irreducible] loopK evCode evSpec loopB norm
theorem flags_false {b : List UInt8} {i : Nat} (h : flags b i = false) : ∀ k, i ≤ k → flags b k = false
  | 0, hk => by have : i = 0 := by omega
                subst this; exact h
  | k + 1, hk => by
    by_cases he : i = k + 1
    · rw [← he]; exact h
    · rw [flags, flags_false h k (by omega)]; rfl
theorem recs_len (b : List UInt8) : ∀ k, (recs b k).length = k
  | 0 => rfl
  | k + 1 => by rw [recs, List.length_append, recs_len b k]; rfl
theorem sgn4 {u : Nat} (h : u < 256 ^ 4) : -2147483648 ≤ sgnN 4 u ∧ sgnN 4 u ≤ 2147483647 := by
  unfold sgnN
  simp at h ⊢
  split <;> omega
theorem wrap32 {n : Int} (h1 : -2147483648 ≤ n) (h2 : n ≤ 2147483647) : IntKind.wrap .i32 n = n := by
  simp [IntKind.wrap, IntKind.min, IntKind.max, IntKind.signed, IntKind.bits]
  omega
theorem beq1 (x : UInt8) : (((x.toNat : Nat) : Int) == 1) = (x == 1) := by
  cases h : x == 1 with
  | true =>
    have : x = 1 := by simpa using h
    subst this; rfl
  | false =>
    have h1 : x ≠ 1 := by simpa using h
    simp only [beq_eq_false_iff_ne]
    intro e
    exact h1 (UInt8.toNat_inj.1 (by have : (1 : UInt8).toNat = 1 := rfl; omega))
theorem recB_eq {b : List UInt8} {o : Nat} (h : o + 6 ≤ b.length) : cellsT (recB (b.drop o)) = [.int .i32 (sgnN 4 (uintP b o 4)), .bool (b.getD (o + 4) 0 == 1), .int .u8 ((b.getD (o + 5) 0).toNat : Int)] := by
  have hr : okR b o 4 = true := by unfold okR; simp only [decide_eq_true_eq]; omega
  unfold recB cellsT uintP
  rw [hr, if_pos rfl, getD_drop', getD_drop']
theorem gt1 (x : UInt8) : decide (((x.toNat : Nat) : Int) > 1) = !decide (x.toNat ≤ 1) := by
  by_cases h : x.toNat ≤ 1
  · rw [decide_eq_true h, decide_eq_false (by omega)]; rfl
  · rw [decide_eq_false h, decide_eq_true (by omega)]; rfl
end E6
set_option maxRecDepth 100000
namespace E6
open Go Go.AE Go.Proofs
attribute [local irreducible] loopK evCode evSpec loopB norm
theorem getD_take {b : List UInt8} {n i : Nat} (h : i < n) : (b.take n).getD i 0 = b.getD i 0 := by
  simp only [List.getD_eq_getElem?_getD, List.getElem?_take, if_pos h]
theorem uintP_at {b : List UInt8} {o : Nat} (h : o + 6 ≤ b.length) : uintP ((b.drop o).take 6) 0 4 = uintP b o 4 := by
  have h1 : okR ((b.drop o).take 6) 0 4 = true := by
    unfold okR
    simp only [decide_eq_true_eq, List.length_take, List.length_drop]
    omega
  have h2 : okR b o 4 = true := by
    unfold okR
    simp only [decide_eq_true_eq]
    omega
  unfold uintP
  rw [h1, h2, if_pos rfl, if_pos rfl, List.drop_zero, List.take_take]
  rfl
theorem f8_ev (b : List UInt8) (hb : (b.length : Int) ≤ 1000000000000) (K : List AV → Prop) (hK : K [.new (slT (dec b)), bo (decOk b)]) : evSpec C8 Tryz.f85 [.imm (.bytes b)] K := by
  have hbig : big = 4611686018427387904 := rfl
  rw [f8_in]
  unfold LoopI
  refine loop_rule (fun i : Nat => h8 b (recs b i) (6 * i)) (fun i => i ≤ b.length / 6 ∧ flags b i = true) (fun i => b.length / 6 - i) (fun i hP K' hnorm hexit => ?_) rfl 0 p8i _ ⟨Nat.zero_le _, rfl⟩ (by kernel_rfl)
  obtain ⟨hi, hf⟩ := hP
  rw [f8_lp]
  have e1 : IntKind.wrap .i64 (((6 * i : Nat) : Int) + 6) = ((6 * (i + 1) : Nat) : Int) := by rw [wrap64 (by omega) (by omega)]; omega
  have el := recs_len b i
  rw [e1]
  refine brn_intro (fun h1 => ?_) (fun h1 => ?_)
  · simp only [decide_eq_true_eq] at h1
    have hi1 : i + 1 ≤ b.length / 6 := by omega
    have e2 : 6 * (i + 1) - 6 * i = 6 := by omega
    have hs : ((b.drop (6 * i)).take 6).length = 6 := by rw [List.length_take, List.length_drop]; omega
    have g4 : ((b.drop (6 * i)).take 6).getD 4 0 = b.getD (6 * i + 4) 0 := by rw [getD_take (by decide), getD_drop']
    have g5 : ((b.drop (6 * i)).take 6).getD 5 0 = b.getD (6 * i + 5) 0 := by rw [getD_take (by decide), getD_drop']
    have hu := sgn4 (uintP_lt b (6 * i) 4)
    have e7 := wrap32 hu.1 hu.2
    have t0 : Int.toNat (0 : Int) = 0 := rfl
    have t4 : Int.toNat (4 : Int) = 4 := rfl
    have t5 : Int.toNat (5 : Int) = 5 := rfl
    have hua := uintP_at (b := b) (o := 6 * i) (by omega)
    have hc := recB_eq (b := b) (o := 6 * i) (by omega)
    have hm : (recs b (i + 1)).map cellsT = (recs b i).map cellsT ++ [cellsT (recB (b.drop (6 * i)))] := by rw [recs, List.map_append]; rfl
    rw [hc] at hm
    have ea : IntKind.wrap .i64 ((0 : Int) + 1) = 1 := rfl
    simp only [Int.toNat_natCast, e2, hs, t4, t5, t0, g4, g5, hua, e7, beq1, gt1, ← hm, ea]
    refine ⟨by omega, by omega, by omega, by omega, by omega, by omega, by omega, by omega, by omega, by omega, brn_intro (fun h2 => ?_) (fun h2 => ?_)⟩
    · have hff : flags b (i + 1) = false := by
        rw [flags, hf]
        simpa using h2
      have h0 := flags_false hff (b.length / 6) (by omega)
      unfold dec decOk at hK
      rw [h0] at hK
      refine ⟨by omega, by omega, by omega, by simp, rfl, by omega, by omega, by omega, by omega, by omega, by simp, rfl, by simp, by simp, hexit _ _ (by simp) (Eq.mp (by kernel_rfl) hK)⟩
    · refine ⟨by omega, by omega, by omega, by omega, by simp [el]; omega, by simp [el]; omega, hnorm (i + 1) ⟨[], msk [0, 4, 5] 0 33, [0]⟩ _ ⟨hi1, ?_⟩ (by omega) (by kernel_rfl)⟩
      rw [flags, hf]
      simpa using h2
  · simp only [decide_eq_false_iff_not] at h1
    have hil : i = b.length / 6 := by omega
    unfold dec decOk at hK
    rw [← hil, hf, if_pos rfl] at hK
    exact hexit _ _ (by simp) (Eq.mp (by kernel_rfl) hK)
end E6
set_option maxRecDepth 100000
namespace E6
open Go Go.AE Go.Proofs
attribute [local irreducible] loopK evCode evSpec loopB norm
theorem ok31 : ∀ args pres res, sUint args = some (pres, res) → SpecOK Tryz.prog G16 105 args pres res := by
  intro args pres res h
  unfold sUint at h
  split at h
  case h_2 => cases h
  cases h
  exact mk ok0 Tryz.func105 (by kernel_rfl) (by kernel_rfl) (fun hp K hK => f31_ev _ _ _ (hp _ (by simp)) (hp _ (by simp)) (hp _ (by simp)) (hp _ (by simp)) (hp _ (by simp)) K hK)
theorem ok30 : ∀ args pres res, sHalf args = some (pres, res) → SpecOK Tryz.prog G16 91 args pres res := by
  intro args pres res h
  unfold sHalf at h
  split at h
  case h_2 => cases h
  cases h
  exact mk ok0 Tryz.func91 (by kernel_rfl) (by kernel_rfl) (fun hp K hK => f30_ev _ (hp _ (by simp)) (hp _ (by simp)) K hK)
theorem ok11 : ∀ args pres res, sSameB args = some (pres, res) → SpecOK Tryz.prog G16 63 args pres res := by
  intro args pres res h
  unfold sSameB at h
  split at h
  case h_2 => cases h
  cases h
  exact mk ok0 Tryz.func63 (by kernel_rfl) (by kernel_rfl) (fun hp K hK => f11_ev _ _ (hp _ (by simp)) (hp _ (by simp)) K hK)
theorem okE1 : EOK Tryz.prog E1 G16 := addE_ok (addE_ok (addE_ok ok0 ok31) ok30) ok11
theorem ok23 : ∀ args pres res, sInt args = some (pres, res) → SpecOK Tryz.prog G16 111 args pres res := by
  intro args pres res h
  unfold sInt at h
  split at h
  case h_2 => cases h
  cases h
  exact mk okE1 Tryz.func111 (by kernel_rfl) (by kernel_rfl) (fun hp K hK => f23_ev _ _ _ (hp _ (by simp)) (hp _ (by simp)) (hp _ (by simp)) (hp _ (by simp)) (hp _ (by simp)) K hK)
theorem okE2 : EOK Tryz.prog E2 G16 := addE_ok okE1 ok23
theorem ok22 : ∀ args pres res, sAppend args = some (pres, res) → SpecOK Tryz.prog G16 31 args pres res := by
  intro args pres res h
  unfold sAppend at h
  split at h
  case h_2 => cases h
  cases h
  exact mk ok0 Tryz.func31 (by kernel_rfl) (by kernel_rfl) (fun hp K hK => f22_ev _ _ _ (hp _ (by simp)) (hp _ (by simp)) (hp _ (by simp)) (hp _ (by simp)) (hp _ (by simp)) K hK)
theorem ok10 : ∀ args pres res, sSameT args = some (pres, res) → SpecOK Tryz.prog G16 64 args pres res := by
  intro args pres res h
  unfold sSameT at h
  split at h
  case h_2 => cases h
  cases h
  rename_i xs ys
  exact mk ok0 Tryz.func64 (by kernel_rfl) (by kernel_rfl) (fun hp K hK => by
    obtain ⟨L, rfl, e, hL⟩ := okT_elim (hp (okT xs) (by simp))
    obtain ⟨M, rfl, e', hM⟩ := okT_elim (hp (okT ys) (by simp))
    rw [e, e'] at hK
    have h1 := hp (((L.map cellsT).length : Int) ≤ big) (by simp)
    have h2 := hp (((M.map cellsT).length : Int) ≤ big) (by simp)
    rw [List.length_map] at h1 h2
    exact f10_ev L M h1 h2 K hK)
theorem okE3 : EOK Tryz.prog E3 G16 := addE_ok (addE_ok okE2 ok22) ok10
theorem ok13 : ∀ args pres res, sEnc args = some (pres, res) → SpecOK Tryz.prog G16 33 args pres res := by
  intro args pres res h
  unfold sEnc at h
  split at h
  case h_2 => cases h
  cases h
  rename_i xs
  exact mk okE3 Tryz.func33 (by kernel_rfl) (by kernel_rfl) (fun hp K hK => by
    obtain ⟨L, rfl, e, hL⟩ := okT_elim (hp (okT xs) (by simp))
    rw [e] at hK
    have h1 := hp (((L.map cellsT).length : Int) ≤ 100000000000) (by simp)
    rw [List.length_map] at h1
    exact f13_ev L hL h1 K hK)
theorem I16_ok : ∀ f fn, I16 f = some fn → Tryz.prog.funcs[f]? = some fn ∧ (fn.name == "runtime.NumGoroutine") = false := by
  intro f fn h
  unfold I16 at h
  cases h1 : Nat.beq f 109 with
  | true => rw [h1, cond_true] at h; cases h; obtain rfl := nbeq h1; exact ⟨Tryz.func109, by kernel_rfl⟩
  | false =>
    rw [h1, cond_false] at h
    cases h2 : Nat.beq f 126 with
    | true => rw [h2, cond_true] at h; cases h; obtain rfl := nbeq h2; exact ⟨Tryz.func126, by kernel_rfl⟩
    | false => rw [h2, cond_false] at h; cases h
theorem ok8 : ∀ args pres res, sDec args = some (pres, res) → SpecOK Tryz.prog G16 85 args pres res := by
  intro args pres res h
  unfold sDec at h
  split at h
  case h_2 => cases h
  cases h
  exact spec_ok (C := C8) okE3 (call16_ok okE3 I16_ok 3) Tryz.func85 (by kernel_rfl) (by kernel_rfl) (fun hp => f8_ev _ (hp _ (by simp)) _ rfl)
theorem okE4 : EOK Tryz.prog E4 G16 := addE_ok (addE_ok okE3 ok13) ok8
end E6
set_option maxRecDepth 100000
namespace Y27
open Go Go.AE Go.Proofs E6
attribute [local irreducible] loopK evCode evSpec loopB norm
theorem f23_in (d : List UInt8) (K : List AV → Prop) : evSpec K0 Tryz.f27 [by' d] K = (K [.agg [by' d, i64 0, i64 0, i64 0]]) := by kernel_rfl
theorem f26_in (d : List UInt8) (p : Int) (e : Int) (a : Int) (K : List AV → Prop) : evSpec K0 Tryz.f51 [curAV d p e a] K = (brn (e != 0) (K [i64 0]) (K [i64 (IntKind.wrap .i64 ((d.length : Int) - p))])) := by kernel_rfl
theorem f27_in (d : List UInt8) (p : Int) (e : Int) (a : Int) (w : Int) (t : Int) (K : List AV → Prop) : evSpec K0 Tryz.f79 [curAV d p e a, i64 w, i64 t] K = (brn (e == 0 && w != 0) (K [.agg [by' d, i64 p, i64 w, i64 t]]) (K [.agg [by' d, i64 p, i64 e, i64 a]])) := by kernel_rfl
theorem f10_in (T : List Int) (I : List UInt8) (X : List (List IV)) (C : List UInt8) (L : List (List IV)) (S : List Bool) (U : List Bool) (K : List AV → Prop) : evSpec K0 Tryz.f36 [blkAV T I X C L S U] K = (K [bo (decide ((↑(List.length T) : Int) ≤ 200) && decide ((↑(List.length I) : Int) ≤ 200) && decide ((↑(List.length X) : Int) ≤ 200) && decide ((↑(List.length C) : Int) ≤ 600) && decide ((↑(List.length L) : Int) ≤ 200) && decide ((↑(List.length S) : Int) ≤ 200) && decide ((↑(List.length U) : Int) ≤ 200))]) := by kernel_rfl
theorem f17_in (T : List Int) (I : List UInt8) (X : List (List IV)) (C : List UInt8) (L : List (List IV)) (S : List Bool) (U : List Bool) (v : Int) (K : List AV → Prop) : evSpec K0 Tryz.f21 [blkAV T I X C L S U, i64 v] K = (K [.agg [i64 v, u32 (IntKind.wrap IntKind.u32 (↑(List.length U) : Int)), u32 (IntKind.wrap IntKind.u32 (↑(List.length S) : Int)), u32 (IntKind.wrap IntKind.u32 (↑(List.length L) : Int)), u32 (IntKind.wrap IntKind.u32 (↑(List.length T) : Int)), u32 (IntKind.wrap IntKind.u32 (↑(List.length X) : Int)), u32 (IntKind.wrap IntKind.u32 (↑(List.length C) : Int))]]) := by kernel_rfl
theorem f83_in (a : Int) (b : Int) (K : List AV → Prop) : evSpec K0 Tryz.f124 [u6 a, u6 b] K = ((0 : Int) ≤ 32 ∧ (0 : Int) ≤ 32 ∧ (0 : Int) ≤ 32 ∧ (0 : Int) ≤ 32 ∧ (0 : Int) ≤ 32 ∧ K [.imm (.int IntKind.u64 (IntKind.wrap IntKind.u64 (IntKind.wrap IntKind.u64 (IntKind.wrap IntKind.u64 (shrV IntKind.u64 a (32 : Int) * shrV IntKind.u64 b (32 : Int)) + shrV IntKind.u64 (IntKind.wrap IntKind.u64 (IntKind.wrap IntKind.u64 (shrV IntKind.u64 a (32 : Int) * bitsV BinOp.and IntKind.u64 b (4294967295 : Int)) + shrV IntKind.u64 (IntKind.wrap IntKind.u64 (bitsV BinOp.and IntKind.u64 a (4294967295 : Int) * bitsV BinOp.and IntKind.u64 b (4294967295 : Int))) (32 : Int))) (32 : Int)) + shrV IntKind.u64 (IntKind.wrap IntKind.u64 (bitsV BinOp.and IntKind.u64 (IntKind.wrap IntKind.u64 (IntKind.wrap IntKind.u64 (shrV IntKind.u64 a (32 : Int) * bitsV BinOp.and IntKind.u64 b (4294967295 : Int)) + shrV IntKind.u64 (IntKind.wrap IntKind.u64 (bitsV BinOp.and IntKind.u64 a (4294967295 : Int) * bitsV BinOp.and IntKind.u64 b (4294967295 : Int))) (32 : Int))) (4294967295 : Int) + IntKind.wrap IntKind.u64 (bitsV BinOp.and IntKind.u64 a (4294967295 : Int) * shrV IntKind.u64 b (32 : Int)))) (32 : Int)))), .imm
 (.int IntKind.u64 (IntKind.wrap IntKind.u64 (a * b)))]) := by kernel_rfl
theorem f36_in (v : Int) (iu : Int) (is : Int) (l : Int) (t : Int) (ty : Int) (c : Int) (s : Int) (K : List AV → Prop) : evSpec K0 Tryz.f40 [hdAV v iu is l t ty c, i64 s] K = (K [.agg [.imm (.int IntKind.u64 (IntKind.wrap IntKind.u64 (IntKind.wrap IntKind.u64 t * IntKind.wrap IntKind.u64 s))), .imm (.int IntKind.u64 (IntKind.wrap IntKind.u64 t)), .imm (.int IntKind.u64 (IntKind.wrap IntKind.u64 ((6 : Int) * IntKind.wrap IntKind.u64 ty))), .imm (.int IntKind.u64 (IntKind.wrap IntKind.u64 c)), .imm (.int IntKind.u64 (IntKind.wrap IntKind.u64 (IntKind.wrap IntKind.u64 l * IntKind.wrap IntKind.u64 (IntKind.wrap IntKind.u64 s + 4)))), .imm (.int IntKind.u64 (IntKind.wrap IntKind.u64 is)), .imm (.int IntKind.u64 (IntKind.wrap IntKind.u64 iu))]]) := by kernel_rfl
theorem f74_in (a : Int) (b : Int) (m : Int) (K : List AV → Prop) : evSpec K1 Tryz.f106 [u6 a, u6 b, u6 m] K = ((0 : Int) ≤ a ∧ a ≤ 4294967295 ∧ (0 : Int) ≤ b ∧ b ≤ 4294967295 ∧ brn ((0 : Int) != 0 || decide (a * b > m)) (K [.imm (.int IntKind.u64 (0 : Int)), bo false]) (K [.imm (.int IntKind.u64 (a * b)), bo true])) := by kernel_rfl
theorem f64_in (d : List UInt8) (p : Int) (e : Int) (a : Int) (n : Int) (K : List AV → Prop) : evSpec K1 Tryz.f89 [curAV d p e a, i64 n] K = (brn (e != 0) (K [.agg [by' d, i64 p, i64 e, i64 a], bo false]) ((decide (n < 0) = false → okU (Cu.mk d p e a)) ∧ brn (decide (n < 0) || decide (n > restU (Cu.mk d p e a))) (K [.agg [by' (Cu.d (failU (Cu.mk d p e a) (1 : Int) (d.length : Int))), i64 (Cu.p (failU (Cu.mk d p e a) (1 : Int) (d.length : Int))), i64 (Cu.e (failU (Cu.mk d p e a) (1 : Int) (d.length : Int))), i64 (Cu.a (failU (Cu.mk d p e a) (1 : Int) (d.length : Int)))], bo false]) (K [.agg [by' d, i64 (IntKind.wrap .i64 (p + n)), i64 e, i64 a], bo true]))) := by kernel_rfl
theorem f14_in (T : List Int) (I : List UInt8) (X : List (List IV)) (C : List UInt8) (L : List (List IV)) (S : List Bool) (U : List Bool) (T' : List Int) (I' : List UInt8) (X' : List (List IV)) (C' : List UInt8) (L' : List (List IV)) (S' : List Bool) (U' : List Bool) (K : List AV → Prop) : evSpec K1 Tryz.f38 [blkAV T I X C L S U, blkAV T' I' X' C' L' S' U'] K = ((↑(List.length T) : Int) ≤ big' ∧ (↑(List.length T') : Int) ≤ big' ∧ (decide (T = T') = true → (↑(List.length I) : Int) ≤ big) ∧ (decide (T = T') = true → (↑(List.length I') : Int) ≤ big) ∧ ((decide (T = T') && decide (I = I')) = true → okT X) ∧ ((decide (T = T') && decide (I = I')) = true → okT X') ∧ ((decide (T = T') && decide (I = I')) = true → (↑(List.length X) : Int) ≤ big) ∧ ((decide (T = T') && decide (I = I')) = true → (↑(List.length X') : Int) ≤ big) ∧ ((decide (T = T') && decide (I = I') && decide (tys X = tys X')) = true → (↑(List.length C) : Int) ≤ big) ∧ ((decide (T = T') && decide (I = I') && decide (tys X = tys X')) = true → (↑(List.length C') : Int) ≤ big) ∧ ((decide (T = T') && decide (I = I') && decide (tys X = tys X') && decide (C = C')) = true → okL L) ∧ ((decide (T = T') && decide (I = I') && decide (tys
 X = tys X') && decide (C = C')) = true → okL L') ∧ ((decide (T = T') && decide (I = I') && decide (tys X = tys X') && decide (C = C')) = true → (↑(List.length L) : Int) ≤ big') ∧ ((decide (T = T') && decide (I = I') && decide (tys X = tys X') && decide (C = C')) = true → (↑(List.length L') : Int) ≤ big') ∧ ((decide (T = T') && decide (I = I') && decide (tys X = tys X') && decide (C = C') && decide (lps L = lps L')) = true → (↑(List.length S) : Int) ≤ big') ∧ ((decide (T = T') && decide (I = I') && decide (tys X = tys X') && decide (C = C') && decide (lps L = lps L')) = true → (↑(List.length S') : Int) ≤ big') ∧ ((decide (T = T') && decide (I = I') && decide (tys X = tys X') && decide (C = C') && decide (lps L = lps L') && decide (S = S')) = true → (↑(List.length U) : Int) ≤ big') ∧ ((decide (T = T') && decide (I = I') && decide (tys X = tys X') && decide (C = C') && decide (lps L = lps L') && decide (S = S')) = true → (↑(List.length U') : Int) ≤ big') ∧ K [bo (decide (T = T') && decide (I = I') && decide (tys X = tys X') && decide (C = C') && decide (lps L = lps L') && decide (S = S') && decide (U = U'))]) := by kernel_rfl
theorem f42_in (a : List Int) (b : List Int) (K : List AV → Prop) : evSpec K0 Tryz.f62 [.imm (.ints IntKind.i64 a), .imm (.ints IntKind.i64 b)] K = (brn ((a.length : Int) != (b.length : Int)) (K [bo false]) (LoopI K0 (bodyOf Tryz.f62) 0 (St.mk (lapp [.imm (.ints IntKind.i64 a), .imm (.ints IntKind.i64 b), .dead, .dead, bo false, i64 0, .imm (.ints IntKind.i64 a), i64 (a.length : Int), .imm (.ints IntKind.i64 b), i64 (b.length : Int), bo ((a.length : Int) != (b.length : Int))] (dN 15)) [] 0 []) (finK K0 Tryz.f62 K))) := by kernel_rfl
theorem f44_in (a : List (List IV)) (b : List (List IV)) (K : List AV → Prop) : evSpec K0 Tryz.f65 [.imm (.sl 2 a), .imm (.sl 2 b)] K = (brn ((a.length : Int) != (b.length : Int)) (K [bo false]) (LoopI K0 (bodyOf Tryz.f65) 0 (St.mk (lapp [.imm (.sl 2 a), .imm (.sl 2 b), .dead, .dead, bo false, i64 0, .imm (.sl 2 a), i64 (a.length : Int), .imm (.sl 2 b), i64 (b.length : Int), bo ((a.length : Int) != (b.length : Int))] (dN 15)) [] 0 []) (finK K0 Tryz.f65 K))) := by kernel_rfl
theorem f45_in (a : List Bool) (b : List Bool) (K : List AV → Prop) : evSpec K0 Tryz.f66 [.imm (.bools a), .imm (.bools b)] K = (brn ((a.length : Int) != (b.length : Int)) (K [bo false]) (LoopI K0 (bodyOf Tryz.f66) 0 (St.mk (lapp [.imm (.bools a), .imm (.bools b), .dead, .dead, bo false, i64 0, .imm (.bools a), i64 (a.length : Int), .imm (.bools b), i64 (b.length : Int), bo ((a.length : Int) != (b.length : Int))] (dN 15)) [] 0 []) (finK K0 Tryz.f66 K))) := by kernel_rfl
theorem f33_in (b : List UInt8) (s : Int) (K : List AV → Prop) : evSpec K0 Tryz.f87 [by' b, i64 s] K = (LoopI K0 (bodyOf Tryz.f87) 0 (St.mk (lapp [by' b, i64 s, .dead, .dead, .full (IV.ints IntKind.i64 []), .full (IV.ints IntKind.i64 []), i64 0] (dN 23)) [] 0 []) (finK K0 Tryz.f87 K)) := by kernel_rfl
theorem f34_in (b : List UInt8) (s : Int) (K : List AV → Prop) : evSpec K0 Tryz.f88 [by' b, i64 s] K = (LoopI K0 (bodyOf Tryz.f88) 0 (St.mk (lapp [by' b, i64 s, .dead, .dead, .full (IV.sl 2 []), .full (IV.sl 2 []), i64 0] (dN 38)) [] 0 []) (finK K0 Tryz.f88 K)) := by kernel_rfl
theorem f32_in (b : List UInt8) (K : List AV → Prop) : evSpec K0 Tryz.f86 [by' b] K = (LoopI K0 (bodyOf Tryz.f86) 0 (St.mk (lapp [by' b, .dead, .full (IV.bools []), bo false, .full (IV.bools []), .dead, .dead, by' b, i64 (b.length : Int), i64 0] (dN 14)) [] 0 []) (finK K0 Tryz.f86 K)) := by kernel_rfl
theorem f58_in (T : List Int) (s : Int) (K : List AV → Prop) : evSpec K0 Tryz.f32 [.imm (.ints IntKind.i64 T), i64 s] K = (LoopI K0 (bodyOf Tryz.f32) 0 (St.mk (lapp [.imm (.ints IntKind.i64 T), i64 s, .dead, .dead, .full (IV.bytes []), .full (IV.bytes []), i64 0] (dN 15)) [] 0 []) (finK K0 Tryz.f32 K)) := by kernel_rfl
theorem f60_in (xs : List (List IV)) (s : Int) (K : List AV → Prop) : evSpec K0 Tryz.f34 [.imm (.sl 2 xs), i64 s] K = (LoopI K0 (bodyOf Tryz.f34) 0 (St.mk (lapp [.imm (.sl 2 xs), i64 s, .dead, .dead, .full (IV.bytes []), .full (IV.bytes []), i64 0] (dN 25)) [] 0 []) (finK K0 Tryz.f34 K)) := by kernel_rfl
theorem f61_in (l : List Bool) (K : List AV → Prop) : evSpec K0 Tryz.f35 [.imm (.bools l)] K = (LoopI K0 (bodyOf Tryz.f35) 0 (St.mk (lapp [.imm (.bools l), .dead, .full (IV.bytes []), .full (IV.bytes []), i64 0] (dN 17)) [] 0 []) (finK K0 Tryz.f35 K)) := by kernel_rfl
theorem f52_in (T : List Int) (n : Int) (K : List AV → Prop) : evSpec K1 Tryz.f55 [.imm (.ints IntKind.i64 T), i64 n] K = (LoopI K1 (bodyOf Tryz.f55) 0 (St.mk (lapp [.imm (.ints IntKind.i64 T), i64 n, .dead, .dead, bo false, i64 0] (dN 13)) [] 0 []) (finK K1 Tryz.f55 K)) := by kernel_rfl
theorem f24_in (v : Int) (iu : Int) (is : Int) (l : Int) (t : Int) (ty : Int) (c : Int) (s : Int) (K : List AV → Prop) : evSpec K1u Tryz.f22 [hdAV v iu is l t ty c, i64 s] K = (okH (Hd.mk v iu is l t ty c) ∧ sz48 s ∧ K [.imm (.int IntKind.u64 (IntKind.wrap IntKind.u64 (IntKind.wrap IntKind.u64 (IntKind.wrap IntKind.u64 (IntKind.wrap IntKind.u64 (IntKind.wrap IntKind.u64 (IntKind.wrap IntKind.u64 (IntKind.wrap IntKind.u64 ((0 : Int) + l0 (Hd.mk v iu is l t ty c) s) + l1 (Hd.mk v iu is l t ty c)) + l2 (Hd.mk v iu is l t ty c)) + l3 (Hd.mk v iu is l t ty c)) + l4 (Hd.mk v iu is l t ty c) s) + l5 (Hd.mk v iu is l t ty c)) + l6 (Hd.mk v iu is l t ty c))))]) := by kernel_rfl
theorem f65_in (v : Int) (iu : Int) (is : Int) (l : Int) (t : Int) (ty : Int) (c : Int) (s : Int) (K : List AV → Prop) : evSpec K1u Tryz.f108 [hdAV v iu is l t ty c, i64 s] K = (K [.agg [.imm (.int IntKind.u64 (IntKind.wrap IntKind.u64 (IntKind.wrap IntKind.u64 t * IntKind.wrap IntKind.u64 s))), .imm (.int IntKind.u64 (IntKind.wrap IntKind.u64 (IntKind.wrap IntKind.u64 t * 1))), .imm (.int IntKind.u64 (IntKind.wrap IntKind.u64 (IntKind.wrap IntKind.u64 ty * 6))), .imm (.int IntKind.u64 (IntKind.wrap IntKind.u64 (IntKind.wrap IntKind.u64 c * 1))), .imm (.int IntKind.u64 (IntKind.wrap IntKind.u64 (IntKind.wrap IntKind.u64 l * IntKind.wrap IntKind.u64 (IntKind.wrap IntKind.u64 s + 4)))), .imm (.int IntKind.u64 (IntKind.wrap IntKind.u64 (IntKind.wrap IntKind.u64 is * 1))), .imm (.int IntKind.u64 (IntKind.wrap IntKind.u64 (IntKind.wrap IntKind.u64 iu * 1)))]]) := by kernel_rfl
theorem f25_in (v : Int) (iu : Int) (is : Int) (l : Int) (t : Int) (ty : Int) (c : Int) (s : Int) (m : Int) (K : List AV → Prop) : evSpec K2u Tryz.f50 [hdAV v iu is l t ty c, i64 s, u6 m] K = (let R1 : Prop := ((0 : Int) ≤ IntKind.wrap IntKind.u64 t ∧ IntKind.wrap IntKind.u64 t ≤ 4294967295 ∧ (0 : Int) ≤ 1 ∧ (1 : Int) ≤ 4294967295 ∧ (0 : Int) ≤ m ∧ m ≤ 18446744073709551615 ∧ (0 : Int) ≤ addU (0 : Int) (mulU (IntKind.wrap IntKind.u64 t) (IntKind.wrap IntKind.u64 s) m) m ∧ addU (0 : Int) (mulU (IntKind.wrap IntKind.u64 t) (IntKind.wrap IntKind.u64 s) m) m ≤ 18446744073709551615 ∧ (0 : Int) ≤ mulU (IntKind.wrap IntKind.u64 t) (1 : Int) m ∧ mulU (IntKind.wrap IntKind.u64 t) (1 : Int) m ≤ 18446744073709551615 ∧ (0 : Int) ≤ m ∧ m ≤ 18446744073709551615 ∧ brn (!decide (addU (0 : Int) (mulU (IntKind.wrap IntKind.u64 t) (IntKind.wrap IntKind.u64 s) m) m + mulU (IntKind.wrap IntKind.u64 t) (1 : Int) m ≤ m) || !decide (IntKind.wrap IntKind.u64 t * 1 ≤ m)) (K [.imm (.int IntKind.u64 (0 : Int)), bo false]) ((0 : Int) ≤ IntKind.wrap IntKind.u64 ty ∧ IntKind.wrap IntKind.u64 ty ≤ 4294967295 ∧ (0 : Int) ≤ 6 ∧ (6 : Int) ≤ 4294967295 ∧ (0 : Int) ≤ m ∧ m ≤ 18446744073709551615 ∧ (0 : Int) ≤ addU (addU
 (0 : Int) (mulU (IntKind.wrap IntKind.u64 t) (IntKind.wrap IntKind.u64 s) m) m) (mulU (IntKind.wrap IntKind.u64 t) (1 : Int) m) m ∧ addU (addU (0 : Int) (mulU (IntKind.wrap IntKind.u64 t) (IntKind.wrap IntKind.u64 s) m) m) (mulU (IntKind.wrap IntKind.u64 t) (1 : Int) m) m ≤ 18446744073709551615 ∧ (0 : Int) ≤ mulU (IntKind.wrap IntKind.u64 ty) (6 : Int) m ∧ mulU (IntKind.wrap IntKind.u64 ty) (6 : Int) m ≤ 18446744073709551615 ∧ (0 : Int) ≤ m ∧ m ≤ 18446744073709551615 ∧ brn (!decide (addU (addU (0 : Int) (mulU (IntKind.wrap IntKind.u64 t) (IntKind.wrap IntKind.u64 s) m) m) (mulU (IntKind.wrap IntKind.u64 t) (1 : Int) m) m + mulU (IntKind.wrap IntKind.u64 ty) (6 : Int) m ≤ m) || !decide (IntKind.wrap IntKind.u64 ty * 6 ≤ m)) (K [.imm (.int IntKind.u64 (0 : Int)), bo false]) ((0 : Int) ≤ IntKind.wrap IntKind.u64 c ∧ IntKind.wrap IntKind.u64 c ≤ 4294967295 ∧ (0 : Int) ≤ 1 ∧ (1 : Int) ≤ 4294967295 ∧ (0 : Int) ≤ m ∧ m ≤ 18446744073709551615 ∧ (0 : Int) ≤ addU (addU (addU (0 : Int) (mulU (IntKind.wrap IntKind.u64 t) (IntKind.wrap IntKind.u64 s) m) m) (mulU (IntKind.wrap IntKind.u64 t) (1 : Int) m) m) (mulU (IntKind.wrap IntKind.u64 ty) (6 : Int) m) m ∧ addU (addU (addU (0 : Int) (mulU
 (IntKind.wrap IntKind.u64 t) (IntKind.wrap IntKind.u64 s) m) m) (mulU (IntKind.wrap IntKind.u64 t) (1 : Int) m) m) (mulU (IntKind.wrap IntKind.u64 ty) (6 : Int) m) m ≤ 18446744073709551615 ∧ (0 : Int) ≤ mulU (IntKind.wrap IntKind.u64 c) (1 : Int) m ∧ mulU (IntKind.wrap IntKind.u64 c) (1 : Int) m ≤ 18446744073709551615 ∧ (0 : Int) ≤ m ∧ m ≤ 18446744073709551615 ∧ brn (!decide (addU (addU (addU (0 : Int) (mulU (IntKind.wrap IntKind.u64 t) (IntKind.wrap IntKind.u64 s) m) m) (mulU (IntKind.wrap IntKind.u64 t) (1 : Int) m) m) (mulU (IntKind.wrap IntKind.u64 ty) (6 : Int) m) m + mulU (IntKind.wrap IntKind.u64 c) (1 : Int) m ≤ m) || !decide (IntKind.wrap IntKind.u64 c * 1 ≤ m)) (K [.imm (.int IntKind.u64 (0 : Int)), bo false]) ((0 : Int) ≤ IntKind.wrap IntKind.u64 l ∧ IntKind.wrap IntKind.u64 l ≤ 4294967295 ∧ (0 : Int) ≤ IntKind.wrap IntKind.u64 (IntKind.wrap IntKind.u64 s + 4) ∧ IntKind.wrap IntKind.u64 (IntKind.wrap IntKind.u64 s + 4) ≤ 4294967295 ∧ (0 : Int) ≤ m ∧ m ≤ 18446744073709551615 ∧ (0 : Int) ≤ addU (addU (addU (addU (0 : Int) (mulU (IntKind.wrap IntKind.u64 t) (IntKind.wrap IntKind.u64 s) m) m) (mulU (IntKind.wrap IntKind.u64 t) (1 : Int) m) m) (mulU (IntKind.wrap IntKind.u64
 ty) (6 : Int) m) m) (mulU (IntKind.wrap IntKind.u64 c) (1 : Int) m) m ∧ addU (addU (addU (addU (0 : Int) (mulU (IntKind.wrap IntKind.u64 t) (IntKind.wrap IntKind.u64 s) m) m) (mulU (IntKind.wrap IntKind.u64 t) (1 : Int) m) m) (mulU (IntKind.wrap IntKind.u64 ty) (6 : Int) m) m) (mulU (IntKind.wrap IntKind.u64 c) (1 : Int) m) m ≤ 18446744073709551615 ∧ (0 : Int) ≤ mulU (IntKind.wrap IntKind.u64 l) (IntKind.wrap IntKind.u64 (IntKind.wrap IntKind.u64 s + 4)) m ∧ mulU (IntKind.wrap IntKind.u64 l) (IntKind.wrap IntKind.u64 (IntKind.wrap IntKind.u64 s + 4)) m ≤ 18446744073709551615 ∧ (0 : Int) ≤ m ∧ m ≤ 18446744073709551615 ∧ brn (!decide (addU (addU (addU (addU (0 : Int) (mulU (IntKind.wrap IntKind.u64 t) (IntKind.wrap IntKind.u64 s) m) m) (mulU (IntKind.wrap IntKind.u64 t) (1 : Int) m) m) (mulU (IntKind.wrap IntKind.u64 ty) (6 : Int) m) m) (mulU (IntKind.wrap IntKind.u64 c) (1 : Int) m) m + mulU (IntKind.wrap IntKind.u64 l) (IntKind.wrap IntKind.u64 (IntKind.wrap IntKind.u64 s + 4)) m ≤ m) || !decide (IntKind.wrap IntKind.u64 l * IntKind.wrap IntKind.u64 (IntKind.wrap IntKind.u64 s + 4) ≤ m)) (K [.imm (.int IntKind.u64 (0 : Int)), bo false]) ((0 : Int) ≤ IntKind.wrap IntKind.u64 is ∧
 IntKind.wrap IntKind.u64 is ≤ 4294967295 ∧ (0 : Int) ≤ 1 ∧ (1 : Int) ≤ 4294967295 ∧ (0 : Int) ≤ m ∧ m ≤ 18446744073709551615 ∧ (0 : Int) ≤ addU (addU (addU (addU (addU (0 : Int) (mulU (IntKind.wrap IntKind.u64 t) (IntKind.wrap IntKind.u64 s) m) m) (mulU (IntKind.wrap IntKind.u64 t) (1 : Int) m) m) (mulU (IntKind.wrap IntKind.u64 ty) (6 : Int) m) m) (mulU (IntKind.wrap IntKind.u64 c) (1 : Int) m) m) (mulU (IntKind.wrap IntKind.u64 l) (IntKind.wrap IntKind.u64 (IntKind.wrap IntKind.u64 s + 4)) m) m ∧ addU (addU (addU (addU (addU (0 : Int) (mulU (IntKind.wrap IntKind.u64 t) (IntKind.wrap IntKind.u64 s) m) m) (mulU (IntKind.wrap IntKind.u64 t) (1 : Int) m) m) (mulU (IntKind.wrap IntKind.u64 ty) (6 : Int) m) m) (mulU (IntKind.wrap IntKind.u64 c) (1 : Int) m) m) (mulU (IntKind.wrap IntKind.u64 l) (IntKind.wrap IntKind.u64 (IntKind.wrap IntKind.u64 s + 4)) m) m ≤ 18446744073709551615 ∧ (0 : Int) ≤ mulU (IntKind.wrap IntKind.u64 is) (1 : Int) m ∧ mulU (IntKind.wrap IntKind.u64 is) (1 : Int) m ≤ 18446744073709551615 ∧ (0 : Int) ≤ m ∧ m ≤ 18446744073709551615 ∧ brn (!decide (addU (addU (addU (addU (addU (0 : Int) (mulU (IntKind.wrap IntKind.u64 t) (IntKind.wrap IntKind.u64 s) m) m) (mulU
 (IntKind.wrap IntKind.u64 t) (1 : Int) m) m) (mulU (IntKind.wrap IntKind.u64 ty) (6 : Int) m) m) (mulU (IntKind.wrap IntKind.u64 c) (1 : Int) m) m) (mulU (IntKind.wrap IntKind.u64 l) (IntKind.wrap IntKind.u64 (IntKind.wrap IntKind.u64 s + 4)) m) m + mulU (IntKind.wrap IntKind.u64 is) (1 : Int) m ≤ m) || !decide (IntKind.wrap IntKind.u64 is * 1 ≤ m)) (K [.imm (.int IntKind.u64 (0 : Int)), bo false]) ((0 : Int) ≤ IntKind.wrap IntKind.u64 iu ∧ IntKind.wrap IntKind.u64 iu ≤ 4294967295 ∧ (0 : Int) ≤ 1 ∧ (1 : Int) ≤ 4294967295 ∧ (0 : Int) ≤ m ∧ m ≤ 18446744073709551615 ∧ (0 : Int) ≤ addU (addU (addU (addU (addU (addU (0 : Int) (mulU (IntKind.wrap IntKind.u64 t) (IntKind.wrap IntKind.u64 s) m) m) (mulU (IntKind.wrap IntKind.u64 t) (1 : Int) m) m) (mulU (IntKind.wrap IntKind.u64 ty) (6 : Int) m) m) (mulU (IntKind.wrap IntKind.u64 c) (1 : Int) m) m) (mulU (IntKind.wrap IntKind.u64 l) (IntKind.wrap IntKind.u64 (IntKind.wrap IntKind.u64 s + 4)) m) m) (mulU (IntKind.wrap IntKind.u64 is) (1 : Int) m) m ∧ addU (addU (addU (addU (addU (addU (0 : Int) (mulU (IntKind.wrap IntKind.u64 t) (IntKind.wrap IntKind.u64 s) m) m) (mulU (IntKind.wrap IntKind.u64 t) (1 : Int) m) m) (mulU (IntKind.wrap
 IntKind.u64 ty) (6 : Int) m) m) (mulU (IntKind.wrap IntKind.u64 c) (1 : Int) m) m) (mulU (IntKind.wrap IntKind.u64 l) (IntKind.wrap IntKind.u64 (IntKind.wrap IntKind.u64 s + 4)) m) m) (mulU (IntKind.wrap IntKind.u64 is) (1 : Int) m) m ≤ 18446744073709551615 ∧ (0 : Int) ≤ mulU (IntKind.wrap IntKind.u64 iu) (1 : Int) m ∧ mulU (IntKind.wrap IntKind.u64 iu) (1 : Int) m ≤ 18446744073709551615 ∧ (0 : Int) ≤ m ∧ m ≤ 18446744073709551615 ∧ brn (!decide (addU (addU (addU (addU (addU (addU (0 : Int) (mulU (IntKind.wrap IntKind.u64 t) (IntKind.wrap IntKind.u64 s) m) m) (mulU (IntKind.wrap IntKind.u64 t) (1 : Int) m) m) (mulU (IntKind.wrap IntKind.u64 ty) (6 : Int) m) m) (mulU (IntKind.wrap IntKind.u64 c) (1 : Int) m) m) (mulU (IntKind.wrap IntKind.u64 l) (IntKind.wrap IntKind.u64 (IntKind.wrap IntKind.u64 s + 4)) m) m) (mulU (IntKind.wrap IntKind.u64 is) (1 : Int) m) m + mulU (IntKind.wrap IntKind.u64 iu) (1 : Int) m ≤ m) || !decide (IntKind.wrap IntKind.u64 iu * 1 ≤ m)) (K [.imm (.int IntKind.u64 (0 : Int)), bo false]) (brn (!decide (addU (addU (addU (addU (addU (addU (0 : Int) (mulU (IntKind.wrap IntKind.u64 t) (IntKind.wrap IntKind.u64 s) m) m) (mulU (IntKind.wrap IntKind.u64 t) (1 : Int)
 m) m) (mulU (IntKind.wrap IntKind.u64 ty) (6 : Int) m) m) (mulU (IntKind.wrap IntKind.u64 c) (1 : Int) m) m) (mulU (IntKind.wrap IntKind.u64 l) (IntKind.wrap IntKind.u64 (IntKind.wrap IntKind.u64 s + 4)) m) m) (mulU (IntKind.wrap IntKind.u64 is) (1 : Int) m) m + mulU (IntKind.wrap IntKind.u64 iu) (1 : Int) m ≤ m)) (K [.imm (.int IntKind.u64 (0 : Int)), bo false]) (K [.imm (.int IntKind.u64 (addU (addU (addU (addU (addU (addU (addU (0 : Int) (mulU (IntKind.wrap IntKind.u64 t) (IntKind.wrap IntKind.u64 s) m) m) (mulU (IntKind.wrap IntKind.u64 t) (1 : Int) m) m) (mulU (IntKind.wrap IntKind.u64 ty) (6 : Int) m) m) (mulU (IntKind.wrap IntKind.u64 c) (1 : Int) m) m) (mulU (IntKind.wrap IntKind.u64 l) (IntKind.wrap IntKind.u64 (IntKind.wrap IntKind.u64 s + 4)) m) m) (mulU (IntKind.wrap IntKind.u64 is) (1 : Int) m) m) (mulU (IntKind.wrap IntKind.u64 iu) (1 : Int) m) m)), bo true])))))))); ((0 : Int) ≤ IntKind.wrap IntKind.u64 t ∧ IntKind.wrap IntKind.u64 t ≤ 4294967295 ∧ (0 : Int) ≤ IntKind.wrap IntKind.u64 s ∧ IntKind.wrap IntKind.u64 s ≤ 4294967295 ∧ (0 : Int) ≤ m ∧ m ≤ 18446744073709551615 ∧ (0 : Int) ≤ 0 ∧ (0 : Int) ≤ 18446744073709551615 ∧ (0 : Int) ≤ mulU (IntKind.wrap IntKind.u64 t)
 (IntKind.wrap IntKind.u64 s) m ∧ mulU (IntKind.wrap IntKind.u64 t) (IntKind.wrap IntKind.u64 s) m ≤ 18446744073709551615 ∧ (0 : Int) ≤ m ∧ m ≤ 18446744073709551615 ∧ brn (!decide ((0 : Int) + mulU (IntKind.wrap IntKind.u64 t) (IntKind.wrap IntKind.u64 s) m ≤ m) || !decide (IntKind.wrap IntKind.u64 t * IntKind.wrap IntKind.u64 s ≤ m)) (K [.imm (.int IntKind.u64 (0 : Int)), bo false]) R1) ∧ (0 : Int) ≤ IntKind.wrap IntKind.u64 t ∧ IntKind.wrap IntKind.u64 t ≤ 4294967295 ∧ (0 : Int) ≤ IntKind.wrap IntKind.u64 s ∧ IntKind.wrap IntKind.u64 s ≤ 4294967295 ∧ (0 : Int) ≤ m ∧ m ≤ 18446744073709551615 ∧ (0 : Int) ≤ 0 ∧ (0 : Int) ≤ 18446744073709551615 ∧ (0 : Int) ≤ mulU (IntKind.wrap IntKind.u64 t) (IntKind.wrap IntKind.u64 s) m ∧ mulU (IntKind.wrap IntKind.u64 t) (IntKind.wrap IntKind.u64 s) m ≤ 18446744073709551615 ∧ (0 : Int) ≤ m ∧ m ≤ 18446744073709551615 ∧ brn (!decide ((0 : Int) + mulU (IntKind.wrap IntKind.u64 t) (IntKind.wrap IntKind.u64 s) m ≤ m) || !decide (IntKind.wrap IntKind.u64 t * IntKind.wrap IntKind.u64 s ≤ m)) (K [.imm (.int IntKind.u64 (0 : Int)), bo false]) R1) := by kernel_rfl
theorem f29_in (v : Int) (iu : Int) (is : Int) (l : Int) (t : Int) (ty : Int) (c : Int) (s : Int) (K : List AV → Prop) : evSpec K2u Tryz.f83 [hdAV v iu is l t ty c, i64 s] K = (okH (Hd.mk v iu is l t ty c) ∧ sz48 s ∧ K [.agg [.imm (.int IntKind.u64 (0 : Int)), .imm (.int IntKind.u64 (IntKind.wrap IntKind.u64 ((0 : Int) + l0 (Hd.mk v iu is l t ty c) s))), .imm (.int IntKind.u64 (IntKind.wrap IntKind.u64 (IntKind.wrap IntKind.u64 ((0 : Int) + l0 (Hd.mk v iu is l t ty c) s) + l1 (Hd.mk v iu is l t ty c)))), .imm (.int IntKind.u64 (IntKind.wrap IntKind.u64 (IntKind.wrap IntKind.u64 (IntKind.wrap IntKind.u64 ((0 : Int) + l0 (Hd.mk v iu is l t ty c) s) + l1 (Hd.mk v iu is l t ty c)) + l2 (Hd.mk v iu is l t ty c)))), .imm (.int IntKind.u64 (IntKind.wrap IntKind.u64 (IntKind.wrap IntKind.u64 (IntKind.wrap IntKind.u64 (IntKind.wrap IntKind.u64 ((0 : Int) + l0 (Hd.mk v iu is l t ty c) s) + l1 (Hd.mk v iu is l t ty c)) + l2 (Hd.mk v iu is l t ty c)) + l3 (Hd.mk v iu is l t ty c)))), .imm (.int IntKind.u64 (IntKind.wrap IntKind.u64 (IntKind.wrap IntKind.u64 (IntKind.wrap IntKind.u64 (IntKind.wrap IntKind.u64 (IntKind.wrap IntKind.u64 ((0 : Int) + l0 (Hd.mk v iu is l t ty c) s) + l1 (Hd.mk v iu
 is l t ty c)) + l2 (Hd.mk v iu is l t ty c)) + l3 (Hd.mk v iu is l t ty c)) + l4 (Hd.mk v iu is l t ty c) s))), .imm (.int IntKind.u64 (IntKind.wrap IntKind.u64 (IntKind.wrap IntKind.u64 (IntKind.wrap IntKind.u64 (IntKind.wrap IntKind.u64 (IntKind.wrap IntKind.u64 (IntKind.wrap IntKind.u64 ((0 : Int) + l0 (Hd.mk v iu is l t ty c) s) + l1 (Hd.mk v iu is l t ty c)) + l2 (Hd.mk v iu is l t ty c)) + l3 (Hd.mk v iu is l t ty c)) + l4 (Hd.mk v iu is l t ty c) s) + l5 (Hd.mk v iu is l t ty c)))), .imm (.int IntKind.u64 (IntKind.wrap IntKind.u64 (IntKind.wrap IntKind.u64 (IntKind.wrap IntKind.u64 (IntKind.wrap IntKind.u64 (IntKind.wrap IntKind.u64 (IntKind.wrap IntKind.u64 (IntKind.wrap IntKind.u64 ((0 : Int) + l0 (Hd.mk v iu is l t ty c) s) + l1 (Hd.mk v iu is l t ty c)) + l2 (Hd.mk v iu is l t ty c)) + l3 (Hd.mk v iu is l t ty c)) + l4 (Hd.mk v iu is l t ty c) s) + l5 (Hd.mk v iu is l t ty c)) + l6 (Hd.mk v iu is l t ty c))))]]) := by kernel_rfl
theorem f28_in (d : List UInt8) (p : Int) (e : Int) (a : Int) (n : Int) (K : List AV → Prop) : evSpec K2 Tryz.f82 [curAV d p e a, i64 n] K = (let R1 : Prop := K [AV.new (IV.bytes (List.map u8 [] ++ List.take ((Cu.p (advU (Cu.mk d p e a) n)).toNat - p.toNat) (List.drop p.toNat d))), .agg [by' (Cu.d (advU (Cu.mk d p e a) n)), i64 (Cu.p (advU (Cu.mk d p e a) n)), i64 (Cu.e (advU (Cu.mk d p e a) n)), i64 (Cu.a (advU (Cu.mk d p e a) n))]]; let R2 : Prop := ((0 : Int) ≤ p ∧ p ≤ Cu.p (advU (Cu.mk d p e a) n) ∧ Cu.p (advU (Cu.mk d p e a) n) ≤ (d.length : Int) ∧ ((List.map u8 []).length + (List.take ((Cu.p (advU (Cu.mk d p e a) n)).toNat - p.toNat) (List.drop p.toNat d)).length) * 1 ≤ 140737488355328 ∧ (List.map u8 []).length + (List.take ((Cu.p (advU (Cu.mk d p e a) n)).toNat - p.toNat) (List.drop p.toNat d)).length ≤ 140737488355328 ∧ R1); let R3 : Prop := (((0 : Int) ≤ p ∧ p ≤ Cu.p (advU (Cu.mk d p e a) n) ∧ Cu.p (advU (Cu.mk d p e a) n) ≤ (d.length : Int) ∧ (((List.map u8 []).length + (List.take ((Cu.p (advU (Cu.mk d p e a) n)).toNat - p.toNat) (List.drop p.toNat d)).length) * 1 ≤ 140737488355328 ∧ (List.map u8 []).length + (List.take ((Cu.p (advU (Cu.mk d p e a) n)).toNat - p.toNat)
 (List.drop p.toNat d)).length ≤ 140737488355328 ∧ R1) ∧ ((List.map u8 []).length + (List.take ((Cu.p (advU (Cu.mk d p e a) n)).toNat - p.toNat) (List.drop p.toNat d)).length) * 1 ≤ 140737488355328 ∧ (List.map u8 []).length + (List.take ((Cu.p (advU (Cu.mk d p e a) n)).toNat - p.toNat) (List.drop p.toNat d)).length ≤ 140737488355328 ∧ R1) ∧ (0 : Int) ≤ p ∧ p ≤ Cu.p (advU (Cu.mk d p e a) n) ∧ Cu.p (advU (Cu.mk d p e a) n) ≤ (d.length : Int) ∧ ((List.map u8 []).length + (List.take ((Cu.p (advU (Cu.mk d p e a) n)).toNat - p.toNat) (List.drop p.toNat d)).length) * 1 ≤ 140737488355328 ∧ (List.map u8 []).length + (List.take ((Cu.p (advU (Cu.mk d p e a) n)).toNat - p.toNat) (List.drop p.toNat d)).length ≤ 140737488355328 ∧ R1); let R4 : Prop := (R3 ∧ ((0 : Int) ≤ p ∧ p ≤ Cu.p (advU (Cu.mk d p e a) n) ∧ Cu.p (advU (Cu.mk d p e a) n) ≤ (d.length : Int) ∧ ((((List.map u8 []).length + (List.take ((Cu.p (advU (Cu.mk d p e a) n)).toNat - p.toNat) (List.drop p.toNat d)).length) * 1 ≤ 140737488355328 ∧ (List.map u8 []).length + (List.take ((Cu.p (advU (Cu.mk d p e a) n)).toNat - p.toNat) (List.drop p.toNat d)).length ≤ 140737488355328 ∧ R1) ∧ ((List.map u8 []).length + (List.take ((Cu.p (advU
 (Cu.mk d p e a) n)).toNat - p.toNat) (List.drop p.toNat d)).length) * 1 ≤ 140737488355328 ∧ (List.map u8 []).length + (List.take ((Cu.p (advU (Cu.mk d p e a) n)).toNat - p.toNat) (List.drop p.toNat d)).length ≤ 140737488355328 ∧ R1) ∧ ((List.map u8 []).length + (List.take ((Cu.p (advU (Cu.mk d p e a) n)).toNat - p.toNat) (List.drop p.toNat d)).length) * 1 ≤ 140737488355328 ∧ (List.map u8 []).length + (List.take ((Cu.p (advU (Cu.mk d p e a) n)).toNat - p.toNat) (List.drop p.toNat d)).length ≤ 140737488355328 ∧ R1) ∧ R2 ∧ (0 : Int) ≤ p ∧ p ≤ Cu.p (advU (Cu.mk d p e a) n) ∧ Cu.p (advU (Cu.mk d p e a) n) ≤ (d.length : Int) ∧ ((List.map u8 []).length + (List.take ((Cu.p (advU (Cu.mk d p e a) n)).toNat - p.toNat) (List.drop p.toNat d)).length) * 1 ≤ 140737488355328 ∧ (List.map u8 []).length + (List.take ((Cu.p (advU (Cu.mk d p e a) n)).toNat - p.toNat) (List.drop p.toNat d)).length ≤ 140737488355328 ∧ R1); let R5 : Prop := ((R3 ∧ (0 : Int) ≤ p ∧ p ≤ Cu.p (advU (Cu.mk d p e a) n) ∧ Cu.p (advU (Cu.mk d p e a) n) ≤ (d.length : Int) ∧ ((List.map u8 []).length + (List.take ((Cu.p (advU (Cu.mk d p e a) n)).toNat - p.toNat) (List.drop p.toNat d)).length) * 1 ≤ 140737488355328 ∧ (List.map u8
 []).length + (List.take ((Cu.p (advU (Cu.mk d p e a) n)).toNat - p.toNat) (List.drop p.toNat d)).length ≤ 140737488355328 ∧ R1) ∧ (R3 ∧ R4 ∧ R2 ∧ R2 ∧ (0 : Int) ≤ p ∧ p ≤ Cu.p (advU (Cu.mk d p e a) n) ∧ Cu.p (advU (Cu.mk d p e a) n) ≤ (d.length : Int) ∧ ((List.map u8 []).length + (List.take ((Cu.p (advU (Cu.mk d p e a) n)).toNat - p.toNat) (List.drop p.toNat d)).length) * 1 ≤ 140737488355328 ∧ (List.map u8 []).length + (List.take ((Cu.p (advU (Cu.mk d p e a) n)).toNat - p.toNat) (List.drop p.toNat d)).length ≤ 140737488355328 ∧ R1) ∧ ((R3 ∧ (0 : Int) ≤ p ∧ p ≤ Cu.p (advU (Cu.mk d p e a) n) ∧ Cu.p (advU (Cu.mk d p e a) n) ≤ (d.length : Int) ∧ ((List.map u8 []).length + (List.take ((Cu.p (advU (Cu.mk d p e a) n)).toNat - p.toNat) (List.drop p.toNat d)).length) * 1 ≤ 140737488355328 ∧ (List.map u8 []).length + (List.take ((Cu.p (advU (Cu.mk d p e a) n)).toNat - p.toNat) (List.drop p.toNat d)).length ≤ 140737488355328 ∧ R1) ∧ R4 ∧ R2 ∧ R2 ∧ (0 : Int) ≤ p ∧ p ≤ Cu.p (advU (Cu.mk d p e a) n) ∧ Cu.p (advU (Cu.mk d p e a) n) ≤ (d.length : Int) ∧ ((List.map u8 []).length + (List.take ((Cu.p (advU (Cu.mk d p e a) n)).toNat - p.toNat) (List.drop p.toNat d)).length) * 1 ≤ 140737488355328 ∧
 (List.map u8 []).length + (List.take ((Cu.p (advU (Cu.mk d p e a) n)).toNat - p.toNat) (List.drop p.toNat d)).length ≤ 140737488355328 ∧ R1) ∧ R2 ∧ (R2 ∧ R2 ∧ (0 : Int) ≤ p ∧ p ≤ Cu.p (advU (Cu.mk d p e a) n) ∧ Cu.p (advU (Cu.mk d p e a) n) ≤ (d.length : Int) ∧ ((List.map u8 []).length + (List.take ((Cu.p (advU (Cu.mk d p e a) n)).toNat - p.toNat) (List.drop p.toNat d)).length) * 1 ≤ 140737488355328 ∧ (List.map u8 []).length + (List.take ((Cu.p (advU (Cu.mk d p e a) n)).toNat - p.toNat) (List.drop p.toNat d)).length ≤ 140737488355328 ∧ R1) ∧ R2 ∧ R2 ∧ (0 : Int) ≤ p ∧ p ≤ Cu.p (advU (Cu.mk d p e a) n) ∧ Cu.p (advU (Cu.mk d p e a) n) ≤ (d.length : Int) ∧ ((List.map u8 []).length + (List.take ((Cu.p (advU (Cu.mk d p e a) n)).toNat - p.toNat) (List.drop p.toNat d)).length) * 1 ≤ 140737488355328 ∧ (List.map u8 []).length + (List.take ((Cu.p (advU (Cu.mk d p e a) n)).toNat - p.toNat) (List.drop p.toNat d)).length ≤ 140737488355328 ∧ R1); let R6 : Prop := (R2 ∧ R2 ∧ (0 : Int) ≤ p ∧ p ≤ Cu.p (advU (Cu.mk d p e a) n) ∧ Cu.p (advU (Cu.mk d p e a) n) ≤ (d.length : Int) ∧ ((List.map u8 []).length + (List.take ((Cu.p (advU (Cu.mk d p e a) n)).toNat - p.toNat) (List.drop p.toNat d)).length) * 1 ≤
 140737488355328 ∧ (List.map u8 []).length + (List.take ((Cu.p (advU (Cu.mk d p e a) n)).toNat - p.toNat) (List.drop p.toNat d)).length ≤ 140737488355328 ∧ R1); let R7 : Prop := (R3 ∧ R4 ∧ R2 ∧ R2 ∧ (0 : Int) ≤ p ∧ p ≤ Cu.p (advU (Cu.mk d p e a) n) ∧ Cu.p (advU (Cu.mk d p e a) n) ≤ (d.length : Int) ∧ ((List.map u8 []).length + (List.take ((Cu.p (advU (Cu.mk d p e a) n)).toNat - p.toNat) (List.drop p.toNat d)).length) * 1 ≤ 140737488355328 ∧ (List.map u8 []).length + (List.take ((Cu.p (advU (Cu.mk d p e a) n)).toNat - p.toNat) (List.drop p.toNat d)).length ≤ 140737488355328 ∧ R1); let R8 : Prop := (R2 ∧ R6 ∧ R2 ∧ R2 ∧ (0 : Int) ≤ p ∧ p ≤ Cu.p (advU (Cu.mk d p e a) n) ∧ Cu.p (advU (Cu.mk d p e a) n) ≤ (d.length : Int) ∧ ((List.map u8 []).length + (List.take ((Cu.p (advU (Cu.mk d p e a) n)).toNat - p.toNat) (List.drop p.toNat d)).length) * 1 ≤ 140737488355328 ∧ (List.map u8 []).length + (List.take ((Cu.p (advU (Cu.mk d p e a) n)).toNat - p.toNat) (List.drop p.toNat d)).length ≤ 140737488355328 ∧ R1); okU (Cu.mk d p e a) ∧ brn (!advOk (Cu.mk d p e a) n) (K [AV.new (IV.bytes []), .agg [by' (Cu.d (advU (Cu.mk d p e a) n)), i64 (Cu.p (advU (Cu.mk d p e a) n)), i64 (Cu.e (advU (Cu.mk d p e
 a) n)), i64 (Cu.a (advU (Cu.mk d p e a) n))]]) ((R3 ∧ (0 : Int) ≤ p ∧ p ≤ Cu.p (advU (Cu.mk d p e a) n) ∧ Cu.p (advU (Cu.mk d p e a) n) ≤ (d.length : Int) ∧ ((List.map u8 []).length + (List.take ((Cu.p (advU (Cu.mk d p e a) n)).toNat - p.toNat) (List.drop p.toNat d)).length) * 1 ≤ 140737488355328 ∧ (List.map u8 []).length + (List.take ((Cu.p (advU (Cu.mk d p e a) n)).toNat - p.toNat) (List.drop p.toNat d)).length ≤ 140737488355328 ∧ R1) ∧ (R3 ∧ R7 ∧ R7 ∧ R2 ∧ R6 ∧ R2 ∧ R2 ∧ (0 : Int) ≤ p ∧ p ≤ Cu.p (advU (Cu.mk d p e a) n) ∧ Cu.p (advU (Cu.mk d p e a) n) ≤ (d.length : Int) ∧ ((List.map u8 []).length + (List.take ((Cu.p (advU (Cu.mk d p e a) n)).toNat - p.toNat) (List.drop p.toNat d)).length) * 1 ≤ 140737488355328 ∧ (List.map u8 []).length + (List.take ((Cu.p (advU (Cu.mk d p e a) n)).toNat - p.toNat) (List.drop p.toNat d)).length ≤ 140737488355328 ∧ R1) ∧ R5 ∧ R5 ∧ R2 ∧ R8 ∧ R8 ∧ R2 ∧ R6 ∧ R2 ∧ R2 ∧ (0 : Int) ≤ p ∧ p ≤ Cu.p (advU (Cu.mk d p e a) n) ∧ Cu.p (advU (Cu.mk d p e a) n) ≤ (d.length : Int) ∧ ((List.map u8 []).length + (List.take ((Cu.p (advU (Cu.mk d p e a) n)).toNat - p.toNat) (List.drop p.toNat d)).length) * 1 ≤ 140737488355328 ∧ (List.map u8 []).length + (List.take
 ((Cu.p (advU (Cu.mk d p e a) n)).toNat - p.toNat) (List.drop p.toNat d)).length ≤ 140737488355328 ∧ R1)) := by kernel_rfl
end Y27
set_option maxRecDepth 100000
namespace Y27
open Go Go.AE Go.Proofs E6
attribute [local irreducible] loopK evCode evSpec loopB norm
theorem f42_lp (a : List Int) (b : List Int) (i : Nat) (k : AX → St → Prop) : evCode K0 (loopB (bodyOf Tryz.f62) 0) (hA (ii a) (ii b) i) k = (brn (decide ((↑i : Int) < (a.length : Int))) ((0 : Int) ≤ (↑i : Int) ∧ (↑i : Int) < (a.length : Int) ∧ (0 : Int) ≤ (↑i : Int) ∧ (↑i : Int) < (b.length : Int) ∧ brn (List.getD a (↑i : Int).toNat (0 : Int) != List.getD b (↑i : Int).toNat (0 : Int)) (k AX.ret (St.mk (lapp [.imm (.ints IntKind.i64 a), .imm (.ints IntKind.i64 b), .dead, .dead, bo false, i64 (↑i : Int)] (lapp (dN 5) [i64 (↑i : Int), .imm (.ints IntKind.i64 a), i64 (a.length : Int), bo (decide ((↑i : Int) < (a.length : Int))), .dead, .dead, .imm (.ints IntKind.i64 a), i64 (↑i : Int), AV.elv [IV.int .i64 (List.getD a (↑i : Int).toNat (0 : Int))], i64 (List.getD a (↑i : Int).toNat (0 : Int)), .imm (.ints IntKind.i64 b), i64 (↑i : Int), AV.elv [IV.int .i64 (List.getD b (↑i : Int).toNat (0 : Int))], i64 (List.getD b (↑i : Int).toNat (0 : Int)), bo (List.getD a (↑i : Int).toNat (0 : Int) != List.getD b (↑i : Int).toNat (0 : Int))])) [] 0 [])) (k AX.normal (St.mk (lapp [.imm (.ints IntKind.i64 a), .imm (.ints IntKind.i64 b), .dead, .dead, .dead, i64 (IntKind.wrap .i64 ((↑i : Int) + 1))]
 (lapp (dN 5) [i64 (↑i : Int), .imm (.ints IntKind.i64 a), i64 (a.length : Int), bo (decide ((↑i : Int) < (a.length : Int))), i64 (↑i : Int), i64 (IntKind.wrap .i64 ((↑i : Int) + 1)), .imm (.ints IntKind.i64 a), i64 (↑i : Int), AV.elv [IV.int .i64 (List.getD a (↑i : Int).toNat (0 : Int))], i64 (List.getD a (↑i : Int).toNat (0 : Int)), .imm (.ints IntKind.i64 b), i64 (↑i : Int), AV.elv [IV.int .i64 (List.getD b (↑i : Int).toNat (0 : Int))], i64 (List.getD b (↑i : Int).toNat (0 : Int)), bo (List.getD a (↑i : Int).toNat (0 : Int) != List.getD b (↑i : Int).toNat (0 : Int))])) [] 0 []))) (k (AX.exit 0) (St.mk (lapp [.imm (.ints IntKind.i64 a), .imm (.ints IntKind.i64 b), .dead, .dead, .dead, i64 (↑i : Int)] (lapp (dN 5) (lapp [i64 (↑i : Int), .imm (.ints IntKind.i64 a), i64 (a.length : Int), bo (decide ((↑i : Int) < (a.length : Int)))] (dN 11)))) [] 0 []))) := by kernel_rfl
theorem f44_lp (a : List (List IV)) (b : List (List IV)) (i : Nat) (k : AX → St → Prop) : evCode K0 (loopB (bodyOf Tryz.f65) 0) (hA (ll a) (ll b) i) k = (brn (decide ((↑i : Int) < (a.length : Int))) ((0 : Int) ≤ (↑i : Int) ∧ (↑i : Int) < (a.length : Int) ∧ kcells (List.getD a (↑i : Int).toNat []) 0 (lapp [CK.int IntKind.i64] (lapp [CK.int IntKind.i32] [])) = List.getD a (↑i : Int).toNat [] ∧ (0 : Int) ≤ (↑i : Int) ∧ (↑i : Int) < (b.length : Int) ∧ kcells (List.getD b (↑i : Int).toNat []) 0 (lapp [CK.int IntKind.i64] (lapp [CK.int IntKind.i32] [])) = List.getD b (↑i : Int).toNat [] ∧ brn (!(ivInt (ivNth (List.getD a (↑i : Int).toNat []) 0) == ivInt (ivNth (List.getD b (↑i : Int).toNat []) 0) && (ivInt (ivNth (List.getD a (↑i : Int).toNat []) (0 + 1)) == ivInt (ivNth (List.getD b (↑i : Int).toNat []) (0 + 1)) && true))) (k AX.ret (St.mk (lapp [.imm (.sl 2 a), .imm (.sl 2 b), .dead, .dead, bo false, i64 (↑i : Int)] (lapp (dN 5) [i64 (↑i : Int), .imm (.sl 2 a), i64 (a.length : Int), bo (decide ((↑i : Int) < (a.length : Int))), .dead, .dead, .imm (.sl 2 a), i64 (↑i : Int), AV.elv [IV.int .i64 (ivInt (ivNth (List.getD a (↑i : Int).toNat []) 0)), IV.int IntKind.i32 (ivInt (ivNth (List.getD
 a (↑i : Int).toNat []) (0 + 1)))], .agg [i64 (ivInt (ivNth (List.getD a (↑i : Int).toNat []) 0)), .imm (.int IntKind.i32 (ivInt (ivNth (List.getD a (↑i : Int).toNat []) (0 + 1))))], .imm (.sl 2 b), i64 (↑i : Int), AV.elv [IV.int .i64 (ivInt (ivNth (List.getD b (↑i : Int).toNat []) 0)), IV.int IntKind.i32 (ivInt (ivNth (List.getD b (↑i : Int).toNat []) (0 + 1)))], .agg [i64 (ivInt (ivNth (List.getD b (↑i : Int).toNat []) 0)), .imm (.int IntKind.i32 (ivInt (ivNth (List.getD b (↑i : Int).toNat []) (0 + 1))))], bo (!(ivInt (ivNth (List.getD a (↑i : Int).toNat []) 0) == ivInt (ivNth (List.getD b (↑i : Int).toNat []) 0) && (ivInt (ivNth (List.getD a (↑i : Int).toNat []) (0 + 1)) == ivInt (ivNth (List.getD b (↑i : Int).toNat []) (0 + 1)) && true)))])) [] 0 [])) (k AX.normal (St.mk (lapp [.imm (.sl 2 a), .imm (.sl 2 b), .dead, .dead, .dead, i64 (IntKind.wrap .i64 ((↑i : Int) + 1))] (lapp (dN 5) [i64 (↑i : Int), .imm (.sl 2 a), i64 (a.length : Int), bo (decide ((↑i : Int) < (a.length : Int))), i64 (↑i : Int), i64 (IntKind.wrap .i64 ((↑i : Int) + 1)), .imm (.sl 2 a), i64 (↑i : Int), AV.elv [IV.int .i64 (ivInt (ivNth (List.getD a (↑i : Int).toNat []) 0)), IV.int IntKind.i32 (ivInt (ivNth
 (List.getD a (↑i : Int).toNat []) (0 + 1)))], .agg [i64 (ivInt (ivNth (List.getD a (↑i : Int).toNat []) 0)), .imm (.int IntKind.i32 (ivInt (ivNth (List.getD a (↑i : Int).toNat []) (0 + 1))))], .imm (.sl 2 b), i64 (↑i : Int), AV.elv [IV.int .i64 (ivInt (ivNth (List.getD b (↑i : Int).toNat []) 0)), IV.int IntKind.i32 (ivInt (ivNth (List.getD b (↑i : Int).toNat []) (0 + 1)))], .agg [i64 (ivInt (ivNth (List.getD b (↑i : Int).toNat []) 0)), .imm (.int IntKind.i32 (ivInt (ivNth (List.getD b (↑i : Int).toNat []) (0 + 1))))], bo (!(ivInt (ivNth (List.getD a (↑i : Int).toNat []) 0) == ivInt (ivNth (List.getD b (↑i : Int).toNat []) 0) && (ivInt (ivNth (List.getD a (↑i : Int).toNat []) (0 + 1)) == ivInt (ivNth (List.getD b (↑i : Int).toNat []) (0 + 1)) && true)))])) [] 0 []))) (k (AX.exit 0) (St.mk (lapp [.imm (.sl 2 a), .imm (.sl 2 b), .dead, .dead, .dead, i64 (↑i : Int)] (lapp (dN 5) (lapp [i64 (↑i : Int), .imm (.sl 2 a), i64 (a.length : Int), bo (decide ((↑i : Int) < (a.length : Int)))] (dN 11)))) [] 0 []))) := by kernel_rfl
theorem f45_lp (a : List Bool) (b : List Bool) (i : Nat) (k : AX → St → Prop) : evCode K0 (loopB (bodyOf Tryz.f66) 0) (hA (oo a) (oo b) i) k = (brn (decide ((↑i : Int) < (a.length : Int))) ((0 : Int) ≤ (↑i : Int) ∧ (↑i : Int) < (a.length : Int) ∧ (0 : Int) ≤ (↑i : Int) ∧ (↑i : Int) < (b.length : Int) ∧ brn (!List.getD a (↑i : Int).toNat false == List.getD b (↑i : Int).toNat false) (k AX.ret (St.mk (lapp [.imm (.bools a), .imm (.bools b), .dead, .dead, bo false, i64 (↑i : Int)] (lapp (dN 5) [i64 (↑i : Int), .imm (.bools a), i64 (a.length : Int), bo (decide ((↑i : Int) < (a.length : Int))), .dead, .dead, .imm (.bools a), i64 (↑i : Int), AV.elv [IV.bool (List.getD a (↑i : Int).toNat false)], bo (List.getD a (↑i : Int).toNat false), .imm (.bools b), i64 (↑i : Int), AV.elv [IV.bool (List.getD b (↑i : Int).toNat false)], bo (List.getD b (↑i : Int).toNat false), bo (!List.getD a (↑i : Int).toNat false == List.getD b (↑i : Int).toNat false)])) [] 0 [])) (k AX.normal (St.mk (lapp [.imm (.bools a), .imm (.bools b), .dead, .dead, .dead, i64 (IntKind.wrap .i64 ((↑i : Int) + 1))] (lapp (dN 5) [i64 (↑i : Int), .imm (.bools a), i64 (a.length : Int), bo (decide ((↑i : Int) < (a.length : Int))), i64
 (↑i : Int), i64 (IntKind.wrap .i64 ((↑i : Int) + 1)), .imm (.bools a), i64 (↑i : Int), AV.elv [IV.bool (List.getD a (↑i : Int).toNat false)], bo (List.getD a (↑i : Int).toNat false), .imm (.bools b), i64 (↑i : Int), AV.elv [IV.bool (List.getD b (↑i : Int).toNat false)], bo (List.getD b (↑i : Int).toNat false), bo (!List.getD a (↑i : Int).toNat false == List.getD b (↑i : Int).toNat false)])) [] 0 []))) (k (AX.exit 0) (St.mk (lapp [.imm (.bools a), .imm (.bools b), .dead, .dead, .dead, i64 (↑i : Int)] (lapp (dN 5) (lapp [i64 (↑i : Int), .imm (.bools a), i64 (a.length : Int), bo (decide ((↑i : Int) < (a.length : Int)))] (dN 11)))) [] 0 []))) := by kernel_rfl
theorem f33_lp (b : List UInt8) (s : Int) (l : List Int) (i : Int) (k : AX → St → Prop) : evCode K0 (loopB (bodyOf Tryz.f87) 0) (h33 b s l i) k = (brn (decide (IntKind.wrap .i64 (i + s) ≤ (b.length : Int))) ((b.length : Int) ≤ big ∧ (0 : Int) ≤ i ∧ i ≤ big ∧ (1 : Int) ≤ s ∧ s ≤ 8 ∧ (l.length + List.length [sgnN s.toNat (uintP b i.toNat s.toNat)]) * 8 ≤ 140737488355328 ∧ l.length + List.length [sgnN s.toNat (uintP b i.toNat s.toNat)] ≤ 140737488355328 ∧ k AX.normal (St.mk [by' b, i64 s, .dead, .dead, .dead, AV.row 0 1, i64 (IntKind.wrap .i64 (i + s)), i64 (sgnN s.toNat (uintP b i.toNat s.toNat)), bo (okR b i.toNat s.toNat), i64 i, i64 s, i64 (IntKind.wrap .i64 (i + s)), by' b, i64 (b.length : Int), bo (decide (IntKind.wrap .i64 (i + s) ≤ (b.length : Int))), i64 i, i64 s, i64 (IntKind.wrap .i64 (i + s)), .tup [i64 (sgnN s.toNat (uintP b i.toNat s.toNat)), bo (okR b i.toNat s.toNat)], by' b, i64 i, i64 s, .tup [i64 (sgnN s.toNat (uintP b i.toNat s.toNat)), bo (okR b i.toNat s.toNat)], i64 (sgnN s.toNat (uintP b i.toNat s.toNat)), bo (okR b i.toNat s.toNat), AV.row 0 0, i64 (sgnN s.toNat (uintP b i.toNat s.toNat)), .full (IV.ints IntKind.i64 [sgnN s.toNat (uintP b i.toNat s.toNat)]),
 AV.row 0 1, .dead] [(0, Ob.mk true 1 (AObj.row (IV.ints IntKind.i64 (l ++ [sgnN s.toNat (uintP b i.toNat s.toNat)]))))] 1 [])) (k (AX.exit 0) (St.mk (lapp [by' b, i64 s, .dead, .dead, .dead, AV.row 0 0, i64 i, .dead, .dead, i64 i, i64 s, i64 (IntKind.wrap .i64 (i + s)), by' b, i64 (b.length : Int), bo (decide (IntKind.wrap .i64 (i + s) ≤ (b.length : Int)))] (dN 15)) [(0, Ob.mk true 0 (AObj.row (IV.ints IntKind.i64 l)))] 1 []))) := by kernel_rfl
theorem f34_lp (b : List UInt8) (s : Int) (l : List Lp) (i : Int) (k : AX → St → Prop) : evCode K0 (loopB (bodyOf Tryz.f88) 0) (h34 b s l i) k = (brn (decide (IntKind.wrap .i64 (IntKind.wrap .i64 (i + s) + 4) ≤ (b.length : Int))) ((b.length : Int) ≤ big ∧ (0 : Int) ≤ i ∧ i ≤ big ∧ (1 : Int) ≤ s ∧ s ≤ 8 ∧ (b.length : Int) ≤ big ∧ (0 : Int) ≤ IntKind.wrap .i64 (i + s) ∧ IntKind.wrap .i64 (i + s) ≤ big ∧ (1 : Int) ≤ 4 ∧ (4 : Int) ≤ 8 ∧ ((List.map cellsL l).length + List.length [[IV.int .i64 (sgnN s.toNat (uintP b i.toNat s.toNat)), IV.int IntKind.i32 (IntKind.wrap IntKind.i32 (sgnN (4 : Int).toNat (uintP b (IntKind.wrap .i64 (i + s)).toNat (4 : Int).toNat)))]]) * 16 ≤ 140737488355328 ∧ (List.map cellsL l).length + List.length [[IV.int .i64 (sgnN s.toNat (uintP b i.toNat s.toNat)), IV.int IntKind.i32 (IntKind.wrap IntKind.i32 (sgnN (4 : Int).toNat (uintP b (IntKind.wrap .i64 (i + s)).toNat (4 : Int).toNat)))]] ≤ 140737488355328 ∧ k AX.normal (St.mk [by' b, i64 s, .dead, .dead, .dead, AV.row 0 1, i64 (IntKind.wrap .i64 (i + IntKind.wrap .i64 (s + 4))), i64 (sgnN s.toNat (uintP b i.toNat s.toNat)), bo (okR b i.toNat s.toNat), i64 (sgnN (4 : Int).toNat (uintP b (IntKind.wrap .i64 (i +
 s)).toNat (4 : Int).toNat)), bo (okR b (IntKind.wrap .i64 (i + s)).toNat (4 : Int).toNat), i64 i, i64 s, i64 (IntKind.wrap .i64 (i + s)), i64 (IntKind.wrap .i64 (IntKind.wrap .i64 (i + s) + 4)), by' b, i64 (b.length : Int), bo (decide (IntKind.wrap .i64 (IntKind.wrap .i64 (i + s) + 4) ≤ (b.length : Int))), i64 i, i64 s, i64 (IntKind.wrap .i64 (s + 4)), i64 (IntKind.wrap .i64 (i + IntKind.wrap .i64 (s + 4))), .tup [i64 (sgnN s.toNat (uintP b i.toNat s.toNat)), bo (okR b i.toNat s.toNat)], by' b, i64 i, i64 s, .tup [i64 (sgnN s.toNat (uintP b i.toNat s.toNat)), bo (okR b i.toNat s.toNat)], i64 (sgnN s.toNat (uintP b i.toNat s.toNat)), bo (okR b i.toNat s.toNat), .tup [i64 (sgnN (4 : Int).toNat (uintP b (IntKind.wrap .i64 (i + s)).toNat (4 : Int).toNat)), bo (okR b (IntKind.wrap .i64 (i + s)).toNat (4 : Int).toNat)], by' b, i64 i, i64 s, i64 (IntKind.wrap .i64 (i + s)), .tup [i64 (sgnN (4 : Int).toNat (uintP b (IntKind.wrap .i64 (i + s)).toNat (4 : Int).toNat)), bo (okR b (IntKind.wrap .i64 (i + s)).toNat (4 : Int).toNat)], i64 (sgnN (4 : Int).toNat (uintP b (IntKind.wrap .i64 (i + s)).toNat (4 : Int).toNat)), bo (okR b (IntKind.wrap .i64 (i + s)).toNat (4 : Int).toNat), AV.row 0 0,
 i64 (sgnN s.toNat (uintP b i.toNat s.toNat)), i64 (sgnN (4 : Int).toNat (uintP b (IntKind.wrap .i64 (i + s)).toNat (4 : Int).toNat)), .imm (.int IntKind.i32 (IntKind.wrap IntKind.i32 (sgnN (4 : Int).toNat (uintP b (IntKind.wrap .i64 (i + s)).toNat (4 : Int).toNat)))), .agg [i64 (sgnN s.toNat (uintP b i.toNat s.toNat)), .imm (.int IntKind.i32 (IntKind.wrap IntKind.i32 (sgnN (4 : Int).toNat (uintP b (IntKind.wrap .i64 (i + s)).toNat (4 : Int).toNat))))], .full (IV.sl 2 [[IV.int .i64 (sgnN s.toNat (uintP b i.toNat s.toNat)), IV.int IntKind.i32 (IntKind.wrap IntKind.i32 (sgnN (4 : Int).toNat (uintP b (IntKind.wrap .i64 (i + s)).toNat (4 : Int).toNat)))]]), AV.row 0 1, .dead] [(0, Ob.mk true 1 (AObj.row (IV.sl 2 (List.map cellsL l ++ [[IV.int .i64 (sgnN s.toNat (uintP b i.toNat s.toNat)), IV.int IntKind.i32 (IntKind.wrap IntKind.i32 (sgnN (4 : Int).toNat (uintP b (IntKind.wrap .i64 (i + s)).toNat (4 : Int).toNat)))]]))))] 1 [])) (k (AX.exit 0) (St.mk (lapp [by' b, i64 s, .dead, .dead, .dead, AV.row 0 0, i64 i] (lapp (dN 4) (lapp [i64 i, i64 s, i64 (IntKind.wrap .i64 (i + s)), i64 (IntKind.wrap .i64 (IntKind.wrap .i64 (i + s) + 4)), by' b, i64 (b.length : Int), bo (decide (IntKind.wrap
 .i64 (IntKind.wrap .i64 (i + s) + 4) ≤ (b.length : Int)))] (dN 27)))) [(0, Ob.mk true 0 (AObj.row (IV.sl 2 (List.map cellsL l))))] 1 []))) := by kernel_rfl
theorem f32_lp (b : List UInt8) (l : List Bool) (i : Nat) (k : AX → St → Prop) : evCode K0 (loopB (bodyOf Tryz.f86) 0) (h32 b l i) k = (brn (decide ((↑i : Int) < (b.length : Int))) ((0 : Int) ≤ (↑i : Int) ∧ (↑i : Int) < (b.length : Int) ∧ brn (decide (IntKind.wrap .i64 (↑(UInt8.toNat (List.getD b (↑i : Int).toNat (0 : UInt8))) : Int) ≥ 2)) (k AX.ret (St.mk (lapp [.dead, .dead, .full (IV.bools []), bo false, AV.row 0 0, .dead, .imm (.int .u8 (↑(UInt8.toNat (List.getD b (↑i : Int).toNat (0 : UInt8))) : Int)), by' b, i64 (b.length : Int), i64 (↑i : Int), bo (decide ((↑i : Int) < (b.length : Int))), AV.elv [IV.int .u8 (↑(UInt8.toNat (List.getD b (↑i : Int).toNat (0 : UInt8))) : Int)], .imm (.int .u8 (↑(UInt8.toNat (List.getD b (↑i : Int).toNat (0 : UInt8))) : Int)), .imm (.int .u8 (↑(UInt8.toNat (List.getD b (↑i : Int).toNat (0 : UInt8))) : Int)), i64 (IntKind.wrap .i64 (↑(UInt8.toNat (List.getD b (↑i : Int).toNat (0 : UInt8))) : Int)), bo (decide (IntKind.wrap .i64 (↑(UInt8.toNat (List.getD b (↑i : Int).toNat (0 : UInt8))) : Int) ≥ 2))] (dN 8)) [(0, Ob.mk true 0 (AObj.row (IV.bools l)))] 1 [])) ((0 : Int) ≤ (↑(UInt8.toNat (List.getD b (↑i : Int).toNat (0 : UInt8))) : Int) ∧
 (↑(UInt8.toNat (List.getD b (↑i : Int).toNat (0 : UInt8))) : Int) < 2 ∧ ((↑(UInt8.toNat (List.getD b (↑i : Int).toNat (0 : UInt8))) : Int) = 0 → (l.length + List.length [false]) * 1 ≤ 140737488355328 ∧ l.length + List.length [false] ≤ 140737488355328 ∧ k AX.normal (St.mk (lapp (dN 4) [AV.row 0 1, .dead, .imm (.int .u8 (↑(UInt8.toNat (List.getD b (↑i : Int).toNat (0 : UInt8))) : Int)), by' b, i64 (b.length : Int), i64 (IntKind.wrap .i64 ((↑i : Int) + 1)), bo (decide ((↑i : Int) < (b.length : Int))), AV.elv [IV.int .u8 (↑(UInt8.toNat (List.getD b (↑i : Int).toNat (0 : UInt8))) : Int)], .imm (.int .u8 (↑(UInt8.toNat (List.getD b (↑i : Int).toNat (0 : UInt8))) : Int)), .imm (.int .u8 (↑(UInt8.toNat (List.getD b (↑i : Int).toNat (0 : UInt8))) : Int)), i64 (IntKind.wrap .i64 (↑(UInt8.toNat (List.getD b (↑i : Int).toNat (0 : UInt8))) : Int)), bo (decide (IntKind.wrap .i64 (↑(UInt8.toNat (List.getD b (↑i : Int).toNat (0 : UInt8))) : Int) ≥ 2)), AV.row 0 0, .imm (.int .u8 (↑(UInt8.toNat (List.getD b (↑i : Int).toNat (0 : UInt8))) : Int)), AV.gptr 1 0, bo false, .full (IV.bools [false]), AV.row 0 1, i64 (IntKind.wrap .i64 ((↑i : Int) + 1)), .dead]) [(0, Ob.mk true 1 (AObj.row (IV.bools (l ++
 [false]))))] 1 [])) ∧ ((↑(UInt8.toNat (List.getD b (↑i : Int).toNat (0 : UInt8))) : Int) = 1 → (l.length + List.length [true]) * 1 ≤ 140737488355328 ∧ l.length + List.length [true] ≤ 140737488355328 ∧ k AX.normal (St.mk (lapp (dN 4) [AV.row 0 1, .dead, .imm (.int .u8 (↑(UInt8.toNat (List.getD b (↑i : Int).toNat (0 : UInt8))) : Int)), by' b, i64 (b.length : Int), i64 (IntKind.wrap .i64 ((↑i : Int) + 1)), bo (decide ((↑i : Int) < (b.length : Int))), AV.elv [IV.int .u8 (↑(UInt8.toNat (List.getD b (↑i : Int).toNat (0 : UInt8))) : Int)], .imm (.int .u8 (↑(UInt8.toNat (List.getD b (↑i : Int).toNat (0 : UInt8))) : Int)), .imm (.int .u8 (↑(UInt8.toNat (List.getD b (↑i : Int).toNat (0 : UInt8))) : Int)), i64 (IntKind.wrap .i64 (↑(UInt8.toNat (List.getD b (↑i : Int).toNat (0 : UInt8))) : Int)), bo (decide (IntKind.wrap .i64 (↑(UInt8.toNat (List.getD b (↑i : Int).toNat (0 : UInt8))) : Int) ≥ 2)), AV.row 0 0, .imm (.int .u8 (↑(UInt8.toNat (List.getD b (↑i : Int).toNat (0 : UInt8))) : Int)), AV.gptr 1 1, bo true, .full (IV.bools [true]), AV.row 0 1, i64 (IntKind.wrap .i64 ((↑i : Int) + 1)), .dead]) [(0, Ob.mk true 1 (AObj.row (IV.bools (l ++ [true]))))] 1 [])))) (k (AX.exit 0) (St.mk (lapp (dN
 4) (lapp [AV.row 0 0, .dead, .dead, by' b, i64 (b.length : Int), i64 (↑i : Int), bo (decide ((↑i : Int) < (b.length : Int)))] (dN 13))) [(0, Ob.mk true 0 (AObj.row (IV.bools l)))] 1 []))) := by kernel_rfl
theorem f58_lp (T : List Int) (s : Int) (l : List UInt8) (i : Nat) (k : AX → St → Prop) : evCode K0 (loopB (bodyOf Tryz.f32) 0) (h58 T s l i) k = (brn (decide ((↑i : Int) < (↑(List.length T) : Int))) ((0 : Int) ≤ (↑i : Int) ∧ (↑i : Int) < (↑(List.length T) : Int) ∧ (l.length : Int) ≤ 1000000000000 ∧ (0 : Int) ≤ s ∧ s ≤ 8 ∧ (0 : Int) ≤ IntKind.wrap IntKind.u64 (List.getD T (↑i : Int).toNat (0 : Int)) ∧ IntKind.wrap IntKind.u64 (List.getD T (↑i : Int).toNat (0 : Int)) < 18446744073709551616 ∧ k AX.normal (St.mk [.imm (.ints IntKind.i64 T), i64 s, .dead, .dead, .dead, AV.row 1 0, i64 (IntKind.wrap .i64 ((↑i : Int) + 1)), i64 (↑i : Int), .imm (.ints IntKind.i64 T), i64 (↑(List.length T) : Int), bo (decide ((↑i : Int) < (↑(List.length T) : Int))), i64 (↑i : Int), i64 (IntKind.wrap .i64 ((↑i : Int) + 1)), AV.row 0 0, i64 s, .imm (.ints IntKind.i64 T), i64 (↑i : Int), AV.elv [IV.int .i64 (List.getD T (↑i : Int).toNat (0 : Int))], i64 (List.getD T (↑i : Int).toNat (0 : Int)), .imm (.int IntKind.u64 (IntKind.wrap IntKind.u64 (List.getD T (↑i : Int).toNat (0 : Int)))), AV.row 1 0, .dead] [(0, Ob.mk false 0 (AObj.row (IV.bytes l))), (1, Ob.mk true 0 (AObj.row (IV.bytes (l ++ be s.toNat
 (IntKind.wrap IntKind.u64 (List.getD T (↑i : Int).toNat (0 : Int))).toNat))))] 2 [])) (k (AX.exit 0) (St.mk (lapp [.imm (.ints IntKind.i64 T), i64 s, .dead, .dead, .dead, AV.row 0 0, i64 (↑i : Int), i64 (↑i : Int), .imm (.ints IntKind.i64 T), i64 (↑(List.length T) : Int), bo (decide ((↑i : Int) < (↑(List.length T) : Int)))] (dN 11)) [(0, Ob.mk true 0 (AObj.row (IV.bytes l)))] 1 []))) := by kernel_rfl
theorem f60_lp (xs : List (List IV)) (s : Int) (l : List UInt8) (i : Nat) (k : AX → St → Prop) : evCode K0 (loopB (bodyOf Tryz.f34) 0) (h60 xs s l i) k = (brn (decide ((↑i : Int) < (↑(List.length xs) : Int))) ((0 : Int) ≤ (↑i : Int) ∧ (↑i : Int) < (↑(List.length xs) : Int) ∧ kcells (List.getD xs (↑i : Int).toNat []) 0 (lapp [CK.int IntKind.i64] (lapp [CK.int IntKind.i32] [])) = List.getD xs (↑i : Int).toNat [] ∧ (l.length : Int) ≤ 1000000000000 ∧ (0 : Int) ≤ s ∧ s ≤ 8 ∧ (0 : Int) ≤ IntKind.wrap IntKind.u64 (ivInt (ivNth (List.getD xs (↑i : Int).toNat []) 0)) ∧ IntKind.wrap IntKind.u64 (ivInt (ivNth (List.getD xs (↑i : Int).toNat []) 0)) < 18446744073709551616 ∧ (0 : Int) ≤ (↑i : Int) ∧ (↑i : Int) < (↑(List.length xs) : Int) ∧ kcells (List.getD xs (↑i : Int).toNat []) 0 (lapp [CK.int IntKind.i64] (lapp [CK.int IntKind.i32] [])) = List.getD xs (↑i : Int).toNat [] ∧ (↑(l ++ be s.toNat (IntKind.wrap IntKind.u64 (ivInt (ivNth (List.getD xs (↑i : Int).toNat []) 0))).toNat).length : Int) ≤ 1000000000000 ∧ (0 : Int) ≤ 4 ∧ (4 : Int) ≤ 8 ∧ (0 : Int) ≤ IntKind.wrap IntKind.u64 (IntKind.wrap .i64 (ivInt (ivNth (List.getD xs (↑i : Int).toNat []) (0 + 1)))) ∧ IntKind.wrap IntKind.u64
 (IntKind.wrap .i64 (ivInt (ivNth (List.getD xs (↑i : Int).toNat []) (0 + 1)))) < 18446744073709551616 ∧ k AX.normal (St.mk [.imm (.sl 2 xs), i64 s, .dead, .dead, .dead, AV.row 2 0, i64 (IntKind.wrap .i64 ((↑i : Int) + 1)), i64 (↑i : Int), .imm (.sl 2 xs), i64 (↑(List.length xs) : Int), bo (decide ((↑i : Int) < (↑(List.length xs) : Int))), i64 (↑i : Int), i64 (IntKind.wrap .i64 ((↑i : Int) + 1)), AV.row 0 0, i64 s, .imm (.sl 2 xs), i64 (↑i : Int), AV.elv [IV.int .i64 (ivInt (ivNth (List.getD xs (↑i : Int).toNat []) 0)), IV.int IntKind.i32 (ivInt (ivNth (List.getD xs (↑i : Int).toNat []) (0 + 1)))], AV.elv [IV.int .i64 (ivInt (ivNth (List.getD xs (↑i : Int).toNat []) 0)), IV.int IntKind.i32 (ivInt (ivNth (List.getD xs (↑i : Int).toNat []) (0 + 1)))], i64 (ivInt (ivNth (List.getD xs (↑i : Int).toNat []) 0)), .imm (.int IntKind.u64 (IntKind.wrap IntKind.u64 (ivInt (ivNth (List.getD xs (↑i : Int).toNat []) 0)))), AV.row 1 0, AV.row 1 0, .imm (.sl 2 xs), i64 (↑i : Int), AV.elv [IV.int .i64 (ivInt (ivNth (List.getD xs (↑i : Int).toNat []) 0)), IV.int IntKind.i32 (ivInt (ivNth (List.getD xs (↑i : Int).toNat []) (0 + 1)))], AV.elv [IV.int IntKind.i32 (ivInt (ivNth (List.getD xs (↑i :
 Int).toNat []) (0 + 1)))], .imm (.int IntKind.i32 (ivInt (ivNth (List.getD xs (↑i : Int).toNat []) (0 + 1)))), i64 (IntKind.wrap .i64 (ivInt (ivNth (List.getD xs (↑i : Int).toNat []) (0 + 1)))), .imm (.int IntKind.u64 (IntKind.wrap IntKind.u64 (IntKind.wrap .i64 (ivInt (ivNth (List.getD xs (↑i : Int).toNat []) (0 + 1)))))), AV.row 2 0, .dead] [(0, Ob.mk false 0 (AObj.row (IV.bytes l))), (1, Ob.mk false 0 (AObj.row (IV.bytes (l ++ be s.toNat (IntKind.wrap IntKind.u64 (ivInt (ivNth (List.getD xs (↑i : Int).toNat []) 0))).toNat)))), (2, Ob.mk true 0 (AObj.row (IV.bytes (l ++ be s.toNat (IntKind.wrap IntKind.u64 (ivInt (ivNth (List.getD xs (↑i : Int).toNat []) 0))).toNat ++ be (4 : Int).toNat (IntKind.wrap IntKind.u64 (IntKind.wrap .i64 (ivInt (ivNth (List.getD xs (↑i : Int).toNat []) (0 + 1))))).toNat))))] 3 [])) (k (AX.exit 0) (St.mk (lapp [.imm (.sl 2 xs), i64 s, .dead, .dead, .dead, AV.row 0 0, i64 (↑i : Int), i64 (↑i : Int), .imm (.sl 2 xs), i64 (↑(List.length xs) : Int), bo (decide ((↑i : Int) < (↑(List.length xs) : Int)))] (dN 21)) [(0, Ob.mk true 0 (AObj.row (IV.bytes l)))] 1 []))) := by kernel_rfl
theorem f61_lp (l : List Bool) (v : List UInt8) (i : Nat) (k : AX → St → Prop) : evCode K0 (loopB (bodyOf Tryz.f35) 0) (h61 l v i) k = (brn (decide ((↑i : Int) < (l.length : Int))) ((0 : Int) ≤ (↑i : Int) ∧ (↑i : Int) < (l.length : Int) ∧ brn (List.getD l (↑i : Int).toNat false) ((v.length + (List.map u8 [(1 : Int)]).length) * 1 ≤ 140737488355328 ∧ v.length + (List.map u8 [(1 : Int)]).length ≤ 140737488355328 ∧ k AX.normal (St.mk (lapp [.imm (.bools l), .dead, .dead, AV.row 0 1, i64 (IntKind.wrap .i64 ((↑i : Int) + 1)), i64 (↑i : Int), .imm (.bools l), i64 (l.length : Int), bo (decide ((↑i : Int) < (l.length : Int))), i64 (↑i : Int), i64 (IntKind.wrap .i64 ((↑i : Int) + 1)), .imm (.bools l), i64 (↑i : Int), AV.elv [IV.bool (List.getD l (↑i : Int).toNat false)], bo (List.getD l (↑i : Int).toNat false), AV.row 0 0, .full (IV.bytes (List.map u8 [(1 : Int)])), AV.row 0 1] (dN 4)) [(0, Ob.mk true 1 (AObj.row (IV.bytes (v ++ List.map u8 [(1 : Int)]))))] 1 [])) ((v.length + (List.map u8 [(0 : Int)]).length) * 1 ≤ 140737488355328 ∧ v.length + (List.map u8 [(0 : Int)]).length ≤ 140737488355328 ∧ k AX.normal (St.mk [.imm (.bools l), .dead, .dead, AV.row 0 1, i64 (IntKind.wrap .i64 ((↑i : Int)
 + 1)), i64 (↑i : Int), .imm (.bools l), i64 (l.length : Int), bo (decide ((↑i : Int) < (l.length : Int))), i64 (↑i : Int), i64 (IntKind.wrap .i64 ((↑i : Int) + 1)), .imm (.bools l), i64 (↑i : Int), AV.elv [IV.bool (List.getD l (↑i : Int).toNat false)], bo (List.getD l (↑i : Int).toNat false), .dead, .dead, .dead, AV.row 0 0, .full (IV.bytes (List.map u8 [(0 : Int)])), AV.row 0 1, .dead] [(0, Ob.mk true 1 (AObj.row (IV.bytes (v ++ List.map u8 [(0 : Int)]))))] 1 []))) (k (AX.exit 0) (St.mk (lapp [.imm (.bools l), .dead, .dead, AV.row 0 0, i64 (↑i : Int), i64 (↑i : Int), .imm (.bools l), i64 (l.length : Int), bo (decide ((↑i : Int) < (l.length : Int)))] (dN 13)) [(0, Ob.mk true 0 (AObj.row (IV.bytes v)))] 1 []))) := by kernel_rfl
theorem f52_lp (T : List Int) (n : Int) (i : Nat) (k : AX → St → Prop) : evCode K1 (loopB (bodyOf Tryz.f55) 0) (h52 T n i) k = (brn (decide ((↑i : Int) < (↑(List.length T) : Int))) ((0 : Int) ≤ (↑i : Int) ∧ (↑i : Int) < (↑(List.length T) : Int) ∧ sz48 n ∧ brn (!fitsP (List.getD T (↑i : Int).toNat (0 : Int)) n) (k AX.ret (St.mk [.imm (.ints IntKind.i64 T), i64 n, .dead, .dead, bo false, i64 (↑i : Int), i64 (↑i : Int), .imm (.ints IntKind.i64 T), i64 (↑(List.length T) : Int), bo (decide ((↑i : Int) < (↑(List.length T) : Int))), .dead, .dead, .imm (.ints IntKind.i64 T), i64 (↑i : Int), AV.elv [IV.int .i64 (List.getD T (↑i : Int).toNat (0 : Int))], i64 (List.getD T (↑i : Int).toNat (0 : Int)), i64 n, bo (fitsP (List.getD T (↑i : Int).toNat (0 : Int)) n), bo (!fitsP (List.getD T (↑i : Int).toNat (0 : Int)) n)] [] 0 [])) (k AX.normal (St.mk [.imm (.ints IntKind.i64 T), i64 n, .dead, .dead, .dead, i64 (IntKind.wrap .i64 ((↑i : Int) + 1)), i64 (↑i : Int), .imm (.ints IntKind.i64 T), i64 (↑(List.length T) : Int), bo (decide ((↑i : Int) < (↑(List.length T) : Int))), i64 (↑i : Int), i64 (IntKind.wrap .i64 ((↑i : Int) + 1)), .imm (.ints IntKind.i64 T), i64 (↑i : Int), AV.elv [IV.int .i64
 (List.getD T (↑i : Int).toNat (0 : Int))], i64 (List.getD T (↑i : Int).toNat (0 : Int)), i64 n, bo (fitsP (List.getD T (↑i : Int).toNat (0 : Int)) n), bo (!fitsP (List.getD T (↑i : Int).toNat (0 : Int)) n)] [] 0 []))) (k (AX.exit 0) (St.mk (lapp [.imm (.ints IntKind.i64 T), i64 n, .dead, .dead, .dead, i64 (↑i : Int), i64 (↑i : Int), .imm (.ints IntKind.i64 T), i64 (↑(List.length T) : Int), bo (decide ((↑i : Int) < (↑(List.length T) : Int)))] (dN 9)) [] 0 []))) := by kernel_rfl
end Y27
set_option maxRecDepth 100000
namespace Y27
open Go Go.AE Go.Proofs E6
attribute [local irreducible] loopK evCode evSpec loopB norm
def p0 : Lp := ⟨0, 0⟩
theorem okL_elim {xs : List (List IV)} (h : okL xs) : ∃ L : List Lp, xs = L.map cellsL ∧ lps xs = L ∧ ∀ t ∈ L, okLp t := ⟨lps xs, h.1, rfl, h.2⟩
theorem getL {L : List Lp} {i : Nat} (h : i < L.length) : (L.map cellsL).getD i [] = cellsL (L.getD i p0) := by
  simp only [List.getD_eq_getElem?_getD, List.getElem?_map, List.getElem?_eq_getElem h]
  rfl
theorem kL (t : Lp) : kcells (cellsL t) 0 (lapp [CK.int .i64] (lapp [CK.int .i32] [])) = cellsL t := rfl
theorem aL (t : Lp) : ivInt (ivNth (cellsL t) 0) = t.a := rfl
theorem cL (t : Lp) : ivInt (ivNth (cellsL t) (0 + 1)) = t.c := rfl
theorem inc {i : Nat} (h : i ≤ 1000000000000) : IntKind.wrap .i64 ((i : Int) + 1) = ((i + 1 : Nat) : Int) := by rw [wrap64 (by omega) (by omega)]; rfl
theorem incB {i : Nat} (h : i ≤ 4611686018427387904) : IntKind.wrap .i64 ((i : Int) + 1) = ((i + 1 : Nat) : Int) := by rw [wrap64 (by omega) (by omega)]; rfl
theorem nat_ne {a b : Nat} (h : ((a : Int) != (b : Int)) = false) : a = b := by simp at h; omega
theorem f42_ev (a b : List Int) (ha : (a.length : Int) ≤ big') (hb : (b.length : Int) ≤ big') (K : List AV → Prop) (hK : K [bo (decide (a = b))]) : evSpec K0 Tryz.f62 [ii a, ii b] K := by
  have hbig : big' = 1000000000000 := rfl
  have no : a ≠ b → K [.imm (.bool false)] := fun h => by rw [decide_eq_false h] at hK; exact hK
  refine Eq.mpr (f42_in a b K) ?_
  refine brn_intro (fun h => ?_) (fun h => ?_)
  · refine no (fun e => ?_)
    subst e
    simp at h
  · have hl : a.length = b.length := nat_ne h
    unfold LoopI
    refine loop_rule (fun i : Nat => hA (ii a) (ii b) i) (fun i => i ≤ a.length ∧ a.take i = b.take i) (fun i => a.length - i) (fun i hP K' hnorm hexit => ?_) rfl 0 pA _ ⟨Nat.zero_le _, by simp⟩ (by kernel_rfl)
    obtain ⟨hi, ht⟩ := hP
    rw [f42_lp]
    refine brn_intro (fun h1 => ?_) (fun h1 => ?_)
    · simp only [decide_eq_true_eq] at h1
      simp only [Int.toNat_natCast]
      refine ⟨by omega, by omega, by omega, by omega, brn_intro (fun h2 => ?_) (fun h2 => ?_)⟩
      · refine hexit _ _ (by simp) (Eq.mp (by kernel_rfl) (no (ne_of_at 0 (i := i) fun e => ?_)))
        rw [e] at h2
        simp at h2
      · have e3 : a.getD i 0 = b.getD i 0 := by
          simpa using h2
        simp only [inc (show i ≤ 1000000000000 by omega)]
        refine hnorm (i + 1) pA _ ⟨by omega, ?_⟩ (by omega) (by kernel_rfl)
        rw [takeS 0 (by omega), takeS 0 (by omega), ht, e3]
    · simp only [decide_eq_false_iff_not] at h1
      have hil : i = a.length := by omega
      have e : a = b := by
        rw [hil, List.take_length, hl, List.take_length] at ht
        exact ht
      rw [decide_eq_true e] at hK
      exact hexit _ _ (by simp) (Eq.mp (by kernel_rfl) hK)
theorem f45_ev (a b : List Bool) (ha : (a.length : Int) ≤ big') (hb : (b.length : Int) ≤ big') (K : List AV → Prop) (hK : K [bo (decide (a = b))]) : evSpec K0 Tryz.f66 [oo a, oo b] K := by
  have hbig : big' = 1000000000000 := rfl
  have no : a ≠ b → K [.imm (.bool false)] := fun h => by rw [decide_eq_false h] at hK; exact hK
  refine Eq.mpr (f45_in a b K) ?_
  refine brn_intro (fun h => ?_) (fun h => ?_)
  · refine no (fun e => ?_)
    subst e
    simp at h
  · have hl : a.length = b.length := nat_ne h
    unfold LoopI
    refine loop_rule (fun i : Nat => hA (oo a) (oo b) i) (fun i => i ≤ a.length ∧ a.take i = b.take i) (fun i => a.length - i) (fun i hP K' hnorm hexit => ?_) rfl 0 pA _ ⟨Nat.zero_le _, by simp⟩ (by kernel_rfl)
    obtain ⟨hi, ht⟩ := hP
    rw [f45_lp]
    refine brn_intro (fun h1 => ?_) (fun h1 => ?_)
    · simp only [decide_eq_true_eq] at h1
      simp only [Int.toNat_natCast]
      refine ⟨by omega, by omega, by omega, by omega, brn_intro (fun h2 => ?_) (fun h2 => ?_)⟩
      · refine hexit _ _ (by simp) (Eq.mp (by kernel_rfl) (no (ne_of_at false (i := i) fun e => ?_)))
        rw [e] at h2
        simp at h2
      · have e3 : a.getD i false = b.getD i false := by
          simpa using h2
        simp only [inc (show i ≤ 1000000000000 by omega)]
        refine hnorm (i + 1) pA _ ⟨by omega, ?_⟩ (by omega) (by kernel_rfl)
        rw [takeS false (by omega), takeS false (by omega), ht, e3]
    · simp only [decide_eq_false_iff_not] at h1
      have hil : i = a.length := by omega
      have e : a = b := by
        rw [hil, List.take_length, hl, List.take_length] at ht
        exact ht
      rw [decide_eq_true e] at hK
      exact hexit _ _ (by simp) (Eq.mp (by kernel_rfl) hK)
theorem f44_ev (L M : List Lp) (ha : (L.length : Int) ≤ big') (hb : (M.length : Int) ≤ big') (K : List AV → Prop) (hK : K [bo (decide (L = M))]) : evSpec K0 Tryz.f65 [.imm (slL L), .imm (slL M)] K := by
  have hbig : big' = 1000000000000 := rfl
  have no : L ≠ M → K [.imm (.bool false)] := fun h => by rw [decide_eq_false h] at hK; exact hK
  unfold slL
  refine Eq.mpr (f44_in (L.map cellsL) (M.map cellsL) K) ?_
  simp only [List.length_map]
  refine brn_intro (fun h => ?_) (fun h => ?_)
  · refine no (fun e => ?_)
    subst e
    simp at h
  · have hl : L.length = M.length := nat_ne h
    unfold LoopI
    refine loop_rule (fun i : Nat => hA (ll (L.map cellsL)) (ll (M.map cellsL)) i) (fun i => i ≤ L.length ∧ L.take i = M.take i) (fun i => L.length - i) (fun i hP K' hnorm hexit => ?_) rfl 0 pA _ ⟨Nat.zero_le _, by simp⟩ (by kernel_rfl)
    obtain ⟨hi, ht⟩ := hP
    rw [f44_lp]
    simp only [List.length_map]
    refine brn_intro (fun h1 => ?_) (fun h1 => ?_)
    · simp only [decide_eq_true_eq] at h1
      have hlt : i < L.length := by omega
      simp only [Int.toNat_natCast, getL hlt, getL (hl ▸ hlt : i < M.length), kL, aL, cL]
      refine ⟨by omega, by omega, True.intro, by omega, by omega, True.intro, brn_intro (fun h2 => ?_) (fun h2 => ?_)⟩
      · refine hexit _ _ (by simp) (Eq.mp (by kernel_rfl) (no (ne_of_at p0 (i := i) fun e => ?_)))
        rw [e] at h2
        simp at h2
      · have e3 : L.getD i p0 = M.getD i p0 := by
          simp only [Bool.not_eq_false', Bool.and_eq_true, beq_iff_eq, and_true] at h2
          obtain ⟨q1, q2⟩ := h2
          generalize L.getD i p0 = x at *
          generalize M.getD i p0 = y at *
          cases x; cases y
          simp only at q1 q2
          rw [q1, q2]
        simp only [inc (show i ≤ 1000000000000 by omega)]
        refine hnorm (i + 1) pA _ ⟨by omega, ?_⟩ (by omega) (by kernel_rfl)
        rw [takeS p0 (by omega), takeS p0 (by omega), ht, e3]
    · simp only [decide_eq_false_iff_not] at h1
      have hil : i = L.length := by omega
      have e : L = M := by
        rw [hil, List.take_length, hl, List.take_length] at ht
        exact ht
      rw [decide_eq_true e] at hK
      exact hexit _ _ (by simp) (Eq.mp (by kernel_rfl) hK)
end Y27
set_option maxRecDepth 100000
namespace Y27
open Go Go.AE Go.Proofs E6
attribute [local irreducible] loopK evCode evSpec loopB norm
theorem sz_nat {s : Int} (h : sz48 s) : ∃ n : Nat, s = (n : Int) ∧ 4 ≤ n ∧ n ≤ 8 := by
  rcases h with rfl | rfl
  · exact ⟨4, rfl, by decide, by decide⟩
  · exact ⟨8, rfl, by decide, by decide⟩
theorem decI_len (b : List UInt8) (s : Nat) : ∀ k, (decI b s k).length = k
  | 0 => rfl
  | k + 1 => by rw [decI, List.length_append, decI_len b s k]; rfl
theorem decL_len (b : List UInt8) (s : Nat) : ∀ k, (decL b s k).length = k
  | 0 => rfl
  | k + 1 => by rw [decL, List.length_append, decL_len b s k]; rfl
theorem uintP_take {b : List UInt8} {o n : Nat} (h : o + n ≤ b.length) : uintP b o n = beN ((b.drop o).take n) := by
  unfold uintP okR
  rw [if_pos (by simpa using h)]
theorem mul_le_of_div {n i L : Nat} (h : i ≤ L / n) : n * i ≤ L := Nat.le_trans (Nat.mul_le_mul_left n h) (Nat.mul_div_le L n)
theorem lt_div_of {n i L : Nat} (hn : 0 < n) (h : n * (i + 1) ≤ L) : i + 1 ≤ L / n := (Nat.le_div_iff_mul_le hn).2 (by rw [Nat.mul_comm]; exact h)
theorem nlt_div {n i L : Nat} (hn : 0 < n) (h : ¬ n * (i + 1) ≤ L) (h2 : i ≤ L / n) : i = L / n := by
  rcases Nat.lt_or_ge i (L / n) with q | q
  · exact absurd (mul_le_of_div q) h
  · omega
theorem f33_ev (b : List UInt8) (s : Int) (hs : sz48 s) (hb : (b.length : Int) ≤ big') (K : List AV → Prop) (hK : K [.new (.ints .i64 (decI b s.toNat (b.length / s.toNat)))]) : evSpec K0 Tryz.f87 [by' b, i64 s] K := by
  have hbig : big' = 1000000000000 := rfl
  have hbig2 : big = 4611686018427387904 := rfl
  obtain ⟨n, rfl, n4, n8⟩ := sz_nat hs
  rw [Int.toNat_natCast] at hK
  refine Eq.mpr (f33_in b n K) ?_
  unfold LoopI
  refine loop_rule (fun i : Nat => h33 b n (decI b n i) ((n * i : Nat) : Int)) (fun i => i ≤ b.length / n) (fun i => b.length / n - i) (fun i hP K' hnorm hexit => ?_) rfl 0 p33i _ (Nat.zero_le _) (by kernel_rfl)
  have hni := mul_le_of_div hP
  have hil : i ≤ b.length := Nat.le_trans hP (Nat.div_le_self _ _)
  have hm : n * (i + 1) = n * i + n := Nat.mul_succ n i
  have e1 : IntKind.wrap .i64 (((n * i : Nat) : Int) + (n : Int)) = ((n * (i + 1) : Nat) : Int) := by rw [wrap64 (by omega) (by omega)]; omega
  rw [f33_lp, e1]
  refine brn_intro (fun h => ?_) (fun h => ?_)
  · simp only [decide_eq_true_eq] at h
    have h' : n * (i + 1) ≤ b.length := by omega
    have hu := uintP_take (b := b) (o := n * i) (n := n) (by omega)
    have hl := decI_len b n i
    simp only [Int.toNat_natCast, hu]
    refine ⟨by omega, by omega, by omega, by omega, by omega, by simp only [hl, List.length_singleton]; omega, by simp only [hl, List.length_singleton]; omega, hnorm (i + 1) ⟨[], msk [0, 1, 5, 6] 0 30, [0]⟩ _ (lt_div_of (by omega) h') (by have := lt_div_of (n := n) (by omega) h'; omega) (by kernel_rfl)⟩
  · simp only [decide_eq_false_iff_not] at h
    have hi : i = b.length / n := nlt_div (by omega) (by omega) hP
    rw [← hi] at hK
    exact hexit _ _ (by simp) (Eq.mp (by kernel_rfl) hK)
theorem f34_ev (b : List UInt8) (s : Int) (hs : sz48 s) (hb : (b.length : Int) ≤ big') (K : List AV → Prop) (hK : K [.new (slL (decL b s.toNat (b.length / (s.toNat + 4))))]) : evSpec K0 Tryz.f88 [by' b, i64 s] K := by
  have hbig : big' = 1000000000000 := rfl
  have hbig2 : big = 4611686018427387904 := rfl
  obtain ⟨n, rfl, n4, n8⟩ := sz_nat hs
  rw [Int.toNat_natCast] at hK
  refine Eq.mpr (f34_in b n K) ?_
  unfold LoopI
  refine loop_rule (fun i : Nat => h34 b n (decL b n i) (((n + 4) * i : Nat) : Int)) (fun i => i ≤ b.length / (n + 4)) (fun i => b.length / (n + 4) - i) (fun i hP K' hnorm hexit => ?_) rfl 0 p34i _ (Nat.zero_le _) (by kernel_rfl)
  have hni := mul_le_of_div hP
  have hil : i ≤ b.length := Nat.le_trans hP (Nat.div_le_self _ _)
  have hm : (n + 4) * (i + 1) = (n + 4) * i + (n + 4) := Nat.mul_succ (n + 4) i
  have e1 : IntKind.wrap .i64 ((((n + 4) * i : Nat) : Int) + (n : Int)) = (((n + 4) * i + n : Nat) : Int) := by rw [wrap64 (by omega) (by omega)]; omega
  have e2 : IntKind.wrap .i64 ((((n + 4) * i + n : Nat) : Int) + 4) = (((n + 4) * (i + 1) : Nat) : Int) := by rw [wrap64 (by omega) (by omega)]; omega
  have e3 : IntKind.wrap .i64 ((n : Int) + 4) = ((n + 4 : Nat) : Int) := by rw [wrap64 (by omega) (by omega)]; omega
  have e4 : IntKind.wrap .i64 ((((n + 4) * i : Nat) : Int) + ((n + 4 : Nat) : Int)) = (((n + 4) * (i + 1) : Nat) : Int) := by rw [wrap64 (by omega) (by omega)]; omega
  rw [f34_lp]
  simp only [e1, e2, e3, e4]
  refine brn_intro (fun h => ?_) (fun h => ?_)
  · simp only [decide_eq_true_eq] at h
    have h' : (n + 4) * (i + 1) ≤ b.length := by omega
    have hu := uintP_take (b := b) (o := (n + 4) * i) (n := n) (by omega)
    have hv := uintP_take (b := b) (o := (n + 4) * i + n) (n := 4) (by omega)
    have hl := decL_len b n i
    have z4 : Int.toNat 4 = 4 := rfl
    have h32 := sgn4 (uintP_lt b ((n + 4) * i + n) 4)
    have hw := wrap32 h32.1 h32.2
    have hmap : (decL b n (i + 1)).map cellsL = (decL b n i).map cellsL ++ [[.int .i64 (sgnN n (beN ((b.drop ((n + 4) * i)).take n))), .int .i32 (sgnN 4 (beN ((b.drop ((n + 4) * i + n)).take 4)))]] := by rw [decL, List.map_append]; rfl
    rw [hv] at hw
    simp only [Int.toNat_natCast, z4, hu, hv, hw, ← hmap]
    refine ⟨by omega, by omega, by omega, by omega, by omega, by omega, by omega, by omega, by omega, by omega, by simp only [List.length_map, hl, List.length_singleton]; omega, by simp only [List.length_map, hl, List.length_singleton]; omega, hnorm (i + 1) ⟨[], msk [0, 1, 5, 6] 0 45, [0]⟩ _ (lt_div_of (by omega) h') (by have := lt_div_of (n := n + 4) (by omega) h'; omega) (by kernel_rfl)⟩
  · simp only [decide_eq_false_iff_not] at h
    have hi : i = b.length / (n + 4) := nlt_div (by omega) (by omega) hP
    rw [← hi] at hK
    exact hexit _ _ (by simp) (Eq.mp (by kernel_rfl) hK)
def isO (x : UInt8) : Bool := decide (x.toNat ≤ 1)
def toO (x : UInt8) : Bool := x == 1
theorem ind_eq (b : List UInt8) : indOk b = b.all isO := rfl
theorem all_at {b : List UInt8} {i : Nat} (h : i < b.length) (hx : isO (b.getD i 0) = false) : b.all isO = false := by
  cases he : b.all isO with
  | false => rfl
  | true => rw [List.all_eq_true] at he; rw [he _ (memD 0 h)] at hx; cases hx
theorem all_next {b : List UInt8} {i : Nat} (h : i < b.length) (ha : (b.take i).all isO = true) (hx : isO (b.getD i 0) = true) : (b.take (i + 1)).all isO = true := by
  rw [takeS 0 h, List.all_append, ha]; simpa using hx
theorem map_next {b : List UInt8} {i : Nat} (h : i < b.length) : (b.take (i + 1)).map toO = (b.take i).map toO ++ [toO (b.getD i 0)] := by rw [takeS 0 h, List.map_append]; rfl
theorem f32_ev (b : List UInt8) (hb : (b.length : Int) ≤ big') (K : List AV → Prop) (hK : K [.new (.bools (decO b)), bo (indOk b)]) : evSpec K0 Tryz.f86 [by' b] K := by
  have hbig : big' = 1000000000000 := rfl
  refine Eq.mpr (f32_in b K) ?_
  unfold LoopI
  refine loop_rule (fun i : Nat => h32 b ((b.take i).map toO) i) (fun i => i ≤ b.length ∧ (b.take i).all isO = true) (fun i => b.length - i) (fun i hP K' hnorm hexit => ?_) rfl 0 p32i _ ⟨Nat.zero_le _, rfl⟩ (by kernel_rfl)
  obtain ⟨hi, ha⟩ := hP
  rw [f32_lp]
  refine brn_intro (fun h => ?_) (fun h => ?_)
  · simp only [decide_eq_true_eq] at h
    have hlt : i < b.length := by omega
    have hx := (b.getD i 0).toNat_lt
    have e1 : IntKind.wrap .i64 (((b.getD i 0).toNat : Nat) : Int) = ((b.getD i 0).toNat : Int) := wrap64 (by omega) (by omega)
    have hl : ((b.take i).map toO).length = i := by rw [List.length_map, List.length_take]; omega
    have hn := map_next hlt
    simp only [inc (show i ≤ 1000000000000 by omega), e1, Int.toNat_natCast]
    refine ⟨by omega, by omega, brn_intro (fun h2 => ?_) (fun h2 => ?_)⟩
    · simp only [decide_eq_true_eq] at h2
      have hno : indOk b = false := by rw [ind_eq]; exact all_at hlt (by unfold isO; simp only [decide_eq_false_iff_not]; omega)
      unfold decO at hK
      rw [hno] at hK
      exact hexit _ _ (by simp) (Eq.mp (by kernel_rfl) hK)
    · simp only [decide_eq_false_iff_not] at h2
      have hok : isO (b.getD i 0) = true := by unfold isO; simp only [decide_eq_true_eq]; omega
      have key : ∀ v : Bool, toO (b.getD i 0) = v → (((b.take i).map toO).length + [v].length) * 1 ≤ 140737488355328 ∧ ((b.take i).map toO).length + [v].length ≤ 140737488355328 ∧ (b.take i).map toO ++ [v] = (b.take (i + 1)).map toO := by
        intro v hv
        rw [hn, hv, hl]
        exact ⟨by simp; omega, by simp; omega, rfl⟩
      refine ⟨by omega, by omega, fun h3 => ?_, fun h3 => ?_⟩
      · obtain ⟨k1, k2, k3⟩ := key false (by unfold toO; have : b.getD i 0 = 0 := UInt8.toNat_inj.1 (by show (b.getD i 0).toNat = 0; omega); rw [this]; rfl)
        rw [k3]
        exact ⟨k1, k2, hnorm (i + 1) ⟨[], msk [4, 7, 8, 9] 0 24, [0]⟩ _ ⟨hlt, all_next hlt ha hok⟩ (by omega) (by kernel_rfl)⟩
      · obtain ⟨k1, k2, k3⟩ := key true (by unfold toO; have : b.getD i 0 = 1 := UInt8.toNat_inj.1 (by show (b.getD i 0).toNat = 1; omega); rw [this]; rfl)
        rw [k3]
        exact ⟨k1, k2, hnorm (i + 1) ⟨[], msk [4, 7, 8, 9] 0 24, [0]⟩ _ ⟨hlt, all_next hlt ha hok⟩ (by omega) (by kernel_rfl)⟩
  · simp only [decide_eq_false_iff_not] at h
    have hil : i = b.length := by omega
    subst hil
    rw [List.take_length] at ha
    have hd : decO b = (b.take b.length).map toO := by unfold decO; rw [ind_eq, ha, if_pos rfl, List.take_length]; rfl
    rw [hd, ind_eq, ha] at hK
    exact hexit _ _ (by simp) (Eq.mp (by kernel_rfl) hK)
end Y27
set_option maxRecDepth 100000
namespace Y27
open Go Go.AE Go.Proofs E6
attribute [local irreducible] loopK evCode evSpec loopB norm
theorem wu64 (t : Int) : IntKind.wrap .u64 t = ((u64 t : Nat) : Int) := by
  rw [wrapUm]
  unfold u64
  exact (Int.toNat_of_nonneg (Int.emod_nonneg t (by decide))).symm
theorem encI_app (s : Nat) (A B : List Int) : encI s (A ++ B) = encI s A ++ encI s B := by
  induction A with
  | nil => rfl
  | cons a A ih => rw [List.cons_append, encI, encI, ih, List.append_assoc]
theorem encI_len (s : Nat) (T : List Int) : (encI s T).length = s * T.length := by
  induction T with
  | nil => rfl
  | cons a A ih => rw [encI, List.length_append, be_len, ih, List.length_cons, Nat.mul_succ]; omega
theorem encI_take (s : Nat) {T : List Int} {i : Nat} (h : i < T.length) : encI s (T.take (i + 1)) = encI s (T.take i) ++ be s (u64 (T.getD i 0)) := by
  rw [takeS 0 h, encI_app]
  simp [encI]
theorem encL_app (s : Nat) (A B : List Lp) : encL s (A ++ B) = encL s A ++ encL s B := by
  induction A with
  | nil => rfl
  | cons a A ih => rw [List.cons_append, encL, encL, ih]; simp only [List.append_assoc]
theorem encL_len (s : Nat) (T : List Lp) : (encL s T).length = (s + 4) * T.length := by
  induction T with
  | nil => rfl
  | cons a A ih => rw [encL, List.length_append, List.length_append, be_len, be_len, ih, List.length_cons, Nat.mul_succ]; omega
theorem encL_take (s : Nat) {T : List Lp} {i : Nat} (h : i < T.length) : encL s (T.take (i + 1)) = encL s (T.take i) ++ be s (u64 (T.getD i p0).a) ++ be 4 (u64 (T.getD i p0).c) := by
  rw [takeS p0 h, encL_app]
  simp [encL]
theorem le8 {n i L : Nat} (h : i ≤ L) (hL : L ≤ 10000000000) (hn : n ≤ 12) : n * i ≤ 120000000000 := Nat.le_trans (Nat.mul_le_mul hn (Nat.le_trans h hL)) (by decide)
theorem f58_ev (T : List Int) (s : Int) (hs : sz48 s) (hT : (T.length : Int) ≤ 10000000000) (K : List AV → Prop) (hK : K [.new (.bytes (encI s.toNat T))]) : evSpec K0 Tryz.f32 [ii T, i64 s] K := by
  obtain ⟨n, rfl, n4, n8⟩ := sz_nat hs
  rw [Int.toNat_natCast] at hK
  refine Eq.mpr (f58_in T n K) ?_
  unfold LoopI
  refine loop_rule (fun i : Nat => h58 T n (encI n (T.take i)) i) (fun i => i ≤ T.length) (fun i => T.length - i) (fun i hi K' hnorm hexit => ?_) rfl 0 p58i _ (Nat.zero_le _) (by kernel_rfl)
  rw [f58_lp]
  refine brn_intro (fun h => ?_) (fun h => ?_)
  · simp only [decide_eq_true_eq] at h
    have hlt : i < T.length := by omega
    have hl : (encI n (T.take i)).length = n * i := by rw [encI_len, List.length_take, Nat.min_eq_left hi]
    have hb2 := le8 (n := n) hi (by omega) (by omega)
    have hu := u64_lt (T.getD i 0)
    have et := encI_take n hlt
    simp only [inc (show i ≤ 1000000000000 by omega), Int.toNat_natCast, wu64, hl, ← et]
    refine ⟨by omega, by omega, by omega, by omega, by omega, by omega, by omega, hnorm (i + 1) ⟨[], msk [0, 1, 5, 6] 0 22, [1]⟩ _ hlt (by omega) (by kernel_rfl)⟩
  · simp only [decide_eq_false_iff_not] at h
    have hi : i = T.length := by omega
    have et : T.take i = T := by rw [hi, List.take_length]
    rw [et]
    exact hexit _ _ (by simp) (Eq.mp (by kernel_rfl) hK)
theorem f60_ev (L : List Lp) (hL : ∀ t ∈ L, okLp t) (s : Int) (hs : sz48 s) (hT : (L.length : Int) ≤ 10000000000) (K : List AV → Prop) (hK : K [.new (.bytes (encL s.toNat L))]) : evSpec K0 Tryz.f34 [.imm (slL L), i64 s] K := by
  obtain ⟨n, rfl, n4, n8⟩ := sz_nat hs
  rw [Int.toNat_natCast] at hK
  refine Eq.mpr (f60_in (L.map cellsL) n K) ?_
  unfold LoopI
  refine loop_rule (fun i : Nat => h60 (L.map cellsL) n (encL n (L.take i)) i) (fun i => i ≤ L.length) (fun i => L.length - i) (fun i hi K' hnorm hexit => ?_) rfl 0 p60i _ (Nat.zero_le _) (by kernel_rfl)
  rw [f60_lp]
  simp only [List.length_map]
  refine brn_intro (fun h => ?_) (fun h => ?_)
  · simp only [decide_eq_true_eq] at h
    have hlt : i < L.length := by omega
    have hok := hL _ (memD p0 hlt)
    have hl : (encL n (L.take i)).length = (n + 4) * i := by rw [encL_len, List.length_take, Nat.min_eq_left hi]
    have hb2 := le8 (n := n + 4) hi (by omega) (by omega)
    have et := encL_take n hlt
    simp only [inc (show i ≤ 1000000000000 by omega), Int.toNat_natCast, getL hlt, kL, aL, cL]
    generalize L.getD i p0 = t at hok et
    obtain ⟨q1, q2, q3, q4⟩ := hok
    have hu := u64_lt t.a
    have hv := u64_lt t.c
    have z4 : Int.toNat 4 = 4 := rfl
    have w : IntKind.wrap .i64 t.c = t.c := wrap64 (by omega) (by omega)
    simp only [w, wu64, Int.toNat_natCast, z4, hl, List.length_append, be_len, ← et]
    exact ⟨by omega, by omega, True.intro, by omega, by omega, by omega, by omega, by omega, by omega, by omega, True.intro, by omega, by omega, by omega, by omega, by omega, hnorm (i + 1) ⟨[], msk [0, 1, 5, 6] 0 32, [2]⟩ _ hlt (by omega) (by kernel_rfl)⟩
  · simp only [decide_eq_false_iff_not] at h
    have hi : i = L.length := by omega
    have et : L.take i = L := by rw [hi, List.take_length]
    rw [et]
    exact hexit _ _ (by simp) (Eq.mp (by kernel_rfl) hK)
def bO1 (x : Bool) : UInt8 := if x then 1 else 0
theorem encO_eq (l : List Bool) : encO l = l.map bO1 := rfl
theorem encO_next {l : List Bool} {i : Nat} (h : i < l.length) : encO (l.take (i + 1)) = encO (l.take i) ++ [bO1 (l.getD i false)] := by rw [takeS false h, encO_eq, encO_eq, List.map_append]; rfl
theorem encO_len (l : List Bool) {i : Nat} (h : i ≤ l.length) : (encO (l.take i)).length = i := by rw [encO_eq, List.length_map, List.length_take]; omega
theorem f61_ev (l : List Bool) (hl : (l.length : Int) ≤ big') (K : List AV → Prop) (hK : K [.new (.bytes (encO l))]) : evSpec K0 Tryz.f35 [oo l] K := by
  have hbig : big' = 1000000000000 := rfl
  refine Eq.mpr (f61_in l K) ?_
  unfold LoopI
  refine loop_rule (fun i : Nat => h61 l (encO (l.take i)) i) (fun i => i ≤ l.length) (fun i => l.length - i) (fun i hi K' hnorm hexit => ?_) rfl 0 p61i _ (Nat.zero_le _) (by kernel_rfl)
  rw [f61_lp]
  refine brn_intro (fun h => ?_) (fun h => ?_)
  · simp only [decide_eq_true_eq] at h
    have hlt : i < l.length := by omega
    have hp := encO_len l hi
    have hn := encO_next hlt
    simp only [inc (show i ≤ 1000000000000 by omega), Int.toNat_natCast]
    refine ⟨by omega, by omega, brn_intro (fun h2 => ?_) (fun h2 => ?_)⟩
    · have es : encO (l.take i) ++ List.map u8 [1] = encO (l.take (i + 1)) := by rw [hn, h2]; rfl
      rw [es, hp]
      exact ⟨by simp; omega, by simp; omega, hnorm (i + 1) ⟨[], msk [0, 3, 4] 0 22, [0]⟩ _ hlt (by omega) (by kernel_rfl)⟩
    · have es : encO (l.take i) ++ List.map u8 [0] = encO (l.take (i + 1)) := by rw [hn, h2]; rfl
      rw [es, hp]
      exact ⟨by simp; omega, by simp; omega, hnorm (i + 1) ⟨[], msk [0, 3, 4] 0 22, [0]⟩ _ hlt (by omega) (by kernel_rfl)⟩
  · simp only [decide_eq_false_iff_not] at h
    have hi : i = l.length := by omega
    have et : l.take i = l := by rw [hi, List.take_length]
    rw [et]
    exact hexit _ _ (by simp) (Eq.mp (by kernel_rfl) hK)
theorem f52_ev (T : List Int) (n : Int) (hn : sz48 n) (hT : (T.length : Int) ≤ big) (K : List AV → Prop) (hK : K [bo (fitP T n)]) : evSpec K1 Tryz.f55 [ii T, i64 n] K := by
  have hbig : big = 4611686018427387904 := rfl
  refine Eq.mpr (f52_in T n K) ?_
  unfold LoopI
  refine loop_rule (fun i : Nat => h52 T n i) (fun i => i ≤ T.length ∧ (T.take i).all (fun v => fitsP v n) = true) (fun i => T.length - i) (fun i hP K' hnorm hexit => ?_) rfl 0 p52 _ ⟨Nat.zero_le _, rfl⟩ (by kernel_rfl)
  obtain ⟨hi, ha⟩ := hP
  rw [f52_lp]
  refine brn_intro (fun h => ?_) (fun h => ?_)
  · simp only [decide_eq_true_eq] at h
    have hlt : i < T.length := by omega
    simp only [incB (show i ≤ 4611686018427387904 by omega), Int.toNat_natCast]
    refine ⟨by omega, by omega, hn, brn_intro (fun h2 => ?_) (fun h2 => ?_)⟩
    · have hno : fitP T n = false := by
        cases he : fitP T n with
        | false => rfl
        | true => unfold fitP at he; rw [List.all_eq_true] at he; rw [he _ (memD 0 hlt)] at h2; cases h2
      rw [hno] at hK
      exact hexit _ _ (by simp) (Eq.mp (by kernel_rfl) hK)
    · have h2' : fitsP (T.getD i 0) n = true := by simpa using h2
      refine hnorm (i + 1) p52 _ ⟨hlt, ?_⟩ (by omega) (by kernel_rfl)
      rw [takeS 0 hlt, List.all_append, ha]
      simpa using h2'
  · simp only [decide_eq_false_iff_not] at h
    have hil : i = T.length := by omega
    rw [hil, List.take_length] at ha
    have : fitP T n = true := ha
    rw [this] at hK
    exact hexit _ _ (by simp) (Eq.mp (by kernel_rfl) hK)
end Y27
namespace Y27
open Go Go.Proofs Go.RowKit Go.Lib
theorem add_calls (a b m : Int) (a0 : 0 ≤ a) (a1 : a ≤ 18446744073709551615) (b0 : 0 ≤ b) (b1 : b ≤ 18446744073709551615) (m0 : 0 ≤ m) (m1 : m ≤ 18446744073709551615) (w : World) :
    Calls Tryz.prog 107 #[.int .u64 a, .int .u64 b, .int .u64 m] w fun e w' => e = .returned (.tuple #[.int .u64 (if a + b ≤ m then a + b else 0), .bool (decide (a + b ≤ m))]) ∧ w' = w := by
  have h84 := @run_callFunc_extern Tryz.prog 125 _ add64Entry Tryz.func125 (by kernel_rfl) (by kernel_rfl) (by kernel_rfl) (by kernel_rfl)
  have hr := run_add64 (P := Tryz.prog) a b 0 a0 b0 (by decide) (by decide) w
  rw [Int.add_zero] at hr
  go_enter Tryz.func107, Tryz.ntmps107
  by_cases h : a + b < 18446744073709551616
  · have e1 : (a + b) % 18446744073709551616 = a + b := by omega
    have e2 : (a + b) / 18446744073709551616 = 0 := by omega
    rw [e1, e2] at hr
    by_cases hm : a + b ≤ m
    · have hg : ¬ (a + b > m) := by omega
      go_wp2
      go_ret2
      simp [hm]
    · have hg : a + b > m := by omega
      go_wp2
      go_ret2
      simp [hm]
  · have e2 : (a + b) / 18446744073709551616 = 1 := by omega
    have hm : ¬ (a + b ≤ m) := by omega
    rw [e2] at hr
    go_wp2
    go_ret2
    simp [hm]
end Y27
