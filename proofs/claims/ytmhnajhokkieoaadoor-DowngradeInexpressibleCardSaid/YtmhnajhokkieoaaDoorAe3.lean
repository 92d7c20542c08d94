/- The walk's evaluator and its laws (over whatever program), and contracts of the program's functions. -/
import Derived.Test.YtmhnajhokkieoaaDoorAe2
import Derived.OrdersHeld
import Derived.LoopN
import Derived.Scope
import Derived.Laws.Sem
import Derived.Test.YtmhnajhokkieoaaDoorProg
import Derived.KernelRfl
import Derived.Laws.BitsLemmas
import Derived.Lib.Bytealg
import Derived.Shelf.Strings.Search1
import Derived.Shelf.LaysM
import Derived.Shelf.Small.Strs
import Derived.Lib.RuneCount
set_option linter.all false
namespace Go.AE
open Go.RowKit
variable {C : Cx} {o : Oper} {a : Act} {g : Gh} {v : AV} {st : St} {gs gt : List (Nat × Bool)} {pres : List Prop} {b0 : Nat} {w0 : World}
theorem still_sound (hk : stillKind o.op = true) (hM : Mem C.G b0 w0 st.objs st.next g) (H : ∀ x, ARep g (st.opd gs x) (a.eval x))
    (Hp : ∀ t b, st.opd gs (.tmp t) = .imm (.bool b) → ∀ z, ARep g (st.opd (gext gt t b gs) z) (a.eval z)) (h : pureOp C gt st gs o = some (pres, v)) (hp : ∀ p, p ∈ pres → p) : PureStill C.P o a g v := by
  cases ho : o.op with
  | move x => exact op_move ho H h
  | assign x => exact op_assign ho H h
  | pick c x y => exact op_pick ho H Hp h
  | unOp u t x => exact op_unOp ho H h
  | binOp op t x y t' => exact op_binOp ho H h hp
  | extract x i => exact op_extract ho H h
  | field t x f => exact op_field ho H h
  | index t x i => exact op_index ho H h hp
  | fieldAddr t x f =>
    obtain ⟨V, hr, hv⟩ := any_fieldAddr ho hM H h
    exact ⟨V, hr _, hv⟩
  | load t x => exact op_load ho hM H h
  | nilCheck x => exact op_nilCheck ho H h
  | makeFunc fn x y => exact op_makeFunc ho H h
  | call c =>
    obtain ⟨callee, args, ts⟩ := c
    cases callee with
    | builtin b =>
      cases b with
      | len => exact op_len ho hM H h
      | min => exact op_min ho H h
      | max => exact op_max ho H h
      | _ => simp [ho, stillKind] at hk
    | _ => simp [ho, stillKind] at hk
  | _ => simp [ho, stillKind] at hk
theorem still_noEff {k kp : AV → St → Prop} (hsel : C.selp = false) (hk : stillKind o.op = true) (h : effOp C st o k kp) : False := by
  cases ho : o.op with
  | load t x => simp only [effOp, ho, hsel, cond_false] at h
  | binOp op t x y t' =>
    unfold effOp at h
    rw [ho] at h
    split at h <;> first | (rename_i e; cases e; done) | exact h.elim | (rw [hsel, cond_false] at h; exact h.elim)
  | call c =>
    unfold effOp at h
    obtain ⟨callee, args, ts⟩ := c
    cases callee with
    | builtin b => cases b <;> simp_all [stillKind]
    | _ => simp [ho, stillKind] at hk
  | _ => unfold effOp at h; simp_all [stillKind]
theorem still_call (hk : stillKind o.op = true) : isCall o.op = false := by
  cases ho : o.op with
  | call c =>
    obtain ⟨callee, args, ts⟩ := c
    cases callee with
    | value f => simp [ho, stillKind] at hk
    | _ => rfl
  | _ => rfl
theorem still_wp {P : Program} {ops : Array Oper} {w : World} {o : Oper} {rest : List Oper} {Q : Act → Prop} {V : Value} (hw : Region.wanted o (yielded ops a.tmps) = true) (hr : (execOp a.eval o).run P w = .ok (.value V) w) (h : wpStill P ops w Q rest (a.put o.dst V)) : wpStill P ops w Q (o :: rest) a := by
  unfold wpStill
  rw [if_pos hw]
  unfold Oper.still
  rw [hr, Oper.stillUpon_value]
  exact h
theorem still_split {op : Op} (h : stillKind op = true) : splitOp op = false := by
  unfold stillKind at h
  unfold splitOp
  split at h <;> first | rfl | cases h
theorem evOps_still {T : List Nat} {trk : Bool} {ops : Array Oper} {kp : AV → St → Prop} {K : St → Prop} {Q : Exit → Act → World → Prop} (hsel : C.selp = false) (hE : EOK C.P C.E C.G) (hC : CallOK C) (tl : List Oper) (hNt : ∀ o, o ∈ tl → NoW T o) : ∀ (hd : List Oper), (∀ o, o ∈ hd → NoW T o) → (∀ o, o ∈ hd → stillKind o.op = true) → ∀ (gt : List (Nat × Bool)) (st : St) (g : Gh) (a : Act), evOps C trk ops kp (hd ++ tl) gt st K → Mem C.G b0 w0 st.objs st.next g → SReg trk gt g st a →
    (∀ st' g' a', K st' → Mem C.G b0 w0 st'.objs st'.next g' → TmpsRep g' st'.tmps a' → OStep st g st' g' → Kept T a a' → Q .normal a' g'.w) →
    (∀ v st' g' V a', kp v st' → Mem C.G b0 w0 st'.objs st'.next g' → OStep st g st' g' → ARep g' v V → Kept T a a' → Q (.panic [{ v := V, recovered := false }]) a' g'.w) → wpStill C.P ops g.w (fun a' => wpList C.P ops Q tl a' g.w) hd a
  | [], _, _, gt, st, g, a, h, hM, hR, hn, hp => by
    unfold wpStill
    exact evOps_sound hE hC tl hNt gt st g a h hM hR hn hp
  | o :: rest, hN, hk, gt, st, g, a, h, hM, hR, hn, hp => by
    have hN1 := hN o (List.mem_cons_self ..)
    have hko := hk o (List.mem_cons_self ..)
    have cont : ∀ (gs : List (Nat × Bool)) (v : AV) (gt' : List (Nat × Bool)) (V : Value), gtPut trk gt o.dst v = some gt' → (gs ≠ [] → trk = true ∧ ∀ p, p ∈ gs → gtGet gt p.1 ≠ none) →
        (cond' gt gs → ARep g v V) → (¬ cond' gt gs → V = undef) → evOps C trk ops kp (rest ++ tl) gt' (st.putW gs o.dst v) K → wpStill C.P ops g.w (fun a' => wpList C.P ops Q tl a' g.w) rest (a.put o.dst V) := by
      intro gs v gt' V hg hkk hr hu hev
      obtain ⟨e1, e2, e3⟩ := putW_same st gs o.dst v
      have hO : OStep st g (st.putW gs o.dst v) g := (OStep.refl st g).same e3
      refine evOps_still hsel hE hC tl hNt rest (fun o' ho' => hN o' (List.mem_cons_of_mem _ ho')) (fun o' ho' => hk o' (List.mem_cons_of_mem _ ho')) gt' (st.putW gs o.dst v) g (a.put o.dst V) hev (by rw [e1, e2]; exact hM) (hR.write hg hkk hr hu) (fun st' g' a' q1 q2 q3 q4 q5 => ?_) (fun v' st' g' V' a' q1 q2 q3 q4 q5 => ?_)
      · exact hn st' g' a' q1 q2 q3 (hO.trans q4) ((kept_put hN1 _ _).trans q5)
      · exact hp v' st' g' V' a' q1 q2 (hO.trans q3) q4 ((kept_put hN1 _ _).trans q5)
    rw [List.cons_append] at h
    simp only [evOps] at h
    split at h
    · exact h.elim
    · rename_i hg
      rcases guardOf_spec hR hg with ⟨_, hw⟩ | ⟨hne, _⟩
      case inr => exact absurd rfl hne
      have hc : cond' gt [] := fun p hp => by cases hp
      rw [still_call hko, cond_false] at h
      split at h
      · rename_i ps v hpure
        split at h
        case h_2 => exact h.elim
        rename_i gt' hgt
        obtain ⟨hps, h⟩ := conj_elim h
        obtain ⟨V, hr, hv⟩ := still_sound hko hM (fun x => opd_sound hR hc x) (fun t b he z => opd_pick hR hc t b he z) hpure hps
        exact still_wp hw hr (cont [] v gt' V hgt (fun h => absurd rfl h) (fun _ => hv) (fun h => absurd hc h) h)
      · exact (still_noEff hsel hko h).elim
    · rename_i gs hne0 hg
      rcases guardOf_spec hR hg with ⟨e, _⟩ | ⟨hne, hw, htrk, hkeys⟩
      · exact absurd e (fun e => hne0 e)
      split at h
      case h_2 => rw [still_split hko, cond_false] at h; exact h.elim
      rename_i ps v hpure
      split at h
      case h_2 => exact h.elim
      rename_i gt' hgt
      obtain ⟨h, hps⟩ := obls_elim h
      have h' : evOps C trk ops kp (rest ++ tl) gt' (st.putW gs o.dst v) K := by
        cases gs with
        | nil => exact absurd rfl hne
        | cons _ _ => exact h
      by_cases hc : cond' gt gs
      · obtain ⟨V, hr, hv⟩ := still_sound hko hM (fun x => opd_sound hR hc x) (fun t b he z => opd_pick hR hc t b he z) hpure (hps hc)
        exact still_wp (hw.2 hc) hr (cont gs v gt' V hgt (fun _ => ⟨htrk, hkeys⟩) (fun _ => hv) (fun h => absurd hc h) h')
      · unfold wpStill
        rw [if_neg (fun hh => hc (hw.1 hh))]
        exact cont gs v gt' undef hgt (fun _ => ⟨htrk, hkeys⟩) (fun h => absurd h hc) (fun _ => rfl) h'
theorem headLen_spec : ∀ (l : List Oper) (n : Nat), n ≤ headLen l → ∀ o, o ∈ l.take n → stillKind o.op = true
  | [], n, _, o, h => by simp at h
  | x :: r, 0, _, o, h => by simp at h
  | x :: r, n + 1, hn, o, h => by
    unfold headLen at hn
    cases hk : stillKind x.op with
    | false => rw [hk] at hn; simp at hn
    | true =>
      rw [hk, cond_true] at hn
      rw [List.take_succ_cons] at h
      rcases List.mem_cons.1 h with rfl | h
      · exact hk
      · exact headLen_spec r n (by omega) o h
theorem tailAt_le (l : List Oper) : tailAt l ≤ headLen l := by
  unfold tailAt
  cases hb : Nat.beq (headLen l) (llen l) with
  | false => exact Nat.le_refl _
  | true =>
    rw [cond_true, ← nbeq hb]
    cases headLen l with
    | zero => exact Nat.le_refl _
    | succ n => exact Nat.le_succ n
end Go.AE
namespace Go.AE
open Go.RowKit
variable {C : Cx} {o : Oper} {a : Act} {g : Gh} {v : AV} {st : St} {pres : List Prop} {b0 : Nat} {w0 : World}
def Held (g0 : Gh) (H : List Nat) (b : Nat) : Prop := b < g0.w.heap.size ∧ (¬ g0.own b ∨ ∃ id, id ∈ H ∧ g0.ρ id = .pointer (some ⟨b, 0, none⟩))
def HS (g0 : Gh) (H : List Nat) (w : World) : Prop := g0.w.heap.size ≤ w.heap.size ∧ ∀ b, Held g0 H b → w.heap[b]? = g0.w.heap[b]?
theorem HS.below {g0 : Gh} {H : List Nat} {w w' : World} (h : HS g0 H w) (hb : Below w.heap.size w w') : HS g0 H w' :=
  ⟨Nat.le_trans h.1 hb.size, fun b q => (hb.block b (Nat.lt_of_lt_of_le q.1 h.1)).trans (h.2 b q)⟩
theorem load_at {t : TypeId} {x : Operand} {ti : TI} {ad : Addr} {cs : List AV} {f : Nat → Value} {w : World} (ho : o.op = .load t x) (ht : tinfo C.P t = some ti) (hX : a.eval x = .pointer (some ad)) (hlen : cs.length = ti.size)
    (hf : ∀ j, j < ti.size → w.cell? (ad.add j) = some (f j)) (h : readCells (aggD ti.desc) cs = some (pres, v)) :
    (execOp a.eval o).run C.P w = .ok (.value (bif aggD ti.desc then .agg ((List.range ti.size).map f).toArray else f 0)) w := by
  obtain ⟨k1, k2⟩ := run_loadAt (P := C.P) w ht ad f hf
  obtain ⟨rfl, ⟨ha, rfl⟩ | ⟨ha, hs1⟩⟩ := readCells_spec h
  · simp only [execOp, ho, hX, Sem.run_bind, k1 ha, Result.andThen_ok, Sem.run_pure, ha, cond_true]
  · have h0 : 0 < ti.size := by rw [← hlen, hs1]; simp
    simp only [execOp, ho, hX, Sem.run_bind, k2 ha h0, Result.andThen_ok, Sem.run_pure, ha, cond_false]
theorem load_held {t : TypeId} {x : Operand} (ho : o.op = .load t x) (hM : Mem C.G b0 w0 st.objs st.next g) (H : ∀ x, ARep g (st.opd [] x) (a.eval x)) (h : pureOp C [] st [] o = some (pres, v)) :
    (∀ id off, st.opd [] x = .ptr id off → ∀ b, g.ρ id = .pointer (some ⟨b, 0, none⟩) → ∃ V, ∀ w, w.heap[b]? = g.w.heap[b]? → (execOp a.eval o).run C.P w = .ok (.value V) w) ∧
    (∀ n off, st.opd [] x = .gptr n off → (∃ l, C.G n = some l) ∧ ∃ V, ∀ w, w.heap[n]? = g.w.heap[n]? → (execOp a.eval o).run C.P w = .ok (.value V) w) := by
  have hx := H x
  simp only [pureOp, ho] at h
  refine ⟨fun id off e bb hbb => ?_, fun n off e => ?_⟩
  · rw [e] at hx h
    split at h
    case h_5 => cases h
    case h_1 => rename_i e'; cases e'
    case h_3 => rename_i e'; cases e'
    case h_4 => rename_i e'; cases e'
    rename_i ti id' off' ht e'
    cases e'
    generalize hX : a.eval x = X at hx
    split at h
    case h_2 => cases h
    rename_i own ver l hlk
    cases hb : Nat.ble (off + ti.size) (llen l) with
    | false => simp [hb] at h
    | true =>
      simp only [hb, cond_true] at h
      have hl := nble hb
      rw [llen_eq] at hl
      cases hx with
      | @ptr _ _ b _ r1 r2 =>
        rw [r2] at hbb
        cases hbb
        rw [hM.same] at r1
        rw [hlk] at r1
        cases r1
        have hob := hM.each id _ (by rw [hM.same]; exact hlk)
        rw [r2] at hob
        generalize g.ex id = ee at hob
        cases hob with
        | @cells _ _ _ _ c T fr k1 k2 k3 k4 k5 k6 =>
          refine ⟨_, fun w hw => load_at (f := fun j => c.getD (off + j) undef) (w := w) ho ht hX (by simp [ltake_eq, ldrop_eq]; omega) (fun j hj => ?_) h⟩
          rw [add_plain, cell_of_row w _ (off + j) c T fr (hw.trans k2)]
          exact some_of_lt (by omega)
  · rw [e] at hx h
    split at h
    case h_5 => cases h
    case h_1 => rename_i e'; cases e'
    case h_2 => rename_i e'; cases e'
    case h_3 => rename_i e'; cases e'
    rename_i ti n' off' ht e'
    cases e'
    generalize hX : a.eval x = X at hx
    split at h
    case h_2 => cases h
    rename_i l hG
    cases hb : Nat.ble (off + ti.size) (llen l) with
    | false => simp [hb] at h
    | true =>
      simp only [hb, cond_true] at h
      have hl := nble hb
      rw [llen_eq] at hl
      cases hx with
      | gptr =>
        obtain ⟨_, c, T, fr, k2, k4, k5, k6⟩ := hM.glob n l hG
        refine ⟨⟨l, hG⟩, _, fun w hw => load_at (f := fun j => c.getD (off + j) undef) (w := w) ho ht hX (by simp [ltake_eq, ldrop_eq]; omega) (fun j hj => ?_) h⟩
        rw [add_plain, cell_of_row w n (off + j) c T fr (hw.trans k2)]
        exact some_of_lt (by omega)
theorem any_extract {x : Operand} {i : Nat} (ho : o.op = .extract x i) (H : ∀ x, ARep g (st.opd [] x) (a.eval x)) (h : pureOp C [] st [] o = some (pres, v)) : PureAny C.P o a g v := by
  have hx := H x
  simp only [pureOp, ho] at h
  split at h
  case h_2 => cases h
  rename_i vs e
  rw [e] at hx
  generalize hX : a.eval x = X at hx
  cases hx with
  | @tup _ us h1 h2 =>
    rw [lget_eq] at h
    split at h
    case h_2 => cases h
    rename_i c hi
    simp only [Option.some.injEq, Prod.mk.injEq] at h
    obtain ⟨rfl, rfl⟩ := h
    have hlt : i < us.size := by rw [h1]; exact (List.getElem?_eq_some_iff.1 hi).1
    exact pureAny_value (V := us.getD i undef) (fun w => by simp only [execOp, ho, hX, Instr.extract, some_of_lt hlt]; rfl) (h2 i c hi)
theorem held1_spec {ops : List Oper} {L : List Bool} {H : List Nat} {i j : Nat} (h : held1 C ops L H st i = some (j, o, pres, v)) :
    j = i ∧ ops[i]? = some o ∧ o.guard = none ∧ heldK H st o.op = true ∧ pureOp C [] st [] o = some (pres, v) ∧ freeL ops L i = true := by
  unfold held1 at h
  rw [lget_eq] at h
  split at h
  · cases h
  rename_i o' ho
  split at h
  · cases h
  rename_i hg
  obtain ⟨hk, h⟩ := bif_some h
  split at h
  case h_2 => cases h
  rename_i ps u hp
  obtain ⟨hf, h⟩ := bif_some h
  cases h
  exact ⟨rfl, ho, hg, hk, hp, hf⟩
theorem heldPick_spec {ops : List Oper} {L : List Bool} {H : List Nat} {j : Nat} : ∀ {r : List Nat}, heldPick C ops L H st r = some (j, o, pres, v) → j ∈ r ∧ ops[j]? = some o ∧ o.guard = none ∧ heldK H st o.op = true ∧ pureOp C [] st [] o = some (pres, v) ∧ freeL ops L j = true
  | [], h => by cases h
  | i :: r, h => by
    unfold heldPick at h
    split at h
    · rename_i x hx
      cases h
      obtain ⟨e, h2⟩ := held1_spec hx
      subst e
      exact ⟨List.mem_cons_self .., h2⟩
    · obtain ⟨h1, h2⟩ := heldPick_spec h
      exact ⟨List.mem_cons_of_mem _ h1, h2⟩
theorem heldK_sound {g0 : Gh} {H : List Nat} (hH : ∀ id, id ∈ H → ∃ ob b, lookup g0.objs id = some ob ∧ g0.ρ id = .pointer (some ⟨b, 0, none⟩) ∧ b < g0.w.heap.size) (hG0 : GOK C.G g0.w g0.own) (hs0 : Stays g0 g) (hS : HS g0 H g.w)
    (hk : heldK H st o.op = true) (hM : Mem C.G b0 w0 st.objs st.next g) (hO : ∀ x, ARep g (st.opd [] x) (a.eval x)) (h : pureOp C [] st [] o = some (pres, v)) (hp : ∀ p, p ∈ pres → p) :
    ∃ V, (∀ w, HS g0 H w → (execOp a.eval o).run C.P w = .ok (.value V) w) ∧ ARep g v V := by
  have any : PureAny C.P o a g v → ∃ V, (∀ w, HS g0 H w → (execOp a.eval o).run C.P w = .ok (.value V) w) ∧ ARep g v V := fun ⟨V, h1, h2⟩ => ⟨V, fun w _ => h1 w, h2⟩
  have ld : ∀ t x, o.op = .load t x → ∀ b, Held g0 H b → (∃ V, ∀ w, w.heap[b]? = g.w.heap[b]? → (execOp a.eval o).run C.P w = .ok (.value V) w) → ∃ V, (∀ w, HS g0 H w → (execOp a.eval o).run C.P w = .ok (.value V) w) ∧ ARep g v V := by
    intro t x ho b hb ⟨V, hV⟩
    obtain ⟨V', hr, hv⟩ := op_load ho hM hO h
    have e := hV g.w rfl
    rw [hr] at e
    cases e
    exact ⟨_, fun w hw => hV w ((hw.2 b hb).trans (hS.2 b hb).symm), hv⟩
  cases ho : o.op with
  | load t x =>
    simp only [ho, heldK] at hk
    obtain ⟨l1, l2⟩ := load_held ho hM hO h
    unfold heldX at hk
    split at hk
    · rename_i id off e
      rw [natIn_eq, List.contains_iff_mem] at hk
      obtain ⟨ob, b, k1, k2, k3⟩ := hH id hk
      exact ld t x ho b ⟨k3, .inr ⟨id, hk, k2⟩⟩ (l1 id off e b (hs0 id ob b k1 k2))
    · rename_i n off e
      obtain ⟨⟨l, hl⟩, l3⟩ := l2 n off e
      obtain ⟨q1, c, T, fr, q2, _⟩ := hG0 n l hl
      exact ld t x ho n ⟨(Array.getElem?_eq_some_iff.1 q2).1, .inl q1⟩ l3
    · cases hk
  | extract x i => exact any (any_extract ho hO h)
  | move x => exact any (any_sound (by rw [ho]; rfl) hM hO h hp)
  | assign x => exact any (any_sound (by rw [ho]; rfl) hM hO h hp)
  | nilCheck x => exact any (any_sound (by rw [ho]; rfl) hM hO h hp)
  | fieldAddr t x f => exact any (any_sound (by rw [ho]; rfl) hM hO h hp)
  | indexAddr t x i => exact any (any_sound (by rw [ho]; rfl) hM hO h hp)
  | _ => simp [ho, heldK, anyKind] at hk
theorem lk_ptr {V : Value} {id off : Nat} (h : ARep g (.ptr id off) V) : (lookup g.objs id).isSome = true := by
  cases h with
  | ptr h1 _ => rw [h1]; first | done | rfl
theorem lk_elp {V : Value} {id ver i off : Nat} (h : ARep g (.elp id ver i off) V) : (lookup g.objs id).isSome = true := by
  cases h with
  | elp h1 _ _ _ _ => rw [h1]; first | done | rfl
theorem lk_row {V : Value} {id ver : Nat} (h : ARep g (.row id ver) V) : (lookup g.objs id).isSome = true := by
  cases h with
  | row h1 _ _ _ _ => rw [h1]; first | done | rfl
theorem wrote_some {T : List Nat} {id : Nat} (hO : ∀ x, ARep g (st.opd [] x) (a.eval x)) (h : wrote C st o = some T) (hid : id ∈ T) : (lookup g.objs id).isSome = true := by
  unfold wrote at h
  split at h
  · rename_i t x _ _
    have hx := hO x
    split at h
    · rename_i e; cases h; rw [List.mem_singleton.1 hid]; rw [e] at hx; exact lk_ptr hx
    · rename_i e; cases h; rw [List.mem_singleton.1 hid]; rw [e] at hx; exact lk_elp hx
    · cases h
  · rename_i x _ _
    have hx := hO x
    split at h
    · rename_i e; cases h; rw [List.mem_singleton.1 hid]; rw [e] at hx; exact lk_ptr hx
    · cases h
  · rename_i x _
    have hx := hO x
    split at h
    · rename_i e; cases h; rw [List.mem_singleton.1 hid]; rw [e] at hx; exact lk_row hx
    · cases h; cases hid
  · split at h
    · rename_i s _ t _ _ _
      have hx := typed_sound (P := C.P) (t := t) (hO s)
      split at h
      · rename_i e
        cases h
        rw [List.mem_singleton.1 hid]
        rw [e] at hx
        exact lk_row hx
      · cases h; cases hid
    · cases h
  · split at h
    · rw [omap_eq, Option.map_eq_some_iff] at h
      obtain ⟨_, _, rfl⟩ := h
      cases hid
    · cases h
  · cases h; cases hid
theorem heldOk_sound {g0 g' : Gh} {H : List Nat} (hH : ∀ id, id ∈ H → ∃ ob b, lookup g0.objs id = some ob ∧ g0.ρ id = .pointer (some ⟨b, 0, none⟩) ∧ b < g0.w.heap.size) (hx0 : Ext g0 g) (hs0 : Stays g0 g) (hS : HS g0 H g.w)
    (hM : Mem C.G b0 w0 st.objs st.next g) (hO : ∀ x, ARep g (st.opd [] x) (a.eval x)) (h : heldOk C st o H = true) (hf : Fr C st o g g') : Ext g g' ∧ Stays g g' ∧ HS g0 H g'.w := by
  unfold heldOk at h
  split at h
  case h_2 => cases h
  rename_i T hT
  obtain ⟨f1, f2, f3⟩ := hf T hT
  refine ⟨f1, f2, Nat.le_trans hS.1 f1.size, fun b hb => ?_⟩
  refine Eq.trans ?_ (hS.2 b hb)
  have hlt : b < g.w.heap.size := Nat.lt_of_lt_of_le hb.1 hS.1
  rcases hb.2 with hn | ⟨id, hid, hρ⟩
  · exact f1.kept b hlt (fun ho => hn (hx0.own b hb.1 ho))
  · refine f3 b hlt (fun id' hid' he hbk => ?_)
    obtain ⟨ob, b', k1, k2, k3⟩ := hH id hid
    rw [hρ] at k2
    cases k2
    have r1 := hs0 id ob b k1 hρ
    obtain ⟨ob1, r2, _⟩ := hx0.objs id ob k1
    have hob := hM.each id ob1 r2
    have hex : g.ex id = true := by
      rw [r1] at hob
      generalize g.ex id = ee at hob
      cases hob with
      | cells h1 => exact h1
      | iter h1 => exact h1
    have := hM.uniq id id' b (by rw [r2]; rfl) (wrote_some hO hT hid') hex he (by rw [r1]; rfl) hbk
    subst this
    rw [lall_eq, List.all_eq_true] at h
    have := h id hid'
    rw [natIn_eq, List.contains_iff_mem.2 hid] at this
    cases this
theorem evDrawH_sound {T : List Nat} {ops : List Oper} {K : St → Prop} {kp : AV → St → Prop} {Q : Exit → Act → World → Prop} (hE : EOK C.P C.E C.G) (hC : CallOK C) (hns : Region.noSelect ops.toArray = true) (hN : ∀ o, o ∈ ops → NoW T o) (hQ : ∀ c a (o : Oper) V w, NoW T o → Q (.panic c) (Act.put a o.dst V) w → Q (.panic c) a w)
    {g0 : Gh} {H : List Nat} (hH : ∀ id, id ∈ H → ∃ ob b, lookup g0.objs id = some ob ∧ g0.ρ id = .pointer (some ⟨b, 0, none⟩) ∧ b < g0.w.heap.size) (hG0 : GOK C.G g0.w g0.own) : ∀ (n : Nat) (L : List Bool) (st : St) (g : Gh) (a : Act), evDrawH C ops kp H n L st K → Mem C.G b0 w0 st.objs st.next g → SReg false [] g st a → Ext g0 g → Stays g0 g → HS g0 H g.w →
    (∀ st' g' a', K st' → Mem C.G b0 w0 st'.objs st'.next g' → TmpsRep g' st'.tmps a' → OStep st g st' g' → Kept T a a' → Q .normal a' g'.w) →
    (∀ v st' g' V a', kp v st' → Mem C.G b0 w0 st'.objs st'.next g' → OStep st g st' g' → ARep g' v V → Kept T a a' → Q (.panic [{ v := V, recovered := false }]) a' g'.w) →
    wpAnyH C.P .any ops.toArray Q (HS g0 H) n L.toArray a g.w
  | 0, L, st, g, a, h, hM, hR, hx0, hs0, hS, hn, _ => by
    unfold evDrawH at h
    rw [readyL_eq] at h
    split at h
    case h_2 => exact h.elim
    rename_i hr
    exact ⟨hr, hn st g a h hM ⟨hR.size, hR.slot⟩ (.refl _ _) (.refl _ _)⟩
  | n + 1, L, st, g, a, h, hM, hR, hx0, hs0, hS, hn, hp => by
    unfold evDrawH at h
    simp only [St.forceP_eq, boolsP_eq] at h
    have hc : cond' [] [] := fun p hp => by cases hp
    have hO : ∀ x, ARep g (st.opd [] x) (a.eval x) := fun x => opd_sound hR hc x
    have cont : ∀ (i : Nat) (o : Oper) (v : AV) (V : Value) (w' : World), NoW T o → Below g.w.heap.size g.w w' → ARep { g with w := w' } v V → evDrawH C ops kp H n (bset L i) (st.put o.dst v) K →
        HS g0 H w' ∧ wpAnyH C.P .any ops.toArray Q (HS g0 H) n (L.toArray.setIfInBounds i true) (a.put o.dst V) w' := by
      intro i o v V w' hN1 hb hr hev
      have hx := ext_grow (g := g) hb
      have hs := stays_grow (g := g) (w' := w')
      have hR' : SReg false [] { g with w := w' } st a := hR.step rfl (fun t => .of hx hs _)
      obtain ⟨e1, e2, e3⟩ := putW_same st [] o.dst v
      have hO : OStep st g (st.putW [] o.dst v) { g with w := w' } := ⟨⟨by rw [e3], fun t => by rw [e3]; exact .of hx hs _⟩, rfl⟩
      refine ⟨hS.below hb, ?_⟩
      rw [← bset_eq]
      refine evDrawH_sound hE hC hns hN hQ hH hG0 n (bset L i) (st.putW [] o.dst v) { g with w := w' } (a.put o.dst V) hev (by rw [e1, e2]; exact hM.grow hb) (hR'.write (gt' := []) (gs := []) (by unfold gtPut; rfl) (fun h => absurd rfl h) (fun _ => hr) (fun h => absurd hc h)) (hx0.trans hx) (hs0.trans hx0 hs) (hS.below hb) (fun st' g' a' q1 q2 q3 q4 q5 => ?_) (fun v' st' g' V' a' q1 q2 q3 q4 q5 => ?_)
      · exact hn st' g' a' q1 q2 q3 (hO.trans q4) ((kept_put hN1 _ _).trans q5)
      · exact hp v' st' g' V' a' q1 q2 (hO.trans q3) q4 ((kept_put hN1 _ _).trans q5)
    split at h
    · rename_i i o ps v hpk
      obtain ⟨hps, h⟩ := conj_elim h
      unfold pickH at hpk
      split at hpk
      · rename_i x hx
        cases hpk
        obtain ⟨hm, ho, hg, hk, hpu, hs, hf⟩ := steadyPick_spec hx
        have hN1 := hN o (List.mem_of_getElem? ho)
        rw [readyL_eq] at hm
        obtain ⟨V, hrun, hv⟩ := steady_still hk hR hpu hps g.w
        have hy : Yields C.P ops.toArray o V a := by
          refine .inl ⟨wantO_spec hR hg, fun w => ?_⟩
          obtain ⟨V', hrun', hv'⟩ := steady_still hk hR hpu hps w
          rw [scal_one hs hv hv']
          exact hrun'
        refine wpAnyH_take (i := i) (oi := o) (v := V) (by simpa using ho) hns (freeL_ok hf) (by simpa using hm) (fun _ _ _ h => hQ _ _ _ _ _ hN1 h) hy.yieldsIf hS ?_
        exact (cont i o v V g.w hN1 (Below.refl _ _) (scal_rep hv hs) h).2
      · obtain ⟨hm, ho, hg, hk, hpu, hf⟩ := heldPick_spec hpk
        have hN1 := hN o (List.mem_of_getElem? ho)
        rw [readyL_eq] at hm
        obtain ⟨V, hrun, hv⟩ := heldK_sound hH hG0 hs0 hS hk hM hO hpu hps
        refine wpAnyH_take (i := i) (oi := o) (v := V) (by simpa using ho) hns (freeL_ok hf) (by simpa using hm) (fun _ _ _ h => hQ _ _ _ _ _ hN1 h) (.inl ⟨wanted_none hg _, hrun⟩) hS ?_
        exact (cont i o v V g.w hN1 (Below.refl _ _) hv h).2
    · rw [readyL_eq] at h
      split at h
      · rename_i hr
        exact wpAnyH_done hr (hn st g a h hM ⟨hR.size, hR.slot⟩ (.refl _ _) (.refl _ _)) _
      · rename_i i0 r0 hr
        refine wpAnyH_all hr (by simp) (fun j hj => ?_)
        replace h := drawAll_mem h hj
        rw [lget_eq] at h
        split at h
        · exact h.elim
        rename_i o ho
        have hN1 := hN o (List.mem_of_getElem? ho)
        unfold wpOp
        have ho' : ops.toArray[j]? = some o := by simpa using ho
        rw [ho']
        split at h
        · exact h.elim
        rename_i hg
        simp only [wanted_none hg, if_true]
        left
        split at h
        · rename_i ps v hpure
          have hpure' : pureOp C [] st [] o = some (ps, v) := by
            cases hi : isCall o.op with
            | true => rw [hi, cond_true] at hpure; cases hpure
            | false => rw [hi, cond_false] at hpure; exact hpure
          obtain ⟨hps, h⟩ := conj_elim h
          refine pureOp_sound hM hE hO (fun t b he z => opd_pick hR hc t b he z) hpure' hps _ _ (fun V w' hb hr => ?_)
          exact cont j o v V w' hN1 hb hr h
        · obtain ⟨hok, h⟩ := bif_prop h
          refine effOp_sound hM hE hC hO h _ _ (fun v st' g' V hk hM' hst hr hfr => ?_) (fun v st' g' V hk hM' hst hr => hp v st' g' V a hk hM' hst.toO hr (.refl _ _))
          obtain ⟨x1, x2, x3⟩ := heldOk_sound hH hx0 hs0 hS hM hO hok hfr
          obtain ⟨e1, e2, e3⟩ := putW_same st' [] o.dst v
          have hR' := hR.step hst.tmps.1 hst.tmps.2
          have hO : OStep st g (st'.putW [] o.dst v) g' := hst.toO.same e3
          refine ⟨x3, ?_⟩
          rw [← bset_eq]
          refine evDrawH_sound hE hC hns hN hQ hH hG0 n (bset L j) (st'.putW [] o.dst v) g' (a.put o.dst V) hk (by rw [e1, e2]; exact hM') (hR'.write (gt' := []) (gs := []) (by unfold gtPut; rfl) (fun h => absurd rfl h) (fun _ => hr) (fun h => absurd hc h)) (hx0.trans x1) (hs0.trans hx0 x2) x3 (fun st'' g'' a' q1 q2 q3 q4 q5 => ?_) (fun v' st'' g'' V' a' q1 q2 q3 q4 q5 => ?_)
          · exact hn st'' g'' a' q1 q2 q3 (hO.trans q4) ((kept_put hN1 _ _).trans q5)
          · exact hp v' st'' g'' V' a' q1 q2 (hO.trans q3) q4 ((kept_put hN1 _ _).trans q5)
theorem cellIds_spec (hM : Mem C.G b0 w0 st.objs st.next g) {ops : List Oper} : ∀ id, id ∈ heldIds ops st → ∃ ob b, lookup g.objs id = some ob ∧ g.ρ id = .pointer (some ⟨b, 0, none⟩) ∧ b < g.w.heap.size := by
  intro id h
  unfold heldIds at h
  split at h
  case h_2 => cases h
  case h_1 =>
    rw [lfilt_eq, List.mem_filter] at h
    replace h := h.1
    unfold cellIds at h
    rw [lfilt_eq, List.mem_filter] at h
    have h2 := h.2
    unfold cellAt at h2
    split at h2
    case h_2 => cases h2
    rename_i own ver cs hk
    have hob := hM.each id _ (by rw [hM.same]; exact hk)
    have hV : ∃ V, V = g.ρ id := ⟨_, rfl⟩
    obtain ⟨V, hV⟩ := hV
    rw [← hV] at hob
    generalize hee : g.ex id = ee at hob
    cases hob with
    | @cells _ _ b _ c T fr k1 k2 => exact ⟨_, b, by rw [hM.same]; exact hk, hV.symm, (Array.getElem?_eq_some_iff.1 k2).1⟩
end Go.AE
namespace Go.AE
open Go.RowKit
variable {C : Cx} {o : Oper} {a : Act} {g : Gh} {v : AV} {st : St} {gs gt : List (Nat × Bool)} {pres : List Prop} {b0 : Nat} {w0 : World}
theorem SReg.start {ops : Array Oper} (hT : TmpsRep g st.tmps a) : SReg (hasGuard ops) [] g (st.clean ops) a := by
  have hc : (st.clean ops).tmps.length = st.tmps.length ∧ (∀ t, ARep g (nth .dead (st.clean ops).tmps t) (a.tmps.getD t undef)) ∧ (hasGuard ops = true → ∀ t gs u, nth .dead (st.clean ops).tmps t ≠ .opt gs u) := by
    unfold St.clean
    cases hasGuard ops with
    | false => exact ⟨rfl, hT.2, fun h => by cases h⟩
    | true =>
      simp only [cond_true, lmap_eq]
      refine ⟨by simp, fun t => ?_, fun _ t gs u => ?_⟩
      · rw [nth_map _ rfl]; exact clean1_rep (hT.2 t)
      · rw [nth_map _ rfl]; exact clean1_ne _ gs u
  exact ⟨by rw [hT.1, hc.1], hc.2.1, fun t gs u _ hne hcd => by
    cases gs with
    | nil => exact absurd rfl hne
    | cons p r => have := hcd p (List.mem_cons_self ..); simp [gtGet] at this, fun ht t gs u e => absurd e (hc.2.2 ht t gs u), fun _ => rfl, fun t b h => by simp [gtGet] at h⟩
theorem clean_same (st : St) (ops : Array Oper) : (st.clean ops).objs = st.objs ∧ (st.clean ops).next = st.next ∧ (st.clean ops).outer = st.outer := by
  unfold St.clean
  cases hasGuard ops <;> exact ⟨rfl, rfl, rfl⟩
def AtExit (g : Gh) (st : St) (a : Act) (Q : Exit → Act → World → Prop) : AX → Prop
  | .normal => TmpsRep g st.tmps a → Q .normal a g.w
  | .exit id => TmpsRep g st.tmps a → Q (.exit id) a g.w
  | .ret => TmpsRep g st.tmps a → Q .ret a g.w
  | .panic v => ∀ V, ARep g v V → Q (.panic [{ v := V, recovered := false }]) a g.w
def Ends (T : List Nat) (C : Cx) (b0 : Nat) (w0 : World) (st : St) (g : Gh) (a : Act) (k : AX → St → Prop) (Q : Exit → Act → World → Prop) : Prop :=
  ∀ x st' g' a', k x st' → Mem C.G b0 w0 st'.objs st'.next g' → OStep st g st' g' → Kept T a a' → AtExit g' st' a' Q x
theorem noWl_ok {T : List Nat} : ∀ {l : List Oper}, noWl T l = true → ∀ o, o ∈ l → NoW T o
  | [], _, o, h => by cases h
  | x :: r, h, o, hm => by
    unfold noWl at h
    cases hb : noW1 T x.dst with
    | false => rw [hb] at h; cases h
    | true =>
      rw [hb, cond_true] at h
      rcases List.mem_cons.1 hm with rfl | hm
      · intro t ht
        rw [ht] at hb
        unfold noW1 at hb
        exact noWm_ok hb
      · exact noWl_ok h o hm
theorem evCode_sound {T : List Nat} (hE : EOK C.P C.E C.G) (hC : CallOK C) : ∀ (c : Code), noWC T c = true → ∀ (st : St) (g : Gh) (a : Act) (k : AX → St → Prop) (Q : Exit → Act → World → Prop), evCode C c st k → Mem C.G b0 w0 st.objs st.next g → TmpsRep g st.tmps a → Ends T C b0 w0 st g a k Q → c.wp C.P Q a g.w := by
  intro c
  induction c with
  | skip => exact fun _ st g a k Q h hM hT hk => wp_skip (hk .normal st g a h hM (.refl _ _) (.refl _ _) hT)
  | exit id => exact fun _ st g a k Q h hM hT hk => wp_exit (hk (.exit id) st g a h hM (.refl _ _) (.refl _ _) hT)
  | ret => exact fun _ st g a k Q h hM hT hk => wp_ret (hk .ret st g a h hM (.refl _ _) (.refl _ _) hT)
  | label l => exact fun _ st g a k Q h hM hT hk => wp_label (hk .normal st g a h hM (.refl _ _) (.refl _ _) hT)
  | scope c ih =>
    intro hW st g a k Q h hM hT hk
    simp only [noWC] at hW
    simp only [evCode] at h
    refine wp_scope_straight (ih hW st g a _ _ h hM hT (fun e st1 g1 a1 h1 hM1 hO1 hd1 => ?_))
    have := hk e st1 g1 a1 h1 hM1 hO1 hd1
    cases e <;> exact this
  | seq x y ihx ihy =>
    intro hW st g a k Q h hM hT hk
    simp only [noWC] at hW
    simp only [evCode] at h
    obtain ⟨hW1, hW2⟩ := bif_and hW
    refine wp_seq (ihx hW1 st g a _ _ h hM hT (fun e st1 g1 a1 h1 hM1 hO1 hd1 => ?_))
    cases e with
    | normal =>
      intro hT1
      simp only [Exit.then]
      exact ihy hW2 st1 g1 a1 k Q h1 hM1 hT1 (fun e st2 g2 a2 h2 hM2 hO2 hd2 => hk e st2 g2 a2 h2 hM2 (hO1.trans hO2) (hd1.trans hd2))
    | exit id => exact hk (.exit id) st1 g1 a1 h1 hM1 hO1 hd1
    | ret => exact hk .ret st1 g1 a1 h1 hM1 hO1 hd1
    | panic v => exact hk (.panic v) st1 g1 a1 h1 hM1 hO1 hd1
  | cond c x y ihx ihy =>
    intro hW st g a k Q h hM hT hk
    simp only [noWC] at hW
    simp only [evCode] at h
    obtain ⟨hW1, hW2⟩ := bif_and hW
    split at h
    case h_2 => exact h.elim
    rename_i t e
    have hR : SReg false [] g st a := ⟨hT.1, hT.2, fun t gs u _ hne hcd => (by
      cases gs with
      | nil => exact absurd rfl hne
      | cons p r => have := hcd p (List.mem_cons_self ..); simp [gtGet] at this), fun h => (by cases h), fun _ => rfl, fun t b h => (by simp [gtGet] at h)⟩
    have hc := opd_sound hR (gs := []) (fun p hp => by cases hp) c
    rw [e] at hc
    have hc := arep_bool hc
    cases t with
    | true => exact wp_cond_true hc (ihx hW1 st g a k Q (brn_true h rfl) hM hT hk)
    | false => exact wp_cond_false hc (ihy hW2 st g a k Q (brn_false h rfl) hM hT hk)
  | block id c ih =>
    intro hW st g a k Q h hM hT hk
    simp only [noWC] at hW
    simp only [evCode] at h
    refine wp_block (ih hW st g a _ _ h hM hT (fun e st1 g1 a1 h1 hM1 hO1 hd1 => ?_))
    cases e with
    | normal => exact hk .normal st1 g1 a1 h1 hM1 hO1 hd1
    | exit i =>
      intro hT1
      simp only [Exit.inBlock]
      cases hb : Nat.beq i id with
      | true =>
        have := nbeq hb
        subst this
        simp only [hb, cond_true] at h1
        rw [if_pos rfl]
        exact hk .normal st1 g1 a1 h1 hM1 hO1 hd1 hT1
      | false =>
        simp only [hb, cond_false] at h1
        rw [if_neg (fun e => by subst e; rw [nbeq_self] at hb; cases hb)]
        exact hk (.exit i) st1 g1 a1 h1 hM1 hO1 hd1 hT1
    | ret => exact hk .ret st1 g1 a1 h1 hM1 hO1 hd1
    | panic v => exact hk (.panic v) st1 g1 a1 h1 hM1 hO1 hd1
  | loop c ih =>
    intro hW st g a k Q h hM hT hk
    simp only [noWC] at hW
    simp only [evCode] at h
    split at h
    · obtain ⟨n, h⟩ := h
      refine wp_loop_rounds n ?_
      induction n generalizing st g a with
      | zero => exact h.elim
      | succ n ihn =>
        obtain ⟨p, st1, hnm, h⟩ := h
        obtain ⟨g1, w1⟩ := norm_sound hM hT hnm
        rw [rounds_succ, ← w1.w]
        refine ih hW st1 g1 a _ _ h w1.mem w1.tmps (fun e st2 g2 a2 h2 hM2 hO2 hd2 => ?_)
        have hO := w1.step.trans hO2
        cases e with
        | normal =>
          intro hT2
          simp only [Exit.then]
          exact ihn st2 g2 a2 hM2 hT2 (fun e st3 g3 a3 h3 hM3 hO3 hd3 => hk e st3 g3 a3 h3 hM3 (hO.trans hO3) (hd2.trans hd3)) h2
        | exit id => exact hk (.exit id) st2 g2 a2 h2 hM2 hO hd2
        | ret => exact hk .ret st2 g2 a2 h2 hM2 hO hd2
        | panic v => exact hk (.panic v) st2 g2 a2 h2 hM2 hO hd2
    · rename_i n _
      refine wp_loop_rounds (n + 1) ?_
      generalize n + 1 = m at h
      induction m generalizing st g a with
      | zero => exact h.elim
      | succ n ihn =>
        rw [rounds_succ]
        refine ih hW st g a _ _ h hM hT (fun e st2 g2 a2 h2 hM2 hO2 hd2 => ?_)
        cases e with
        | normal =>
          intro hT2
          simp only [Exit.then]
          exact ihn st2 g2 a2 hM2 hT2 (fun e st3 g3 a3 h3 hM3 hO3 hd3 => hk e st3 g3 a3 h3 hM3 (hO2.trans hO3) (hd2.trans hd3)) h2
        | exit id => exact hk (.exit id) st2 g2 a2 h2 hM2 hO2 hd2
        | ret => exact hk .ret st2 g2 a2 h2 hM2 hO2 hd2
        | panic v => exact hk (.panic v) st2 g2 a2 h2 hM2 hO2 hd2
  | region id ops draw =>
    intro hW st0 g0 a k Q h0 hM0 hT0 hk0
    simp only [noWC] at hW
    have main : ∀ (st : St) (g : Gh), evRegion C ops draw st k → Mem C.G b0 w0 st.objs st.next g → TmpsRep g st.tmps a → Ends T C b0 w0 st g a k Q → (Code.region id ops draw).wp C.P Q a g.w := by
      intro st g h hM hT hk
      cases draw with
      | true =>
        simp only [evRegion, cond_true] at h
        unfold evDrawR at h
        cases hgd : (bif hasGuard ops then Region.lexTailB .any ops (tailAt ops.toList) else false) with
        | true =>
          rw [hgd, cond_true] at h
          unfold evTail at h
          cases hsel : C.selp with
          | true => rw [hsel] at h; exact h.elim
          | false =>
          rw [hsel, cond_false] at h
          cases hm : C.P.follows .mixedOrders with
          | false => rw [hm] at h; exact h.elim
          | true =>
            rw [hm, cond_true] at h
            cases hl : Region.lexTailB .any ops (tailAt ops.toList) with
            | false => rw [hl] at h; exact h.elim
            | true =>
              rw [hl, cond_true] at h
              obtain ⟨e1, e2, e3⟩ := clean_same st ops
              have hb : Below g.w.heap.size g.w { g.w with drawn := g.w.drawn + 1 } := ⟨rfl, rfl, rfl, Nat.le_refl _, fun _ _ => rfl⟩
              have hx := ext_grow (g := g) hb
              have hst := stays_grow (g := g) (w' := { g.w with drawn := g.w.drawn + 1 })
              have hT' : TmpsRep { g with w := { g.w with drawn := g.w.drawn + 1 } } st.tmps a := ⟨hT.1, fun t => (hT.2 t).grow hb⟩
              have hO0 : OStep st g (st.clean ops) { g with w := { g.w with drawn := g.w.drawn + 1 } } := (OStep.mk ⟨rfl, fun t => .of hx hst _⟩ rfl : OStep st g st { g with w := { g.w with drawn := g.w.drawn + 1 } }).same e3
              have key := evOps_still (Q := Q) hsel hE hC (ops.toList.drop (tailAt ops.toList)) (fun o ho => noWl_ok hW o (List.mem_of_mem_drop ho)) (ops.toList.take (tailAt ops.toList)) (fun o ho => noWl_ok hW o (List.mem_of_mem_take ho)) (headLen_spec _ _ (tailAt_le _)) [] (st.clean ops) _ a (by rw [List.take_append_drop]; exact h) (by rw [e1, e2]; exact hM.grow hb) (SReg.start hT')
                (fun st1 g1 a1 h1 hM1 hT1 hO1 hd1 => hk .normal st1 g1 a1 h1 hM1 (hO0.trans hO1) hd1 hT1) (fun v st1 g1 V a1 h1 hM1 hO1 hr1 hd1 => hk (.panic v) st1 g1 a1 h1 hM1 (hO0.trans hO1) hd1 V hr1)
              have := wp_region_still_tail (id := id) (l := ops.toList) (tailAt ops.toList) hm (by simpa using hl) (by simpa using key)
              simpa using this
        | false =>
        rw [hgd, cond_false] at h
        cases hH : (bif hasGuard ops then false else C.joinsOf ops.toList) with
        | true =>
          rw [hH, cond_true] at h
          unfold evDrawnH at h
          cases hm : C.P.follows .mixedOrders with
          | false => rw [hm] at h; exact h.elim
          | true =>
            rw [hm, cond_true] at h
            cases hs : noSelL ops.toList with
            | false => rw [hs] at h; exact h.elim
            | true =>
              rw [hs, cond_true] at h
              have hb : Below g.w.heap.size g.w { g.w with drawn := g.w.drawn + 1 } := ⟨rfl, rfl, rfl, Nat.le_refl _, fun _ _ => rfl⟩
              have hx := ext_grow (g := g) hb
              have hst := stays_grow (g := g) (w' := { g.w with drawn := g.w.drawn + 1 })
              have hR : SReg false [] { g with w := { g.w with drawn := g.w.drawn + 1 } } st a := by
                have := SReg.start (ops := #[]) hT
                have h2 : SReg false [] g st a := this
                exact h2.step rfl (fun t => .of hx hst _)
              have hO : OStep st g st { g with w := { g.w with drawn := g.w.drawn + 1 } } := ⟨⟨rfl, fun t => .of hx hst _⟩, rfl⟩
              let Q' : Exit → Act → World → Prop := fun e a' w' => match e with
                | .normal => Q .normal a' w'
                | .panic c => Kept T a a' ∧ ∀ a'' : Act, Kept T a a'' → Q (.panic c) a'' w'
                | _ => False
              have key : wpAny C.P .any ops Q' ops.size (Array.replicate ops.size false) a { g.w with drawn := g.w.drawn + 1 } := by
                have gen : ∀ K : St → Prop, (∀ st1 g1 a1, K st1 → Mem C.G b0 w0 st1.objs st1.next g1 → TmpsRep g1 st1.tmps a1 → OStep st { g with w := { g.w with drawn := g.w.drawn + 1 } } st1 g1 → Kept T a a1 → Q .normal a1 g1.w) →
                    evDrawH C ops.toList (fun v st => k (AX.panic v) st) (heldIds ops.toList st) (llen ops.toList) (fals (llen ops.toList) []) st K → wpAny C.P .any ops Q' ops.size (Array.replicate ops.size false) a { g.w with drawn := g.w.drawn + 1 } := by
                  intro K hK h
                  have := evDrawH_sound (Q := Q') hE hC (noSelL_ok hs) (noWl_ok hW) (fun c a' d V w' hn h => ⟨h.1.trans (kept_put hn a' V).symm, h.2⟩) (cellIds_spec (hM.grow hb)) (hM.grow hb).glob _ _ st _ a h (hM.grow hb) hR (Ext.refl _) (fun _ _ _ _ h => h) ⟨Nat.le_refl _, fun _ _ => rfl⟩ (fun st1 g1 a1 h1 hM1 hT1 hO1 hd1 => hK st1 g1 a1 h1 hM1 hT1 hO1 hd1)
                    (fun v st1 g1 V a1 h1 hM1 hO1 hr1 hd1 => ⟨hd1, fun a'' hd2 => hk (.panic v) st1 g1 a'' h1 hM1 (hO.trans hO1) hd2 V hr1⟩)
                  have := wpAny_of_held _ _ _ _ this
                  simpa [llen_eq, fals_eq] using this
                cases hJ : Nat.ble 3000 C.unroll with
                | false =>
                  rw [hJ, cond_false] at h
                  exact gen _ (fun st1 g1 a1 h1 hM1 hT1 hO1 hd1 => hk .normal st1 g1 a1 h1 hM1 (hO.trans hO1) hd1 hT1) h
                | true =>
                  rw [hJ, cond_true] at h
                  unfold evJoin at h
                  obtain ⟨S0, h⟩ := firstP_ex _ _ _ h
                  split at h
                  case h_2 => exact h.elim
                  rename_i S _
                  rw [St.forceP_eq] at h
                  refine gen _ (fun st1 g1 a1 h1 hM1 hT1 hO1 hd1 => ?_) h.1
                  obtain ⟨g2, w2⟩ := norm_sound hM1 hT1 h1
                  have := hk .normal S g2 a1 h.2 w2.mem (hO.trans (hO1.trans w2.step)) hd1 w2.tmps
                  rw [w2.w] at this
                  exact this
              exact Code.wp_mono (fun e a' w' h => by
                cases e with
                | normal => exact h
                | panic c => exact h.2 a' h.1
                | _ => exact h.elim) (wp_region_any hm key)
        | false =>
          rw [hH, cond_false] at h
          unfold evDrawn at h
          cases hm : C.P.follows .mixedOrders with
          | false => rw [hm] at h; exact h.elim
          | true =>
            rw [hm, cond_true] at h
            cases hs : noSelL ops.toList with
            | false => rw [hs] at h; exact h.elim
            | true =>
              rw [hs, cond_true] at h
              have hb : Below g.w.heap.size g.w { g.w with drawn := g.w.drawn + 1 } := ⟨rfl, rfl, rfl, Nat.le_refl _, fun _ _ => rfl⟩
              have hx := ext_grow (g := g) hb
              have hst := stays_grow (g := g) (w' := { g.w with drawn := g.w.drawn + 1 })
              have hR : SReg false [] { g with w := { g.w with drawn := g.w.drawn + 1 } } st a := by
                have := SReg.start (ops := #[]) hT
                have h2 : SReg false [] g st a := this
                exact h2.step rfl (fun t => .of hx hst _)
              have hO : OStep st g st { g with w := { g.w with drawn := g.w.drawn + 1 } } := ⟨⟨rfl, fun t => .of hx hst _⟩, rfl⟩
              let Q' : Exit → Act → World → Prop := fun e a' w' => match e with
                | .normal => Q .normal a' w'
                | .panic c => Kept T a a' ∧ ∀ a'' : Act, Kept T a a'' → Q (.panic c) a'' w'
                | _ => False
              have key : wpAny C.P .any ops Q' ops.size (Array.replicate ops.size false) a { g.w with drawn := g.w.drawn + 1 } := by
                have := evDraw_sound (Q := Q') hE hC (noSelL_ok hs) (noWl_ok hW) (fun c a' d V w' hn h => ⟨h.1.trans (kept_put hn a' V).symm, h.2⟩) _ _ _ _ st _ a h (hM.grow hb) hR (fun st1 g1 a1 h1 hM1 hT1 hO1 hd1 => hk .normal st1 g1 a1 h1 hM1 (hO.trans hO1) hd1 hT1)
                  (fun v st1 g1 V a1 h1 hM1 hO1 hr1 hd1 => ⟨hd1, fun a'' hd2 => hk (.panic v) st1 g1 a'' h1 hM1 (hO.trans hO1) hd2 V hr1⟩)
                simpa [llen_eq, fals_eq] using this
              exact Code.wp_mono (fun e a' w' h => by
                cases e with
                | normal => exact h
                | panic c => exact h.2 a' h.1
                | _ => exact h.elim) (wp_region_any hm key)
      | false =>
        simp only [evRegion, cond_false] at h
        obtain ⟨e1, e2, e3⟩ := clean_same st ops
        have hO0 : OStep st g (st.clean ops) g := (OStep.refl st g).same e3
        refine wp_region_list (evOps_sound hE hC ops.toList (noWl_ok hW) [] (st.clean ops) g a h (by rw [e1, e2]; exact hM) (SReg.start hT) (fun st1 g1 a1 h1 hM1 hT1 hO1 hd1 => ?_) (fun v st1 g1 V a1 h1 hM1 hO1 hr1 hd1 => ?_))
        · exact hk .normal st1 g1 a1 h1 hM1 (hO0.trans hO1) hd1 hT1
        · exact hk (.panic v) st1 g1 a1 h1 hM1 (hO0.trans hO1) hd1 V hr1
    simp only [evCode] at h0
    cases hb : Nat.ble 4000 C.unroll with
    | false => rw [hb, cond_false] at h0; exact main st0 g0 h0 hM0 hT0 hk0
    | true =>
      rw [hb, cond_true] at h0
      split at h0
      case h_2 => exact h0.elim
      rename_i S hS
      rw [St.forceP_eq] at h0
      obtain ⟨g1, w1⟩ := norm_sound hM0 hT0 hS
      rw [← w1.w]
      exact main S g1 h0 w1.mem w1.tmps (fun e st2 g2 a2 h2 hM2 hO2 hd2 => hk0 e st2 g2 a2 h2 hM2 (w1.step.trans hO2) hd2)
  | _ => intro _ st g a k Q h; simp [evCode] at h
end Go.AE
namespace Go.AE
open Go.RowKit
variable {C : Cx} {o : Oper} {a : Act} {g : Gh} {v : AV} {st : St} {gs gt : List (Nat × Bool)} {pres : List Prop} {b0 : Nat} {w0 : World}
def resStep (tmps : Array Value) : ResultVar → Sem Value
  | .tmp t => pure (tmps.getD t undef)
  | .cell a t => do loadVar t (← asAddr (tmps.getD a undef))
theorem results_eq (fn : Func) (tmps : Array Value) (P : Program) (w : World) (Vs : List Value) (h : (List.mapM (resStep tmps) fn.results.toList).run P w = .ok Vs w) : (results fn tmps).run P w = .ok (resV Vs) w := by
  have he : results fn tmps = (do
      let vs ← fn.results.mapM (resStep tmps)
      pure (if h : vs.size = 1 then vs[0] else .tuple vs)) := by
    unfold results
    congr 1
  rw [he, Array.mapM_eq_mapM_toList]
  simp only [map_eq_pure_bind, Sem.run_bind, h, Result.andThen_ok, Sem.run_pure]
  congr 1
  match Vs with
  | [] => rfl
  | [V] => rfl
  | _ :: _ :: _ => rfl
theorem resOf_sound (hM : Mem C.G b0 w0 st.objs st.next g) (hT : TmpsRep g st.tmps a) : ∀ {l : List ResultVar} {vs : List AV}, resOf C.P st l = some vs →
    ∃ Vs : List Value, (List.mapM (resStep a.tmps) l).run C.P g.w = .ok Vs g.w ∧ Vs.length = vs.length ∧ ∀ (j : Nat) c, vs[j]? = some c → ∃ V, Vs[j]? = some V ∧ ARep g c V
  | [], vs, h => by
    simp only [resOf, Option.some.injEq] at h
    subst h
    exact ⟨[], by simp [Sem.run_pure], rfl, fun j c h => by simp at h⟩
  | .tmp t :: r, vs, h => by
    simp only [resOf, omap_eq, Option.map_eq_some_iff] at h
    obtain ⟨vs', h1, rfl⟩ := h
    obtain ⟨Vs, k1, k2, k3⟩ := resOf_sound hM hT h1
    refine ⟨a.tmps.getD t undef :: Vs, ?_, by simp [k2], fun j c hc => ?_⟩
    · rw [List.mapM_cons]
      simp only [resStep, Sem.run_bind, Sem.run_pure, Result.andThen_ok, k1]
    · cases j with
      | zero => simp only [List.getElem?_cons_zero, Option.some.injEq] at hc; subst hc; exact ⟨_, rfl, clean1_rep (hT.2 t)⟩
      | succ j => exact k3 j c (by simpa using hc)
  | .cell t ty :: r, vs, h => by
    simp only [resOf] at h
    split at h
    case h_2 => cases h
    rename_i id off ti e ht
    split at h
    case h_2 => cases h
    rename_i own ver l hlk
    obtain ⟨hb, h⟩ := bif_some h
    have hl := nble hb
    rw [llen_eq] at hl
    split at h
    case h_2 => cases h
    rename_i ps v hread
    simp only [omap_eq, Option.map_eq_some_iff] at h
    obtain ⟨vs', h1, rfl⟩ := h
    obtain ⟨Vs, k1, k2, k3⟩ := resOf_sound hM hT h1
    have hx := hT.2 t
    rw [e] at hx
    generalize hX : a.tmps.getD t undef = X at hx
    cases hx with
    | @ptr _ _ b _ r1 r2 =>
      rw [hM.same] at r1
      rw [hlk] at r1
      cases r1
      have hob := hM.each id _ (by rw [hM.same]; exact hlk)
      rw [r2] at hob
      generalize g.ex id = ee at hob
      cases hob with
      | @cells _ _ _ _ c T fr q1 q2 q3 q4 q5 q6 =>
        obtain ⟨m1, m2⟩ := run_loadAt (P := C.P) g.w ht ⟨b, off, none⟩ (fun j => c.getD (off + j) undef) (fun j hj => by
          rw [add_plain, cell_of_row g.w b (off + j) c T fr q2]
          exact some_of_lt (by omega))
        have hlen : (ltake ti.size (ldrop off l)).length = ti.size := by simp [ltake_eq, ldrop_eq]; omega
        have hr : ∀ (j : Nat) u, (ltake ti.size (ldrop off l))[j]? = some u → ARep g u (c.getD (off + j) undef) := fun j u hu => q5 _ _ (take_get hu).2
        obtain ⟨V, hV, hrep⟩ : ∃ V, (Instr.loadAt ty (.pointer (some ⟨b, off, none⟩))).run C.P g.w = .ok V g.w ∧ ARep g v V := by
          obtain ⟨_, ⟨ha, rfl⟩ | ⟨ha, hs1⟩⟩ := readCells_spec hread
          · refine ⟨_, m1 ha, .agg (by simp [hlen]) (fun j u hu => ?_) (fun j hj => ?_)⟩
            · have hj : j < ti.size := by rw [← hlen]; exact (List.getElem?_eq_some_iff.1 hu).1
              rw [getD_range _ _ _ hj]
              exact hr j u hu
            · have hj : j < ti.size := by simpa using hj
              rw [getD_range _ _ _ hj]
              exact q6 _ (by omega)
          · have h0 : 0 < ti.size := by rw [← hlen, hs1]; simp
            exact ⟨_, m2 ha h0, hr 0 v (by rw [hs1]; rfl)⟩
        refine ⟨V :: Vs, ?_, by simp [k2], fun j u hc => ?_⟩
        · have hload : (loadVar ty ⟨b, off, none⟩).run C.P g.w = .ok V g.w := by
            simpa only [Instr.loadAt, Instr.sureAddr, Sem.run_bind, Sem.run_pure, Result.andThen_ok] using hV
          rw [List.mapM_cons]
          simp only [resStep, hX, asAddr, Sem.run_bind, Sem.run_pure, Result.andThen_ok, hload, k1]
        · cases j with
          | zero => simp only [List.getElem?_cons_zero, Option.some.injEq] at hc; subst hc; exact ⟨_, rfl, typedA_sound hrep⟩
          | succ j => exact k3 j u (by simpa using hc)
theorem nth_app (x y : List AV) (t : Nat) : nth .dead (x ++ y) t = if t < x.length then nth .dead x t else nth .dead y (t - x.length) := by
  simp only [nth_eq, List.getD_eq_getElem?_getD]
  by_cases h : t < x.length
  · rw [if_pos h, List.getElem?_append_left h]
  · rw [if_neg h, List.getElem?_append_right (by omega)]
theorem nth_take (l : List AV) (n t : Nat) : nth .dead (l.take n) t = if t < n then nth .dead l t else .dead := by
  simp only [nth_eq, List.getD_eq_getElem?_getD]
  by_cases h : t < n
  · rw [if_pos h, List.getElem?_take_of_lt h]
  · rw [if_neg h, List.getElem?_eq_none (by simp; omega)]
    first | done | rfl
theorem nth_drop (l : List AV) (n t : Nat) : nth .dead (l.drop n) t = nth .dead l (n + t) := by
  simp only [nth_eq, List.getD_eq_getElem?_getD, List.getElem?_drop]
theorem nth_out {l : List AV} {t : Nat} (h : l.length ≤ t) : nth .dead l t = .dead := by
  rw [nth_eq, List.getD_eq_getElem?_getD, List.getElem?_eq_none h]
  first | done | rfl
theorem Img.dead (g g' : Gh) : Img g g' .dead .dead := ⟨fun _ _ => .dead, fun _ _ => rfl, fun _ _ h => by (cases h), fun _ _ _ => rfl⟩
theorem leave_step {n : Nat} {args : List AV} {st1 : St} {g1 : Gh} (h : OStep (entry n args st) g st1 g1) : Step st g (leave (llen st.tmps) st1) g1 := by
  obtain ⟨⟨hl, hi⟩, hb⟩ := h
  simp only [entry, lapp_eq, List.length_append] at hl hi
  refine ⟨⟨?_, fun t => ?_⟩, ⟨?_, fun t => ?_⟩, hb⟩
  · simp only [leave, ltake_eq, llen_eq, List.length_take]; omega
  · simp only [leave, ltake_eq, llen_eq]
    rw [nth_take]
    by_cases ht : t < st.tmps.length
    · rw [if_pos ht]
      have := hi t
      rwa [nth_app, if_pos ht] at this
    · rw [if_neg ht, nth_out (by omega)]
      exact .dead g g1
  · simp only [leave, ldrop_eq, llen_eq, List.length_drop]; omega
  · simp only [leave, ldrop_eq, llen_eq]
    rw [nth_drop]
    have := hi (st.tmps.length + t)
    rwa [nth_app, if_neg (by omega), Nat.add_sub_cancel_left] at this
def FuncDone (C : Cx) (b0 : Nat) (w0 : World) (st : St) (g : Gh) (k : List AV → St → Prop) (kp : AV → St → Prop) (e : Ending) (w' : World) : Prop :=
  (∃ vs st' g' Vs, e = .returned (resV Vs) ∧ k vs st' ∧ Mem C.G b0 w0 st'.objs st'.next g' ∧ g'.w = w' ∧ Step st g st' g' ∧ Vs.length = vs.length ∧ ∀ (j : Nat) c, vs[j]? = some c → ∃ V, Vs[j]? = some V ∧ ARep g' c V) ∨
  (∃ v st' g' V, e = .panicked [{ v := V, recovered := false }] ∧ kp v st' ∧ Mem C.G b0 w0 st'.objs st'.next g' ∧ g'.w = w' ∧ Step st g st' g' ∧ ARep g' v V)
theorem evFunc_sound {fn : Func} {f : FuncId} {args : List AV} {vals : Array Value} {k : List AV → St → Prop} {kp : AV → St → Prop} (hE : EOK C.P C.E C.G) (hC : CallOK C) (hf : C.P.funcs[f]? = some fn) (h : evFunc C fn args st k kp) (hM : Mem C.G b0 w0 st.objs st.next g)
    (hsz : vals.size = args.length) (hr : ∀ (j : Nat) c, args[j]? = some c → ARep g c (vals.getD j undef)) : fn.body.isNone = false ∧ Calls C.P f vals g.w (FuncDone C b0 w0 st g k kp) := by
  unfold evFunc at h
  split at h
  · exact h.elim
  rename_i c hbody
  refine ⟨by rw [hbody]; rfl, calls_of_wp hf hbody ?_⟩
  have hT : TmpsRep g (entry fn.ntmps args st).tmps { tmps := vals ++ Array.replicate (fn.ntmps - vals.size) undef, defers := [] } := by
    refine ⟨?_, fun t => ?_⟩
    · simp [entry, lapp_eq, lrepl_eq, llen_eq, hsz]
    · simp only [entry, lapp_eq, lrepl_eq, llen_eq]
      rw [nth_app]
      by_cases ht : t < args.length
      · rw [if_pos ht, Array.getD_eq_getD_getElem?, Array.getElem?_append, if_pos (by omega), ← Array.getD_eq_getD_getElem?, nth_eq, List.getD_eq_getElem?_getD, List.getElem?_eq_getElem ht]
        exact hr t _ (List.getElem?_eq_getElem ht)
      · rw [if_neg ht]
        have : ∀ n t, nth .dead (List.replicate n .dead) t = .dead := fun n t => by
          rw [nth_eq, List.getD_eq_getElem?_getD, List.getElem?_replicate]
          split <;> rfl
        rw [this]
        exact .dead
  refine evCode_sound (T := []) hE hC c (noWC_nil c) (entry fn.ntmps args st) g _ _ _ h hM hT (fun x st1 g1 a1 h1 hM1 hO1 hd1 => ?_)
  have hst := leave_step hO1
  have back : ∀ vs, resOf C.P st1 fn.results.toList = some vs → TmpsRep g1 st1.tmps a1 → k vs (leave (llen st.tmps) st1) → a1.defers = [] ∧ ∃ v, (results fn a1.tmps).run C.P g1.w = .ok v g1.w ∧ FuncDone C b0 w0 st g k kp (.returned v) g1.w := by
    intro vs hv hT1 hk
    obtain ⟨Vs, k1, k2, k3⟩ := resOf_sound hM1 hT1 hv
    exact ⟨hd1.1.1, _, results_eq fn _ _ _ Vs k1, .inl ⟨vs, _, g1, Vs, rfl, hk, hM1, rfl, hst, k2, k3⟩⟩
  cases x with
  | normal =>
    intro hT1
    simp only at h1
    split at h1
    · exact back _ (by assumption) hT1 h1
    · exact h1.elim
  | ret =>
    intro hT1
    simp only at h1
    split at h1
    · exact back _ (by assumption) hT1 h1
    · exact h1.elim
  | panic v => exact fun V hV => ⟨hd1.1.1, .inr ⟨v, _, g1, V, rfl, h1, hM1, rfl, hst, hV⟩⟩
  | exit id => exact h1.elim
theorem noCall_ok {P : Program} {E : FuncId → List AV → Option (List Prop × List AV)} {G : Nat → Option (List AV)} {u : Nat} : CallOK ⟨P, E, noCall, G, u⟩ := fun _ _ _ _ _ h => h.elim
theorem inl_ok {I : FuncId → Option Func} {P : Program} {E : FuncId → List AV → Option (List Prop × List AV)} {G : Nat → Option (List AV)} {u : Nat} (hE : EOK P E G) (hI : ∀ f fn, I f = some fn → P.funcs[f]? = some fn ∧ (fn.name == "runtime.NumGoroutine") = false) : ∀ n, CallOK ⟨P, E, inl I P E G u n, G, u⟩
  | 0 => noCall_ok
  | n + 1 => by
    intro f args st k kp h
    simp only [inl] at h
    split at h
    case h_2 => exact h.elim
    rename_i fn hfn
    obtain ⟨h1, h2⟩ := hI f fn hfn
    have hb : fn.body.isNone = false := by
      unfold evFunc at h
      split at h
      · exact h.elim
      · rename_i c hc; rw [hc]; first | done | rfl
    refine ⟨fn, h1, h2, hb, fun g b0 w0 vals hM hsz hr => ?_⟩
    obtain ⟨_, hc⟩ := evFunc_sound (C := ⟨P, E, inl I P E G u n, G, u⟩) hE (inl_ok hE hI n) h1 h hM hsz hr
    refine hc.mono ?_
    rintro e w' (⟨vs, st', g', Vs, rfl, k1, k2, k3, k4, k5, k6⟩ | ⟨v, st', g', V, rfl, k1, k2, k3, k4, k5⟩)
    · exact .inl ⟨_, st', g', _, rfl, k1, k2, k3, k4, resAV_rep k5 k6⟩
    · exact .inr ⟨v, st', g', V, rfl, k1, k2, k3, k4, k5⟩
theorem noE_ok {P : Program} {G : Nat → Option (List AV)} : EOK P noE G := fun f args pres res h => by simp [noE] at h
theorem addE_ok {P : Program} {G : Nat → Option (List AV)} {E : FuncId → List AV → Option (List Prop × List AV)} {f : FuncId} {s : List AV → Option (List Prop × List AV)} (hE : EOK P E G) (hs : ∀ args pres res, s args = some (pres, res) → SpecOK P G f args pres res) : EOK P (addE E f s) G := by
  intro g args pres res h
  unfold addE at h
  cases hb : Nat.beq f g with
  | true =>
    rw [hb, cond_true] at h
    have := nbeq hb
    subst this
    exact hs args pres res h
  | false =>
    rw [hb, cond_false] at h
    exact hE g args pres res h
end Go.AE
namespace Go.AE
open Go.RowKit
variable {C : Cx} {o : Oper} {a : Act} {g : Gh} {v : AV} {st : St} {gs gt : List (Nat × Bool)} {pres : List Prop} {b0 : Nat} {w0 : World}
def isFz (objs : List (Nat × Ob)) (id : Nat) : Bool := match lookup objs id with
  | some ⟨false, _, .row _⟩ => true
  | _ => false
theorem freeze1_fz {objs : List (Nat × Ob)} {id : Nat} (h : isFz objs id = true) (j : Nat) : lookup (St.freeze1 objs id) j = lookup objs j := by
  unfold isFz at h
  split at h
  · rename_i ver u hlk
    unfold St.freeze1
    rw [hlk]
    simp only
    by_cases hj : j = id
    · subst hj; rw [lookup_update_same, hlk]
    · rw [lookup_update_other _ _ _ _ hj]
  · cases h
theorem freezeAll_fz : ∀ (ids : List Nat) {objs : List (Nat × Ob)}, (∀ id, id ∈ ids → isFz objs id = true) → ∀ j, lookup (St.freezeAll objs ids) j = lookup objs j
  | [], _, _, _ => rfl
  | i :: r, objs, h, j => by
    have h1 := freeze1_fz (h i (List.mem_cons_self ..))
    simp only [St.freezeAll]
    rw [freezeAll_fz r (fun id hid => by
      have := h id (List.mem_cons_of_mem _ hid)
      unfold isFz at this ⊢
      rw [h1]; exact this) j, h1]
theorem lookup_mem : ∀ {objs : List (Nat × Ob)} {id : Nat} {ob : Ob}, lookup objs id = some ob → id ∈ objs.map (·.1)
  | [], _, _, h => by simp [lookup] at h
  | (i, o) :: r, id, ob, h => by
    simp only [lookup] at h
    cases hb : Nat.beq i id with
    | true => have := nbeq hb; subst this; simp
    | false =>
      rw [hb, cond_false] at h
      simp only [List.map_cons, List.mem_cons]
      exact .inr (lookup_mem h)
theorem settle_mem {G : Nat → Option (List AV)} {objs : List (Nat × Ob)} {next : Nat} (hM : Mem G b0 w0 objs next g) : ∃ objs' g', Mem G b0 w0 objs' next g' ∧ Ext g g' ∧ Stays g g' ∧ g'.w = g.w ∧ g'.base = g.base ∧ (∀ id, lookup objs' id = lookup objs id) ∧
    ∀ id ver u, lookup objs id = some ⟨false, ver, .row u⟩ → ∀ b, blk (g'.ρ id) = some b → ¬ g'.own b := by
  obtain ⟨g', f, n⟩ := freezeAll_sound ((objs.map (·.1)).filter (isFz objs)) hM
  refine ⟨_, g', f.mem, f.ext, f.stays, f.w, f.base, freezeAll_fz _ (fun id hid => (List.mem_filter.1 hid).2), fun id ver u h b hb => ?_⟩
  rw [f.rho] at hb
  exact n id (List.mem_filter.2 ⟨lookup_mem h, by unfold isFz; rw [h]⟩) false ver u h b hb
def Reps (g : Gh) (cs : List AV) (Vs : List Value) : Prop := Vs.length = cs.length ∧ ∀ (j : Nat) c, cs[j]? = some c → ∃ V, Vs[j]? = some V ∧ ARep g c V
theorem Reps.tail {c : AV} {V : Value} {cs : List AV} {Vs : List Value} (h : Reps g (c :: cs) (V :: Vs)) : Reps g cs Vs := ⟨by simpa using h.1, fun j c hc => by simpa using h.2 (j + 1) c (by simpa using hc)⟩
theorem Reps.head {c : AV} {V : Value} {cs : List AV} {Vs : List Value} (h : Reps g (c :: cs) (V :: Vs)) : ARep g c V := by
  obtain ⟨V', hV, hr⟩ := h.2 0 c rfl
  simp only [List.getElem?_cons_zero, Option.some.injEq] at hV
  subst hV
  exact hr
def From (g : Gh) (ids ids' : List Nat) (b : Nat) : Prop := ∃ id, id ∈ ids' ∧ id ∉ ids ∧ (lookup g.objs id).isSome = true ∧ g.ex id = true ∧ blk (g.ρ id) = some b
section out
variable {G : Nat → Option (List AV)} {objs objs' : List (Nat × Ob)} {next : Nat} {w : World}
theorem out_cells (hM : Mem G w.heap.size w0 objs' next g) (hl : ∀ id, lookup objs' id = lookup objs id) (hz : ∀ id ver u, lookup objs id = some ⟨false, ver, .row u⟩ → ∀ b, blk (g.ρ id) = some b → ¬ g.own b) :
    ∀ (cs : List AV) (ids : List Nat) (Vs : List Value) {cs' : List AV} {ids' : List Nat}, outCells objs cs ids = some (cs', ids') → Reps g cs Vs → ∃ bs, RCells w g.w g.own cs' Vs bs ∧ (∀ i, i ∈ ids → i ∈ ids') ∧ ∀ b, b ∈ bs → From g ids ids' b
  | [], ids, Vs, cs', ids', h, hr => by
    simp only [outCells, Option.some.injEq, Prod.mk.injEq] at h
    obtain ⟨rfl, rfl⟩ := h
    have : Vs = [] := List.length_eq_zero_iff.1 hr.1
    subst this
    exact ⟨[], .nil, fun _ h => h, fun b h => by cases h⟩
  | c :: r, ids, [], cs', ids', h, hr => by have := hr.1; simp at this
  | c :: r, ids, V :: Vs, cs', ids', h, hr => by
    have hc := hr.head
    have plain : ∀ {c' : AV} {ids1 : List Nat}, (match outCells objs r ids1 with
        | some (cs, ids'') => some (c' :: cs, ids'')
        | none => none) = some (cs', ids') → ∃ cs1, outCells objs r ids1 = some (cs1, ids') ∧ cs' = c' :: cs1 := by
      intro c' ids1 h
      split at h
      · rename_i cs1 ids2 h1
        simp only [Option.some.injEq, Prod.mk.injEq] at h
        obtain ⟨rfl, rfl⟩ := h
        exact ⟨_, h1, rfl⟩
      · cases h
    simp only [outCells] at h
    split at h
    case h_2 => cases h
    rename_i c' ids1 hc1
    obtain ⟨cs1, h1, rfl⟩ := plain h
    split at hc1
    · rename_i u
      simp only [Option.some.injEq, Prod.mk.injEq] at hc1
      obtain ⟨rfl, rfl⟩ := hc1
      obtain ⟨bs, k1, k2, k3⟩ := out_cells hM hl hz r _ Vs h1 hr.tail
      exact ⟨bs, .imm hc.imm_inv k1, k2, k3⟩
    · rename_i u
      simp only [Option.some.injEq, Prod.mk.injEq] at hc1
      obtain ⟨rfl, rfl⟩ := hc1
      obtain ⟨bs, k1, k2, k3⟩ := out_cells hM hl hz r _ Vs h1 hr.tail
      refine ⟨bs, ?_, k2, k3⟩
      cases hn : noneIV u with
      | false => exact .imm (arep_slice_of hc (.inr rfl)) k1
      | true =>
        cases hs : u.isSl with
        | false => exact .imm (arep_slice_of hc (.inr rfl)) k1
        | true =>
          cases hc with
          | @full _ ad n hq =>
            have h0 : n = 0 := by
              have hl := noneIV_len hn
              cases hq with
              | val _ => simp [noneIV] at hn
              | nilSlice _ _ => rfl
              | slice _ _ h2 _ _ _ _ _ _ _ => rw [hl] at h2; cases h2; rfl
            subst h0
            exact .shared hs hq k1
    · rename_i f
      simp only [Option.some.injEq, Prod.mk.injEq] at hc1
      obtain ⟨rfl, rfl⟩ := hc1
      obtain ⟨bs, k1, k2, k3⟩ := out_cells hM hl hz r _ Vs h1 hr.tail
      cases hc with
      | fn q1 _ q2 _ =>
        rw [Array.eq_empty_of_size_eq_zero q1, Array.eq_empty_of_size_eq_zero q2]
        exact ⟨bs, .fn k1, k2, k3⟩
    · rename_i id ver
      split at hc1
      · rename_i ver' u hlk
        have hv := nbeq (bif_some hc1).1
        replace hc1 := (bif_some hc1).2
        subst hv
        rw [lany_eq] at hc1
        cases hany : ids.any (fun j => Nat.beq id j) with
        | true => rw [hany, cond_true] at hc1; cases hc1
        | false =>
          rw [hany, cond_false] at hc1
          simp only [Option.some.injEq, Prod.mk.injEq] at hc1
          obtain ⟨rfl, rfl⟩ := hc1
          have hnid : id ∉ ids := fun hm => by
            have := List.any_eq_false.1 hany id hm
            simp at this
          obtain ⟨bs, k1, k2, k3⟩ := out_cells hM hl hz r _ Vs h1 hr.tail
          have hlk' : lookup g.objs id = some ⟨true, ver, .row u⟩ := by rw [hM.same, hl]; exact hlk
          have hV : V = g.ρ id := by
            cases hc with
            | row r1 r2 r3 r4 r5 => rw [hlk'] at r1; cases r1; exact r4 rfl
          have hob := hM.each id _ hlk'
          rw [← hV] at hob
          generalize hex : g.ex id = ee at hob
          have k3' : ∀ b, b ∈ bs → From g ids ids' b := fun b hb => by
            obtain ⟨i, e1, e2, e3⟩ := k3 b hb
            exact ⟨i, e1, fun h => e2 (List.mem_cons_of_mem _ h), e3⟩
          cases hob with
          | shared q1 q2 q3 q4 =>
            obtain ⟨rfl, rfl⟩ := q2 rfl
            exact ⟨bs, .shared q3 q4 k1, fun i hi => k2 i (List.mem_cons_of_mem _ hi), k3'⟩
          | @excl _ _ b n cap _ c T fr q1 q2 q3 q4 q5 q6 q7 q8 q9 q10 q11 =>
            subst q1
            have hblk : blk (g.ρ id) = some b := by rw [← hV]; first | done | rfl
            have hb := (hM.above id b (by rw [hlk']; rfl) hex hblk).1
            refine ⟨b :: bs, .excl hb q2 (q3 rfl) q4 q5 q6 q7 q8 q9 q10 (.inr ⟨id, by rw [hlk']; rfl, hex, hblk⟩) (fun hm => ?_) q11 k1, fun i hi => k2 i (List.mem_cons_of_mem _ hi), fun b' hb' => ?_⟩
            · obtain ⟨i, _, e2, e3, e4, e5⟩ := k3 b hm
              have := hM.uniq i id b e3 (by rw [hlk']; rfl) e4 hex e5 hblk
              subst this
              exact e2 (List.mem_cons_self ..)
            · rcases List.mem_cons.1 hb' with rfl | hb'
              · exact ⟨id, k2 id (List.mem_cons_self ..), hnid, by rw [hlk']; rfl, hex, hblk⟩
              · exact k3' b' hb'
      · rename_i ver' u hlk
        have hv := nbeq (bif_some hc1).1
        replace hc1 := (bif_some hc1).2
        subst hv
        simp only [Option.some.injEq, Prod.mk.injEq] at hc1
        obtain ⟨rfl, rfl⟩ := hc1
        obtain ⟨bs, k1, k2, k3⟩ := out_cells hM hl hz r _ Vs h1 hr.tail
        have hlk' : lookup g.objs id = some ⟨false, ver, .row u⟩ := by rw [hM.same, hl]; exact hlk
        have hV : V = g.ρ id := by
          cases hc with
          | row r1 r2 r3 r4 r5 => rw [hlk'] at r1; cases r1; exact r4 rfl
        have hob := hM.each id _ hlk'
        have hzz := hz id ver u hlk
        rw [← hV] at hob hzz
        generalize hex : g.ex id = ee at hob
        cases hob with
        | shared q1 q2 q3 q4 => exact ⟨bs, .imm q4 k1, k2, k3⟩
        | excl q1 =>
          subst q1
          exact (hzz _ rfl (.inr ⟨id, by rw [hlk']; rfl, hex, by rw [← hV]; rfl⟩)).elim
      · cases hc1
    · cases hc1
theorem outCells_flat (objs : List (Nat × Ob)) : ∀ (cs : List AV) (ids : List Nat) {cs' : List AV} {ids' : List Nat}, outCells objs cs ids = some (cs', ids') → ∀ c, c ∈ cs' → ∀ xs, c ≠ .agg xs := by
  intro cs
  induction cs with
  | nil =>
    intro ids cs' ids' h c hc
    simp only [outCells, Option.some.injEq, Prod.mk.injEq] at h
    obtain ⟨rfl, rfl⟩ := h
    cases hc
  | cons x r ih =>
    intro ids cs' ids' h c hc xs
    simp only [outCells] at h
    split at h
    case h_2 => cases h
    rename_i c' ids1 hc1
    split at h
    case h_2 => cases h
    rename_i cs1 ids2 h1
    simp only [Option.some.injEq, Prod.mk.injEq] at h
    obtain ⟨rfl, rfl⟩ := h
    rcases List.mem_cons.1 hc with rfl | hc
    · intro he
      subst he
      split at hc1
      · simp at hc1
      · rename_i uu
        cases hn : noneIV uu <;> cases hs : uu.isSl <;> simp [hn, hs] at hc1
      · simp at hc1
      · split at hc1
        · replace hc1 := (bif_some hc1).2
          generalize lany (fun j => Nat.beq _ j) ids = bb at hc1
          cases bb <;> cases hc1
        · replace hc1 := (bif_some hc1).2
          cases hc1
        · cases hc1
      · cases hc1
    · exact ih ids1 h1 c hc xs
theorem out_res (hM : Mem G w.heap.size w0 objs' next g) (hl : ∀ id, lookup objs' id = lookup objs id) (hz : ∀ id ver u, lookup objs id = some ⟨false, ver, .row u⟩ → ∀ b, blk (g.ρ id) = some b → ¬ g.own b) :
    ∀ (vs : List AV) (ids : List Nat) (Vs : List Value) {res : List AV}, outRes objs vs ids = some res → Reps g vs Vs → ∃ bs, RRes w g.w g.own res Vs bs ∧ ∀ b, b ∈ bs → ∃ id, id ∉ ids ∧ (lookup g.objs id).isSome = true ∧ g.ex id = true ∧ blk (g.ρ id) = some b
  | [], ids, Vs, res, h, hr => by
    simp only [outRes, Option.some.injEq] at h
    subst h
    have : Vs = [] := List.length_eq_zero_iff.1 hr.1
    subst this
    exact ⟨[], .nil, fun b h => by cases h⟩
  | c :: r, ids, [], res, h, hr => by have := hr.1; simp at this
  | c :: r, ids, V :: Vs, res, h, hr => by
    have hc := hr.head
    have apart : ∀ {bs bs' : List Nat} {ids1 : List Nat}, (∀ b, b ∈ bs → From g ids ids1 b) → (∀ b, b ∈ bs' → ∃ id, id ∉ ids1 ∧ (lookup g.objs id).isSome = true ∧ g.ex id = true ∧ blk (g.ρ id) = some b) → ∀ b, b ∈ bs → b ∉ bs' := by
      intro bs bs' ids1 h1 h2 b hb hb'
      obtain ⟨i, e1, _, e3, e4, e5⟩ := h1 b hb
      obtain ⟨j, f1, f3, f4, f5⟩ := h2 b hb'
      have := hM.uniq i j b e3 f3 e4 f4 e5 f5
      subst this
      exact f1 e1
    by_cases hagg : ∃ cs, c = .agg cs
    · obtain ⟨cs, rfl⟩ := hagg
      simp only [outRes] at h
      split at h
      case h_2 => cases h
      rename_i cs' ids1 h1
      rw [omap_eq, Option.map_eq_some_iff] at h
      obtain ⟨res', h2, rfl⟩ := h
      cases hc with
      | @agg _ vs q1 q2 q3 =>
        obtain ⟨bs, k1, k2, k3⟩ := out_cells hM hl hz cs ids vs.toList h1 ⟨by simpa using q1, fun j c hc => by
          have hj : j < vs.size := by rw [q1]; exact (List.getElem?_eq_some_iff.1 hc).1
          refine ⟨vs.getD j undef, ?_, q2 j c hc⟩
          rw [Array.getElem?_toList]
          exact some_of_lt hj⟩
        obtain ⟨bs', m1, m2⟩ := out_res hM hl hz r ids1 Vs h2 hr.tail
        refine ⟨bs ++ bs', .agg k1 (apart k3 m2) m1, fun b hb => ?_⟩
        rcases List.mem_append.1 hb with hb | hb
        · obtain ⟨i, _, e2, e3⟩ := k3 b hb; exact ⟨i, e2, e3⟩
        · obtain ⟨i, e2, e3⟩ := m2 b hb
          exact ⟨i, fun h => e2 (k2 i h), e3⟩
    · have hsh : outRes objs (c :: r) ids = match outCells objs [c] ids with
          | some ([c'], ids') => omap (c' :: ·) (outRes objs r ids')
          | _ => none := by
        cases c <;> first | rfl | exact absurd ⟨_, rfl⟩ hagg
      rw [hsh] at h
      split at h
      case h_2 => cases h
      rename_i c' ids1 h1
      rw [omap_eq, Option.map_eq_some_iff] at h
      obtain ⟨res', h2, rfl⟩ := h
      obtain ⟨bs, k1, k2, k3⟩ := out_cells hM hl hz [c] ids [V] h1 ⟨rfl, fun j x hx => by
        cases j with
        | zero => simp only [List.getElem?_cons_zero, Option.some.injEq] at hx; subst hx; exact ⟨V, rfl, hc⟩
        | succ j => simp at hx⟩
      obtain ⟨bs', m1, m2⟩ := out_res hM hl hz r ids1 Vs h2 hr.tail
      refine ⟨bs ++ bs', .one (outCells_flat objs [c] ids h1 c' (by simp)) k1 (apart k3 m2) m1, fun b hb => ?_⟩
      rcases List.mem_append.1 hb with hb | hb
      · obtain ⟨i, _, e2, e3⟩ := k3 b hb; exact ⟨i, e2, e3⟩
      · obtain ⟨i, e2, e3⟩ := m2 b hb
        exact ⟨i, fun h => e2 (k2 i h), e3⟩
end out
theorem RCells.less {w w' : World} {O O' : Nat → Prop} {cs : List AV} {Vs : List Value} {bs : List Nat} (h : RCells w w' O cs Vs bs) (ho : ∀ b, O' b → O b) (hb : ∀ b, b ∈ bs → O' b) : RCells w w' O' cs Vs bs := by
  induction h with
  | nil => exact .nil
  | imm h1 _ ih => exact .imm (h1.mono (Nat.le_refl _) (fun b _ h => ho b h) (fun _ _ _ => rfl)) (ih hb)
  | fn _ ih => exact .fn (ih hb)
  | shared h0 h1 _ ih => exact .shared h0 (h1.mono (Nat.le_refl _) (fun b _ h => ho b h) (fun _ _ _ => rfl)) (ih hb)
  | excl h1 h2 h3 h4 h5 h6 h7 h8 h9 h10 _ h12 h13 _ ih =>
    exact .excl h1 h2 h3 h4 h5 h6 h7 h8 h9 (fun i j u hu => (h10 i j u hu).mono (Nat.le_refl _) (fun b _ h => ho b h) (fun _ _ _ => rfl)) (hb _ (List.mem_cons_self ..)) h12 h13 (ih (fun b h => hb b (List.mem_cons_of_mem _ h)))
theorem RRes.less {w w' : World} {O O' : Nat → Prop} {cs : List AV} {Vs : List Value} {bs : List Nat} (h : RRes w w' O cs Vs bs) (ho : ∀ b, O' b → O b) (hb : ∀ b, b ∈ bs → O' b) : RRes w w' O' cs Vs bs := by
  induction h with
  | nil => exact .nil
  | agg h1 h2 _ ih => exact .agg (h1.less ho (fun b h => hb b (List.mem_append_left _ h))) h2 (ih (fun b h => hb b (List.mem_append_right _ h)))
  | one h0 h1 h2 _ ih => exact .one h0 (h1.less ho (fun b h => hb b (List.mem_append_left _ h))) h2 (ih (fun b h => hb b (List.mem_append_right _ h)))
theorem zero_own {w : World} {own : Nat → Prop} {b : Nat} : (zeroGh w own).own b ↔ own b := by
  constructor
  · rintro (h | ⟨id, h, _⟩)
    · exact h
    · simp [zeroGh, lookup] at h
  · exact fun h => .inl h
def endsAs (res : List AV) : List AV → St → Prop := fun vs st' => match outRes st'.objs vs [] with
  | some r => r = res
  | none => False
theorem spec_done {f : FuncId} {fn : Func} {args res : List AV} (hf : C.P.funcs[f]? = some fn) (hn : (fn.name == "runtime.NumGoroutine") = false) (hb : fn.body.isNone = false)
    (h : (∀ p, p ∈ pres → p) → ∀ (g : Gh) (b0 : Nat) (w0 : World) (vals : Array Value), Mem C.G b0 w0 st0.objs st0.next g → vals.size = args.length → (∀ (j : Nat) c, args[j]? = some c → ARep g c (vals.getD j undef)) →
      Calls C.P f vals g.w (FuncDone C b0 w0 st0 g (endsAs res) (fun _ _ => False))) :
    SpecOK C.P C.G f args pres res := by
  refine ⟨⟨fn, hf, hn, hb⟩, fun hp w own vals hown hsz hargs hG => ?_⟩
  have hM : Mem C.G w.heap.size w st0.objs st0.next (zeroGh w own) :=
    ⟨rfl, fun id ob h => by simp [zeroGh, lookup] at h, fun id id' b h => by simp [zeroGh, lookup] at h, fun id _ => rfl, Below.refl _ _, Nat.le_refl _, fun b hb => ⟨hown b hb, fun id h => by simp [zeroGh, lookup] at h⟩, fun id b h => by simp [zeroGh, lookup] at h, fun n l hn => by
      obtain ⟨q1, c, T, fr, q2, q3, q4, q5⟩ := hG n l hn
      refine ⟨fun h => q1 (zero_own.1 h), c, T, fr, q2, q3, fun j u hu => ?_, q5⟩
      have := q4 j u hu
      unfold GRep at this ⊢
      split at this
      · exact this.mono (Nat.le_refl _) (fun b _ h => zero_own.1 h) (fun _ _ _ => rfl)
      · exact this
      · exact this⟩
  have hc := h hp _ _ _ vals hM hsz hargs
  refine hc.mono ?_
  rintro e w' (⟨vs, st', g', Vs, rfl, k1, k2, rfl, k4, k5, k6⟩ | ⟨v, st', g', V, rfl, k1, _⟩)
  · unfold endsAs at k1
    split at k1
    case h_2 => exact k1.elim
    rename_i r hr
    subst k1
    obtain ⟨objs', g2, s1, s2, s3, s4, s5, s6, s7⟩ := settle_mem k2
    obtain ⟨bs, o1, o2⟩ := out_res s1 s6 s7 vs [] Vs hr ⟨k5, fun j c hc => by
      obtain ⟨V, hV, hrep⟩ := k6 j c hc
      exact ⟨V, hV, hrep.ext s2 s3⟩⟩
    rw [s4] at o1
    refine ⟨Vs, bs, rfl, k2.below, o1.less (fun b hb => ?_) (fun b hb => .inr hb), fun b hb => (o1.nodup.2 b hb).2⟩
    rcases hb with hb | hb
    · refine .inl ?_
      rw [s5, k4.base]
      exact hb
    · obtain ⟨id, _, e2, e3, e4⟩ := o2 b hb
      exact .inr ⟨id, e2, e3, e4⟩
  · exact k1.elim
theorem spec_ok {f : FuncId} {fn : Func} {args res : List AV} (hE : EOK C.P C.E C.G) (hC : CallOK C) (hf : C.P.funcs[f]? = some fn) (hn : (fn.name == "runtime.NumGoroutine") = false) (hb : fn.body.isNone = false) (h : (∀ p, p ∈ pres → p) → evSpec C fn args (fun r => r = res)) :
    SpecOK C.P C.G f args pres res :=
  spec_done hf hn hb (fun hp g b0 w0 vals hM hsz hargs => (evFunc_sound hE hC hf (h hp) hM hsz hargs).2)
end Go.AE
namespace Go.AE
open Go.RowKit
theorem rcells_settle {w w' : World} {O O' : Nat → Prop} {cs : List AV} {Vs : List Value} {bs : List Nat} (h : RCells w w' O cs Vs bs) (hO : ∀ b, O' b → O b) (hf : ∀ b, w.heap.size ≤ b → ¬ O' b) : RCells w w' O' (lmap settleCell cs) Vs [] := by
  induction h with
  | nil => exact .nil
  | imm h1 _ ih => exact .imm (h1.mono (Nat.le_refl _) (fun b _ hb => hO b hb) (fun _ _ _ => rfl)) ih
  | fn _ ih => exact .fn ih
  | shared _ h1 _ ih => exact .imm (h1.mono (Nat.le_refl _) (fun b _ hb => hO b hb) (fun _ _ _ => rfl)) ih
  | @excl u b n cap c' T fr r Vs bs h1 h2 h3 h4 h5 h6 h7 h8 h9 h10 h11 h12 h13 _ ih =>
    have hlt : b < w'.heap.size := (Array.getElem?_eq_some_iff.1 h2).1
    refine .imm (.slice (fun i j => c'.getD (i * u.esize + j) undef) h4 h5 h6 h7 h8 (hf b h1) hlt (fun i j x hx => ?_) (fun i j x hx => ?_)) ih
    · obtain ⟨hi, hj⟩ := cellAt_lt h4 h5 hx
      have : (i + 1) * u.esize ≤ cap * u.esize := Nat.mul_le_mul_right _ (by omega)
      rw [Nat.add_mul] at this
      rw [add_plain, Nat.zero_add, cell_of_row w' b _ c' T fr h2]
      exact some_of_lt (by omega)
    · exact (h10 i j x hx).mono (Nat.le_refl _) (fun b _ hb => hO b hb) (fun _ _ _ => rfl)
theorem rres_settle {w w' : World} {O O' : Nat → Prop} {res : List AV} {Vs : List Value} {bs : List Nat} (h : RRes w w' O res Vs bs) (hO : ∀ b, O' b → O b) (hf : ∀ b, w.heap.size ≤ b → ¬ O' b) : RRes w w' O' (lmap settle res) Vs [] := by
  induction h with
  | nil => exact .nil
  | agg h1 _ _ ih => exact .agg (bs := []) (bs' := []) (rcells_settle h1 hO hf) (fun b hb => by cases hb) ih
  | @one c V r Vs bs bs' h0 h1 _ _ ih =>
    have hs := settle_one h0
    have := rcells_settle h1 hO hf
    simp only [lmap] at this
    refine .one (bs := []) (bs' := []) ?_ ?_ (fun b hb => by cases hb) ih
    · intro cs e
      rw [hs] at e
      cases c <;> simp [settleCell] at e
      exact h0 _ rfl
    · rw [hs]; exact this
theorem spec_settle {P : Program} {G : Nat → Option (List AV)} {f : FuncId} {args res : List AV} {pres : List Prop} (h : SpecOK P G f args pres res) : SpecOK P G f args pres (lmap settle res) := by
  refine ⟨h.fn, fun hp w own vals hown hs ha hG => (h.calls hp w own vals hown hs ha hG).mono ?_⟩
  rintro e w' ⟨Vs, bs, rfl, hb, hr, _⟩
  exact ⟨Vs, [], rfl, hb, rres_settle hr (fun b hb => by rcases hb with hb | hb; exact .inl hb; cases hb) (fun b hle hb => by
    rcases hb with hb | hb
    · have := hown b hb; omega
    · cases hb), fun b hb => by cases hb⟩
theorem spec_okS {C : Cx} {pres : List Prop} {f : FuncId} {fn : Func} {args res : List AV} (hE : EOK C.P C.E C.G) (hC : CallOK C) (hf : C.P.funcs[f]? = some fn) (hn : (fn.name == "runtime.NumGoroutine") = false) (hb : fn.body.isNone = false)
    (h : (∀ p, p ∈ pres → p) → evSpec C fn args (fun r => lmap settle r = res)) : SpecOK C.P C.G f args pres res := by
  refine ⟨⟨fn, hf, hn, hb⟩, fun hp w own vals hown hsz hargs hG => ?_⟩
  have hM : Mem C.G w.heap.size w st0.objs st0.next (zeroGh w own) :=
    ⟨rfl, fun id ob h => by simp [zeroGh, lookup] at h, fun id id' b h => by simp [zeroGh, lookup] at h, fun id _ => rfl, Below.refl _ _, Nat.le_refl _, fun b hb => ⟨hown b hb, fun id h => by simp [zeroGh, lookup] at h⟩, fun id b h => by simp [zeroGh, lookup] at h, fun n l hn => by
      obtain ⟨q1, c, T, fr, q2, q3, q4, q5⟩ := hG n l hn
      refine ⟨fun h => q1 (zero_own.1 h), c, T, fr, q2, q3, fun j u hu => ?_, q5⟩
      have := q4 j u hu
      unfold GRep at this ⊢
      split at this
      · exact this.mono (Nat.le_refl _) (fun b _ h => zero_own.1 h) (fun _ _ _ => rfl)
      · exact this
      · exact this⟩
  have hc := (evFunc_sound hE hC hf (h hp) hM hsz hargs).2
  refine hc.mono ?_
  rintro e w' (⟨vs, st', g', Vs, rfl, k1, k2, rfl, k4, k5, k6⟩ | ⟨v, st', g', V, rfl, k1, _⟩)
  · split at k1
    case h_2 => exact k1.elim
    rename_i r hr
    subst k1
    obtain ⟨objs', g2, s1, s2, s3, s4, s5, s6, s7⟩ := settle_mem k2
    obtain ⟨bs, o1, o2⟩ := out_res s1 s6 s7 vs [] Vs hr ⟨k5, fun j c hc => by
      obtain ⟨V, hV, hrep⟩ := k6 j c hc
      exact ⟨V, hV, hrep.ext s2 s3⟩⟩
    rw [s4] at o1
    refine ⟨Vs, [], rfl, k2.below, rres_settle o1 (fun b hb => ?_) (fun b hle hb => ?_), fun b hb => by cases hb⟩
    · rcases hb with hb | hb
      · refine .inl ?_
        rw [s5, k4.base]
        exact hb
      · cases hb
    · rcases hb with hb | hb
      · have := hown b hb; omega
      · cases hb
  · exact k1.elim
end Go.AE
namespace Go.AE
inductive Dir where
  | l | r | b
def codeAt : List Dir → Code → Code
  | [], c => c
  | .l :: p, .seq a _ => codeAt p a
  | .r :: p, .seq _ b => codeAt p b
  | .l :: p, .cond _ a _ => codeAt p a
  | .r :: p, .cond _ _ b => codeAt p b
  | .b :: p, .block _ c => codeAt p c
  | _, c => c
def kAt (C : Cx) : List Dir → Code → (AX → St → Prop) → (AX → St → Prop)
  | [], _, k => k
  | .l :: p, .seq a b, k => kAt C p a fun x st => match x with
    | .normal => evCode C b st k
    | x => k x st
  | .r :: p, .seq _ b, k => kAt C p b k
  | .l :: p, .cond _ a _, k => kAt C p a k
  | .r :: p, .cond _ _ b, k => kAt C p b k
  | .b :: p, .block id c, k => kAt C p c fun x st => match x with
    | .exit i => bif Nat.beq i id then k .normal st else k (.exit i) st
    | x => k x st
  | _, _, k => k
def loopsIn : Code → List (List Dir)
  | .seq a b => lapp (lmap (.l :: ·) (loopsIn a)) (lmap (.r :: ·) (loopsIn b))
  | .cond _ a b => lapp (lmap (.l :: ·) (loopsIn a)) (lmap (.r :: ·) (loopsIn b))
  | .block _ c => lmap (.b :: ·) (loopsIn c)
  | .loop _ => [[]]
  | _ => []
def pathN : List (List Dir) → Nat → List Dir
  | [], _ => []
  | p :: _, 0 => p
  | _ :: r, i + 1 => pathN r i
def loopN (c : Code) (i : Nat) : Code := codeAt (pathN (loopsIn c) i) c
def unloop : Code → Code
  | .loop c => c
  | c => c
def loopB (c : Code) (i : Nat) : Code := unloop (loopN c i)
def loopK (C : Cx) (c : Code) (i : Nat) (k : AX → St → Prop) : AX → St → Prop := kAt C (pathN (loopsIn c) i) c k
def LoopI (C : Cx) (c : Code) (i : Nat) (st : St) (k : AX → St → Prop) : Prop := evCode C (.loop (loopB c i)) st (loopK C c i k)
def bodyOf (fn : Func) : Code := match fn.body with
  | some c => c
  | none => .skip
def finK (C : Cx) (fn : Func) (K : List AV → Prop) : AX → St → Prop := fun x st1 => match x with
  | .normal => match resOf C.P st1 fn.results.toList with
    | some vs => match outRes st1.objs vs [] with
      | some r => K r
      | none => False
    | none => False
  | .ret => match resOf C.P st1 fn.results.toList with
    | some vs => match outRes st1.objs vs [] with
      | some r => K r
      | none => False
    | none => False
  | _ => False
def sget : List (Nat × AV) → Nat → AV
  | [], _ => .dead
  | (i, v) :: r, j => bif Nat.beq i j then v else sget r j
def spr (l : List (Nat × AV)) : Nat → Nat → List AV
  | _, 0 => []
  | i, n + 1 => sget l i :: spr l (i + 1) n
def msk (l : List Nat) : Nat → Nat → List Bool
  | _, 0 => []
  | i, n + 1 => natIn l i :: msk l (i + 1) n
def dN (n : Nat) : List AV := lrepl n .dead
theorem brn_intro {b : Bool} {x y : Prop} (h1 : b = true → x) (h2 : b = false → y) : brn b x y := by
  cases b
  · exact h2 rfl
  · exact h1 rfl
theorem loop_rule {C : Cx} {σ : Type} {c : Code} (I : σ → St) (P : σ → Prop) (μ : σ → Nat) {k : AX → St → Prop}
    (hbody : ∀ s, P s → ∀ K : AX → St → Prop, (∀ s' p st1, P s' → μ s' < μ s → norm p st1 = some (I s') → K .normal st1) → (∀ x st1, x ≠ .normal → k x st1 → K x st1) → evCode C c (I s) K)
    (hu : C.rounds = 0) (s : σ) (p : Plan) (st : St) (hP : P s) (hn : norm p st = some (I s)) : evCode C (.loop c) st k := by
  simp only [evCode, hu]
  have key : ∀ n s p st, P s → norm p st = some (I s) → μ s < n → LoopN (evCode C c) k n st := by
    intro n
    induction n with
    | zero => intro s p st _ _ h; omega
    | succ n ih =>
      intro s p st hP hn hμ
      refine ⟨p, I s, hn, hbody s hP _ (fun s' p' st1 hP' hμ' hn' => ?_) (fun x st1 hx hk => ?_)⟩
      · exact ih s' p' st1 hP' hn' (by omega)
      · cases x with
        | normal => exact absurd rfl hx
        | _ => exact hk
  exact ⟨μ s + 1, key _ s p st hP hn (by omega)⟩
end Go.AE
namespace P8
open Go Go.AE Go.Proofs
def isD (b : UInt8) : Bool := decide (48 ≤ b.toNat) && decide (b.toNat ≤ 57)
def dv (b : UInt8) : Nat := b.toNat - 48
def digit (s : List UInt8) (i : Nat) : Nat × Bool := match s[i]? with
  | some b => if isD b then (dv b, true) else (0, false)
  | none => (0, false)
def num (ds : List UInt8) : Nat := ds.foldl (fun v b => v * 10 + dv b) 0
def runD (l : List UInt8) : List UInt8 := l.takeWhile isD
def hoursP (s : List UInt8) (at' : Nat) : Int × Int × Bool :=
  if (runD (s.drop at')).length ≤ 3 then ((num (runD (s.drop at')) : Int), ((at' + (runD (s.drop at')).length : Nat) : Int), decide (0 < (runD (s.drop at')).length) && decide (num (runD (s.drop at')) ≤ 167)) else (0, 0, false)
def field (l : List UInt8) : Option Nat := match l with
  | c :: a :: b :: _ => if c = 58 ∧ isD a = true ∧ isD b = true ∧ dv a * 10 + dv b < 60 then some (dv a * 10 + dv b) else none
  | _ => none
def fieldsP (s : List UInt8) (at' : Nat) : Int × Int := match field (s.drop at') with
  | none => (0, (at' : Int))
  | some m => match field (s.drop (at' + 3)) with
    | none => (60 * (m : Int), ((at' + 3 : Nat) : Int))
    | some c => (60 * (m : Int) + c, ((at' + 6 : Nat) : Int))
def fieldR (s : List UInt8) (i : Nat) : Int := match field (s.drop i) with
  | none => -1
  | some m => m
def sgn : List UInt8 → Int
  | b :: _ => if b = 45 then -1 else 1
  | [] => 1
def off : List UInt8 → Nat
  | b :: _ => if b = 45 ∨ b = 43 then 1 else 0
  | [] => 0
def parse (s : List UInt8) : Int × Int × Bool :=
  if (hoursP s (off s)).2.2 then (sgn s * ((hoursP s (off s)).1 * 3600 + (fieldsP s (hoursP s (off s)).2.1.toNat).1), (fieldsP s (hoursP s (off s)).2.1.toNat).2, true) else (0, 0, false)
def dg (n : Nat) : UInt8 := UInt8.ofNat (48 + n)
def dd (n : Nat) : List UInt8 := if n < 10 then [dg n] else if n < 100 then [dg (n / 10), dg (n % 10)] else [dg (n / 100), dg (n / 10 % 10), dg (n % 10)]
def pfx (s t : List UInt8) : Bool := t.isPrefixOf s
def bo (b : Bool) : AV := .imm (.bool b)
def i64 (n : Int) : AV := .imm (.int .i64 n)
def st (s : List UInt8) : AV := .imm (.str s)
def big : Int := 9223372036854775000
def sDigit : List AV → Option (List Prop × List AV)
  | [.imm (.str s), .imm (.int .i64 i)] => some ([0 ≤ i], [i64 (digit s i.toNat).1, bo (digit s i.toNat).2])
  | _ => none
def sIsDigit : List AV → Option (List Prop × List AV)
  | [.imm (.str s), .imm (.int .i64 i)] => some ([0 ≤ i], [bo (digit s i.toNat).2])
  | _ => none
def sPfx : List AV → Option (List Prop × List AV)
  | [.imm (.str s), .imm (.str t)] => some ([], [bo (pfx s t)])
  | _ => none
def sHours : List AV → Option (List Prop × List AV)
  | [.imm (.str s), .imm (.int .i64 i)] => some ([0 ≤ i, i ≤ 1, (s.length : Int) ≤ big], [i64 (hoursP s i.toNat).1, i64 (hoursP s i.toNat).2.1, bo (hoursP s i.toNat).2.2])
  | _ => none
def sFields : List AV → Option (List Prop × List AV)
  | [.imm (.str s), .imm (.int .i64 i), .imm (.ints .i64 [60, 1])] => some ([0 ≤ i, i ≤ (s.length : Int), (s.length : Int) ≤ big], [i64 (fieldsP s i.toNat).1, i64 (fieldsP s i.toNat).2])
  | _ => none
def sField : List AV → Option (List Prop × List AV)
  | [.imm (.str s), .imm (.int .i64 i)] => some ([0 ≤ i, i ≤ (s.length : Int), (s.length : Int) ≤ big], [i64 (fieldR s i.toNat)])
  | _ => none
def sParse : List AV → Option (List Prop × List AV)
  | [.imm (.str s)] => some ([(s.length : Int) ≤ big], [i64 (parse s).1, i64 (parse s).2.1, bo (parse s).2.2])
  | _ => none
def G8 : Nat → Option (List AV) := fun n => bif Nat.beq n 0 then some [.imm (.mp [(1, 119), (2, 121), (3, 121), (4, 121)])] else bif Nat.beq n 1 then some [.imm (.sl 2 [[.str [116, 105, 109, 101], .val (.func (.func 137) #[] #[])], [.str [102, 105, 114, 115, 116, 32, 99, 111, 114, 114, 101, 99, 116, 105, 111, 110], .val (.func (.func 138) #[] #[])], [.str [115, 116, 101, 112], .val (.func (.func 139) #[] #[])]])] else none
noncomputable def cx (E : FuncId → List AV → Option (List Prop × List AV)) : Cx := ⟨Tryd.prog, E, noCall, G8, 0⟩
noncomputable def cxu (E : FuncId → List AV → Option (List Prop × List AV)) : Cx := ⟨Tryd.prog, E, noCall, G8, 3⟩
def E1 := addE (addE (addE noE 90 sDigit) 78 sIsDigit) 89 sPfx
def E2 := addE E1 70 sPfx
def E3 := addE (addE (addE E2 71 sHours) 72 sFields) 79 sField
def E4 := addE (addE E3 48 sParse) 58 sParse
def E5 := E4
noncomputable def C0 : Cx := cx noE
noncomputable def C1 : Cx := cx E1
noncomputable def C2 : Cx := cx E2
noncomputable def D2 : Cx := cxu E2
noncomputable def C3 : Cx := cx E3
noncomputable def C4 : Cx := cx E4
noncomputable def C5 : Cx := cx E5
def h17 (s : List UInt8) (i h n d : Int) (ok : Bool) : St := ⟨lapp [st s, i64 i, .dead, .dead, i64 0, i64 0, bo false, i64 h, i64 n, i64 d, bo ok] (lrepl 33 .dead), [], 0, []⟩
def h10 (s : List UInt8) (i n h : Int) : St := ⟨lapp [st s, .dead, i64 0, i64 0, bo false, i64 i, i64 n, i64 h] (lrepl 79 .dead), [], 0, []⟩
end P8
set_option maxRecDepth 100000
namespace P8
open Go Go.AE Go.Proofs
attribute [local irreducible] loopK evCode evSpec loopB norm
theorem f17_lp (s : List UInt8) (i : Int) (h : Int) (n : Int) (d : Int) (ok : Bool) (k : AX → St → Prop) : evCode C2 (loopB (bodyOf Tryd.f71) (0 : Nat)) (h17 s i h n d ok) k = (brn ok (brn (decide (IntKind.wrap .i64 (IntKind.wrap .i64 (n + 1) - i) > 3)) (k AX.ret (St.mk (lapp [st s, i64 i, .dead, .dead, i64 0, i64 0, bo false, i64 h, i64 (IntKind.wrap .i64 (n + 1)), i64 d, bo ok] (lapp (dN 7) (lapp [bo ok] (lapp (dN 6) (lapp [i64 n, i64 (IntKind.wrap .i64 (n + 1)), i64 (IntKind.wrap .i64 (n + 1)), i64 i, i64 (IntKind.wrap .i64 (IntKind.wrap .i64 (n + 1) - i)), bo (decide (IntKind.wrap .i64 (IntKind.wrap .i64 (n + 1) - i) > 3))] (dN 13)))))) [] (0 : Nat) [])) ((0 : Int) ≤ IntKind.wrap .i64 (n + 1) ∧ k AX.normal (St.mk (lapp [st s, i64 i, .dead, .dead, i64 0, i64 0, bo false, i64 (IntKind.wrap .i64 (IntKind.wrap .i64 (h * 10) + d)), i64 (IntKind.wrap .i64 (n + 1)), i64 (↑(digit s (IntKind.wrap .i64 (n + 1)).toNat).1 : Int), bo (digit s (IntKind.wrap .i64 (n + 1)).toNat).2] (lapp (dN 7) (lapp [bo ok, .tup [i64 (↑(digit s (IntKind.wrap .i64 (n + 1)).toNat).1 : Int), bo (digit s (IntKind.wrap .i64 (n + 1)).toNat).2], st s, i64 (IntKind.wrap .i64 (n + 1)), .tup [i64 (↑(digit s
 (IntKind.wrap .i64 (n + 1)).toNat).1 : Int), bo (digit s (IntKind.wrap .i64 (n + 1)).toNat).2], i64 (↑(digit s (IntKind.wrap .i64 (n + 1)).toNat).1 : Int), bo (digit s (IntKind.wrap .i64 (n + 1)).toNat).2, i64 n, i64 (IntKind.wrap .i64 (n + 1)), i64 (IntKind.wrap .i64 (n + 1)), i64 i, i64 (IntKind.wrap .i64 (IntKind.wrap .i64 (n + 1) - i)), bo (decide (IntKind.wrap .i64 (IntKind.wrap .i64 (n + 1) - i) > 3)), i64 h, i64 (IntKind.wrap .i64 (h * 10)), i64 d, i64 (IntKind.wrap .i64 (IntKind.wrap .i64 (h * 10) + d))] (dN 9)))) [] (0 : Nat) []))) (k (AX.exit (0 : Nat)) (St.mk (lapp [st s, i64 i, .dead, .dead, i64 0, i64 0, bo false, i64 h, i64 n, i64 d, bo ok] (lapp (dN 7) (lapp [bo ok] (dN 25)))) [] (0 : Nat) []))) := by kernel_rfl
theorem f10_lp (s : List UInt8) (i : Int) (n : Int) (h : Int) (k : AX → St → Prop) : evCode C3 (loopB (bodyOf Tryd.f58) (0 : Nat)) (h10 s i n h) k = ((0 : Int) ≤ IntKind.wrap .i64 (i + n) ∧ brn (digit s (IntKind.wrap .i64 (i + n)).toNat).2 (brn (decide (n < 4)) ((0 : Int) ≤ IntKind.wrap .i64 (i + n) ∧ IntKind.wrap .i64 (i + n) < (s.length : Int) ∧ k AX.normal (St.mk (lapp [st s, .dead, i64 0, i64 0, bo false, i64 i, i64 (IntKind.wrap .i64 (n + 1)), i64 (IntKind.wrap .i64 (IntKind.wrap .i64 (IntKind.wrap .i64 ((10 : Int) * h) + IntKind.wrap .i64 (↑(UInt8.toNat (List.getD s (IntKind.wrap .i64 (i + n)).toNat (0 : UInt8))) : Int)) - 48))] (lapp (dN 17) (lapp [st s, i64 i, i64 n, i64 (IntKind.wrap .i64 (i + n)), bo (digit s (IntKind.wrap .i64 (i + n)).toNat).2, i64 n, bo (decide (n < 4)), i64 h, i64 (IntKind.wrap .i64 ((10 : Int) * h)), st s, i64 i, i64 n, i64 (IntKind.wrap .i64 (i + n)), .imm (.int .u8 (↑(UInt8.toNat (List.getD s (IntKind.wrap .i64 (i + n)).toNat (0 : UInt8))) : Int)), i64 (IntKind.wrap .i64 (↑(UInt8.toNat (List.getD s (IntKind.wrap .i64 (i + n)).toNat (0 : UInt8))) : Int)), i64 (IntKind.wrap .i64 (IntKind.wrap .i64 ((10 : Int) * h) + IntKind.wrap .i64 (↑(UInt8.toNat
 (List.getD s (IntKind.wrap .i64 (i + n)).toNat (0 : UInt8))) : Int))), i64 (IntKind.wrap .i64 (IntKind.wrap .i64 (IntKind.wrap .i64 ((10 : Int) * h) + IntKind.wrap .i64 (↑(UInt8.toNat (List.getD s (IntKind.wrap .i64 (i + n)).toNat (0 : UInt8))) : Int)) - 48)), i64 n, i64 (IntKind.wrap .i64 (n + 1))] (dN 43)))) [] (0 : Nat) [])) (k AX.normal (St.mk (lapp [st s, .dead, i64 0, i64 0, bo false, i64 i, i64 (IntKind.wrap .i64 (n + 1)), i64 h] (lapp (dN 17) (lapp [st s, i64 i, i64 n, i64 (IntKind.wrap .i64 (i + n)), bo (digit s (IntKind.wrap .i64 (i + n)).toNat).2, i64 n, bo (decide (n < 4))] (lapp (dN 10) (lapp [i64 n, i64 (IntKind.wrap .i64 (n + 1))] (dN 43)))))) [] (0 : Nat) []))) (k (AX.exit (0 : Nat)) (St.mk (lapp [st s, .dead, i64 0, i64 0, bo false, i64 i, i64 n, i64 h] (lapp (dN 17) (lapp [st s, i64 i, i64 n, i64 (IntKind.wrap .i64 (i + n)), bo (digit s (IntKind.wrap .i64 (i + n)).toNat).2] (dN 57)))) [] (0 : Nat) []))) := by kernel_rfl
theorem f25_in (s : List
  UInt8) (n : Int) (K : List AV → Prop) : evSpec C0 Tryd.f90 [AV.imm (IV.str s), AV.imm (IV.int IntKind.i64 n)] K = ((decide (n ≥ (↑(List.length s) : Int)) = false → (0 : Int) ≤ n) ∧ (decide (n ≥ (↑(List.length s) : Int)) = false → n < (↑(List.length s) : Int)) ∧ ((decide (n ≥ (↑(List.length s) : Int)) || decide ((↑(UInt8.toNat (List.getD s (Int.toNat n) (0 : UInt8))) : Int) < (48 : Int))) = false → (0 : Int) ≤ n) ∧ ((decide (n ≥ (↑(List.length s) : Int)) || decide ((↑(UInt8.toNat (List.getD s (Int.toNat n) (0 : UInt8))) : Int) < (48 : Int))) = false → n < (↑(List.length s) : Int)) ∧ brn (decide (n ≥ (↑(List.length s) : Int)) || decide ((↑(UInt8.toNat (List.getD s (Int.toNat n) (0 : UInt8))) : Int) < (48 : Int)) || decide ((↑(UInt8.toNat (List.getD s (Int.toNat n) (0 : UInt8))) : Int) > (57 : Int))) (K [i64 0, bo false]) ((0 : Int) ≤ n ∧ n < (↑(List.length s) : Int) ∧ K [i64 (IntKind.wrap IntKind.i64 (IntKind.wrap IntKind.u8 ((↑(UInt8.toNat (List.getD s (Int.toNat n) (0 : UInt8))) : Int) - (48 : Int)))), bo true])) := by kernel_rfl
theorem f19_in (s : List
  UInt8) (n : Int) (K : List AV → Prop) : evSpec C0 Tryd.f78 [AV.imm (IV.str s), AV.imm (IV.int IntKind.i64 n)] K = ((decide (n < (↑(List.length s) : Int)) = true → (0 : Int) ≤ n) ∧ (decide (n < (↑(List.length s) : Int)) = true → n < (↑(List.length s) : Int)) ∧ ((decide (n < (↑(List.length s) : Int)) && decide ((↑(UInt8.toNat (List.getD s (Int.toNat n) (0 : UInt8))) : Int) ≥ (48 : Int))) = true → (0 : Int) ≤ n) ∧ ((decide (n < (↑(List.length s) : Int)) && decide ((↑(UInt8.toNat (List.getD s (Int.toNat n) (0 : UInt8))) : Int) ≥ (48 : Int))) = true → n < (↑(List.length s) : Int)) ∧ K [bo (decide (n < (↑(List.length s) : Int)) && decide ((↑(UInt8.toNat (List.getD s (Int.toNat n) (0 : UInt8))) : Int) ≥ (48 : Int)) && decide ((↑(UInt8.toNat (List.getD s (Int.toNat n) (0 : UInt8))) : Int) ≤ (57 : Int)))]) := by kernel_rfl
theorem f24_in (s : List
  UInt8) (t : List UInt8) (K : List AV → Prop) : evSpec C0 Tryd.f89 [AV.imm (IV.str s), AV.imm (IV.str t)] K = ((decide ((↑(List.length s) : Int) ≥ (↑(List.length t) : Int)) = true → (0 : Int) ≤ (↑(List.length t) : Int)) ∧ (decide ((↑(List.length s) : Int) ≥ (↑(List.length t) : Int)) = true → (↑(List.length t) : Int) ≤ (↑(List.length s) : Int)) ∧ K [bo (decide ((↑(List.length s) : Int) ≥ (↑(List.length t) : Int)) && decide (List.take (Int.toNat (↑(List.length t) : Int) - (0 : Nat)) (List.drop (0 : Nat) s) = t))]) := by kernel_rfl
theorem f16_in (s : List UInt8) (t : List UInt8) (K : List AV → Prop) : evSpec C1 Tryd.f70 [.imm (.str s), .imm (.str t)] K = (K [.imm (.bool (pfx s t))]) := by kernel_rfl
theorem f17_in (s : List
  UInt8) (n : Int) (K : List AV → Prop) : evSpec C2 Tryd.f71 [AV.imm (IV.str s), AV.imm (IV.int IntKind.i64 n)] K = ((0 : Int) ≤ n ∧ LoopI C2 (bodyOf Tryd.f71) (0 : Nat) (St.mk (lapp [st s, i64 n, AV.dead, AV.dead, i64 0, i64 0, bo false, i64 0, i64 n, i64 (↑(Prod.fst (digit s (Int.toNat n))) : Int), bo (Prod.snd (digit s (Int.toNat n))), i64 n, AV.tup [i64 (↑(Prod.fst (digit s (Int.toNat n))) : Int), bo (Prod.snd (digit s (Int.toNat n)))], st s, i64 n, AV.tup [i64 (↑(Prod.fst (digit s (Int.toNat n))) : Int), bo (Prod.snd (digit s (Int.toNat n)))], i64 (↑(Prod.fst (digit s (Int.toNat n))) : Int), bo (Prod.snd (digit s (Int.toNat n)))] (dN 26)) [] (0 : Nat) []) (finK C2 Tryd.f71 K)) := by kernel_rfl
theorem f18_in (s : List UInt8) (n : Int) (K : List AV → Prop) : evSpec D2 Tryd.f72 [.imm (.str s), .imm (.int .i64 n), .imm (.ints IntKind.i64 [(60 : Int), (1 : Int)])] K = ((0 : Int) ≤ 0 ∧ (0 : Int) < (↑(List.length [(60 : Int), (1 : Int)]) : Int) ∧ (0 : Int) ≤ IntKind.wrap .i64 (n + 1) ∧ (0 : Int) ≤ IntKind.wrap .i64 (n + 2) ∧ ((0 : Int) ≤ if (s.length : Int) < n then (s.length : Int) else n) ∧ (if (s.length : Int) < n then (s.length : Int) else n) ≤ (s.length : Int) ∧ brn (!pfx (List.take (s.length - (if (s.length : Int) < n then (s.length : Int) else n).toNat) (List.drop (if (s.length : Int) < n then (s.length : Int) else n).toNat s)) [(58 : UInt8)] || !(digit s (IntKind.wrap .i64 (n + 1)).toNat).2 || !(digit s (IntKind.wrap .i64 (n + 2)).toNat).2 || decide (IntKind.wrap .i64 (IntKind.wrap .i64 ((↑(digit s (IntKind.wrap .i64 (n + 1)).toNat).1 : Int) * 10) + (↑(digit s (IntKind.wrap .i64 (n + 2)).toNat).1 : Int)) ≥ 60)) (K [i64 0, i64 n]) ((0 : Int) ≤ IntKind.wrap .i64 ((0 : Int) + 1) ∧ IntKind.wrap .i64 ((0 : Int) + 1) < (↑(List.length [(60 : Int), (1 : Int)]) : Int) ∧ (0 : Int) ≤ IntKind.wrap .i64 (IntKind.wrap .i64 (n + 3) + 1) ∧ (0 : Int) ≤ IntKind.wrap .i64 (IntKind.wrap
 .i64 (n + 3) + 2) ∧ ((0 : Int) ≤ if (s.length : Int) < IntKind.wrap .i64 (n + 3) then (s.length : Int) else IntKind.wrap .i64 (n + 3)) ∧ (if (s.length : Int) < IntKind.wrap .i64 (n + 3) then (s.length : Int) else IntKind.wrap .i64 (n + 3)) ≤ (s.length : Int) ∧ brn (!pfx (List.take (s.length - (if (s.length : Int) < IntKind.wrap .i64 (n + 3) then (s.length : Int) else IntKind.wrap .i64 (n + 3)).toNat) (List.drop (if (s.length : Int) < IntKind.wrap .i64 (n + 3) then (s.length : Int) else IntKind.wrap .i64 (n + 3)).toNat s)) [(58 : UInt8)] || !(digit s (IntKind.wrap .i64 (IntKind.wrap .i64 (n + 3) + 1)).toNat).2 || !(digit s (IntKind.wrap .i64 (IntKind.wrap .i64 (n + 3) + 2)).toNat).2 || decide (IntKind.wrap .i64 (IntKind.wrap .i64 ((↑(digit s (IntKind.wrap .i64 (IntKind.wrap .i64 (n + 3) + 1)).toNat).1 : Int) * 10) + (↑(digit s (IntKind.wrap .i64 (IntKind.wrap .i64 (n + 3) + 2)).toNat).1 : Int)) ≥ 60)) (K [i64 (IntKind.wrap .i64 ((0 : Int) + IntKind.wrap .i64 (List.getD [(60 : Int), (1 : Int)] (0 : Int).toNat (0 : Int) * IntKind.wrap .i64 (IntKind.wrap .i64 ((↑(digit s (IntKind.wrap .i64 (n + 1)).toNat).1 : Int) * 10) + (↑(digit s (IntKind.wrap .i64 (n + 2)).toNat).1 : Int))))), i64
 (IntKind.wrap .i64 (n + 3))]) (K [i64 (IntKind.wrap .i64 (IntKind.wrap .i64 ((0 : Int) + IntKind.wrap .i64 (List.getD [(60 : Int), (1 : Int)] (0 : Int).toNat (0 : Int) * IntKind.wrap .i64 (IntKind.wrap .i64 ((↑(digit s (IntKind.wrap .i64 (n + 1)).toNat).1 : Int) * 10) + (↑(digit s (IntKind.wrap .i64 (n + 2)).toNat).1 : Int)))) + IntKind.wrap .i64 (List.getD [(60 : Int), (1 : Int)] (IntKind.wrap .i64 ((0 : Int) + 1)).toNat (0 : Int) * IntKind.wrap .i64 (IntKind.wrap .i64 ((↑(digit s (IntKind.wrap .i64 (IntKind.wrap .i64 (n + 3) + 1)).toNat).1 : Int) * 10) + (↑(digit s (IntKind.wrap .i64 (IntKind.wrap .i64 (n + 3) + 2)).toNat).1 : Int))))), i64 (IntKind.wrap .i64 (IntKind.wrap .i64 (n + 3) + 3))]))) := by kernel_rfl
theorem f20_in (s : List UInt8) (n : Int) (K : List AV → Prop) : evSpec C2 Tryd.f79 [.imm (.str s), .imm (.int .i64 n)] K = ((decide (n ≥ (s.length : Int)) = false → (0 : Int) ≤ n) ∧ (decide (n ≥ (s.length : Int)) = false → n < (s.length : Int)) ∧ ((decide (n ≥ (s.length : Int)) || (↑(UInt8.toNat (List.getD s n.toNat (0 : UInt8))) : Int) != 58) = false → (0 : Int) ≤ IntKind.wrap .i64 (n + 1)) ∧ ((decide (n ≥ (s.length : Int)) || (↑(UInt8.toNat (List.getD s n.toNat (0 : UInt8))) : Int) != 58 || !(digit s (IntKind.wrap .i64 (n + 1)).toNat).2) = false → (0 : Int) ≤ IntKind.wrap .i64 (n + 2)) ∧ brn (decide (n ≥ (s.length : Int)) || (↑(UInt8.toNat (List.getD s n.toNat (0 : UInt8))) : Int) != 58 || !(digit s (IntKind.wrap .i64 (n + 1)).toNat).2 || !(digit s (IntKind.wrap .i64 (n + 2)).toNat).2) (K [i64 (-1 : Int)]) ((0 : Int) ≤ IntKind.wrap .i64 (n + 1) ∧ IntKind.wrap .i64 (n + 1) < (s.length : Int) ∧ (0 : Int) ≤ IntKind.wrap .i64 (n + 2) ∧ IntKind.wrap .i64 (n + 2) < (s.length : Int) ∧ brn (decide (IntKind.wrap .i64 (IntKind.wrap .i64 (IntKind.wrap .i64 ((10 : Int) * IntKind.wrap .i64 (IntKind.wrap .i64 (↑(UInt8.toNat (List.getD s (IntKind.wrap .i64 (n + 1)).toNat (0 : UInt8))) : Int) -
 48)) + IntKind.wrap .i64 (↑(UInt8.toNat (List.getD s (IntKind.wrap .i64 (n + 2)).toNat (0 : UInt8))) : Int)) - 48) > 59)) (K [i64 (-1 : Int)]) (K [i64 (IntKind.wrap .i64 (IntKind.wrap .i64 (IntKind.wrap .i64 ((10 : Int) * IntKind.wrap .i64 (IntKind.wrap .i64 (↑(UInt8.toNat (List.getD s (IntKind.wrap .i64 (n + 1)).toNat (0 : UInt8))) : Int) - 48)) + IntKind.wrap .i64 (↑(UInt8.toNat (List.getD s (IntKind.wrap .i64 (n + 2)).toNat (0 : UInt8))) : Int)) - 48))]))) := by kernel_rfl
theorem f9_in (s : List UInt8) (K : List AV → Prop) : evSpec C3 Tryd.f48 [.imm (.str s)] K = (brn (pfx s [(45 : UInt8)] || pfx s [(43 : UInt8)]) ((0 : Int) ≤ 0 ∧ (0 : Int) < (s.length : Int) ∧ brn ((↑(UInt8.toNat (List.getD s (0 : Int).toNat (0 : UInt8))) : Int) == 45) ((0 : Int) ≤ 1 ∧ (1 : Int) ≤ 1 ∧ (s.length : Int) ≤ big ∧ brn (!(hoursP s (1 : Int).toNat).2.2) (K [i64 0, i64 0, bo false]) ((0 : Int) ≤ (hoursP s (1 : Int).toNat).2.1 ∧ (hoursP s (1 : Int).toNat).2.1 ≤ (s.length : Int) ∧ (s.length : Int) ≤ big ∧ K [i64 (IntKind.wrap .i64 ((-1 : Int) * IntKind.wrap .i64 (IntKind.wrap .i64 ((hoursP s (1 : Int).toNat).1 * 3600) + (fieldsP s (hoursP s (1 : Int).toNat).2.1.toNat).1))), i64 (fieldsP s (hoursP s (1 : Int).toNat).2.1.toNat).2, bo true])) ((0 : Int) ≤ 1 ∧ (1 : Int) ≤ 1 ∧ (s.length : Int) ≤ big ∧ brn (!(hoursP s (1 : Int).toNat).2.2) (K [i64 0, i64 0, bo false]) ((0 : Int) ≤ (hoursP s (1 : Int).toNat).2.1 ∧ (hoursP s (1 : Int).toNat).2.1 ≤ (s.length : Int) ∧ (s.length : Int) ≤ big ∧ K [i64 (IntKind.wrap .i64 ((1 : Int) * IntKind.wrap .i64 (IntKind.wrap .i64 ((hoursP s (1 : Int).toNat).1 * 3600) + (fieldsP s (hoursP s (1 : Int).toNat).2.1.toNat).1))), i64 (fieldsP s (hoursP s
 (1 : Int).toNat).2.1.toNat).2, bo true]))) ((0 : Int) ≤ 0 ∧ (0 : Int) ≤ 1 ∧ (s.length : Int) ≤ big ∧ brn (!(hoursP s (0 : Int).toNat).2.2) (K [i64 0, i64 0, bo false]) ((0 : Int) ≤ (hoursP s (0 : Int).toNat).2.1 ∧ (hoursP s (0 : Int).toNat).2.1 ≤ (s.length : Int) ∧ (s.length : Int) ≤ big ∧ K [i64 (IntKind.wrap .i64 ((1 : Int) * IntKind.wrap .i64 (IntKind.wrap .i64 ((hoursP s (0 : Int).toNat).1 * 3600) + (fieldsP s (hoursP s (0 : Int).toNat).2.1.toNat).1))), i64 (fieldsP s (hoursP s (0 : Int).toNat).2.1.toNat).2, bo true]))) := by kernel_rfl
theorem f10_in (s : List UInt8) (K : List AV → Prop) (c : Int) (hc : c = (↑(UInt8.toNat (List.getD s (0 : Int).toNat (0 : UInt8))) : Int)) : evSpec C3 Tryd.f58 [.imm (.str s)] K = ((decide ((s.length : Int) > 0) = true → (0 : Int) ≤ 0) ∧ (decide ((s.length : Int) > 0) = true → (0 : Int) < (s.length : Int)) ∧ (decide ((s.length : Int) > 0) = true → (c == 43) = false → (0 : Int) ≤ 0) ∧ (decide ((s.length : Int) > 0) = true → (c == 43) = false → (0 : Int) < (s.length : Int)) ∧ brn (decide ((s.length : Int) > 0) && (c == 43 || c == 45)) (LoopI C3 (bodyOf Tryd.f58) (0 : Nat) (St.mk (lapp [st s, .dead, i64 0, i64 0, bo false, i64 1, i64 0, i64 0] (lapp (dN 4) (lapp [st s, i64 (s.length : Int), bo (decide ((s.length : Int) > 0)), bo (decide ((s.length : Int) > 0)), .opt [((15 : Nat), true)] (st s), .opt [((15 : Nat), true)] (.imm (.int .u8 c)), .opt [((15 : Nat), true)] (bo (c == 43)), .opt [((15 : Nat), true)] (bo (c == 43)), .opt [((19 : Nat), false), ((15 : Nat), true)] (st s), .opt [((19 : Nat), false), ((15 : Nat), true)] (.imm (.int .u8 c)), .opt [((19 : Nat), false), ((15 : Nat), true)] (bo (c == 45)), .opt [((15 : Nat), true)] (bo (c == 43 || c == 45)), bo (decide ((s.length : Int)
 > 0) && (c == 43 || c == 45))] (dN 62)))) [] (0 : Nat) []) (finK C3 Tryd.f58 K)) (LoopI C3 (bodyOf Tryd.f58) (0 : Nat) (St.mk (lapp [st s, .dead, i64 0, i64 0, bo false, i64 0, i64 0, i64 0] (lapp (dN 4) (lapp [st s, i64 (s.length : Int), bo (decide ((s.length : Int) > 0)), bo (decide ((s.length : Int) > 0)), .opt [((15 : Nat), true)] (st s), .opt [((15 : Nat), true)] (.imm (.int .u8 c)), .opt [((15 : Nat), true)] (bo (c == 43)), .opt [((15 : Nat), true)] (bo (c == 43)), .opt [((19 : Nat), false), ((15 : Nat), true)] (st s), .opt [((19 : Nat), false), ((15 : Nat), true)] (.imm (.int .u8 c)), .opt [((19 : Nat), false), ((15 : Nat), true)] (bo (c == 45)), .opt [((15 : Nat), true)] (bo (c == 43 || c == 45)), bo (decide ((s.length : Int) > 0) && (c == 43 || c == 45))] (dN 62)))) [] (0 : Nat) []) (finK C3 Tryd.f58 K))) := by subst hc; kernel_rfl
theorem at9 : Tryd.prog.funcs[48]? = some Tryd.f48 := by kernel_rfl
theorem at10 : Tryd.prog.funcs[58]? = some Tryd.f58 := by kernel_rfl
theorem at16 : Tryd.prog.funcs[70]? = some Tryd.f70 := by kernel_rfl
theorem at17 : Tryd.prog.funcs[71]? = some Tryd.f71 := by kernel_rfl
theorem at18 : Tryd.prog.funcs[72]? = some Tryd.f72 := by kernel_rfl
theorem at19 : Tryd.prog.funcs[78]? = some Tryd.f78 := by kernel_rfl
theorem at20 : Tryd.prog.funcs[79]? = some Tryd.f79 := by kernel_rfl
theorem at24 : Tryd.prog.funcs[89]? = some Tryd.f89 := by kernel_rfl
theorem at25 : Tryd.prog.funcs[90]? = some Tryd.f90 := by kernel_rfl
theorem mk {E : FuncId → List AV → Option (List Prop × List AV)} (hE : EOK Tryd.prog E G8) {f : FuncId} {fn : Func} {args res : List AV} {pres : List Prop} (hf : Tryd.prog.funcs[f]? = some fn) (hn : (fn.name == "runtime.NumGoroutine") = false) (hb : fn.body.isNone = false)
    (h : (∀ p, p ∈ pres → p) → ∀ K : List AV → Prop, K res → evSpec (cx E) fn args K) : SpecOK Tryd.prog G8 f args pres res :=
  spec_ok (C := cx E) hE noCall_ok hf hn hb (fun hp => h hp _ rfl)
theorem mku {E : FuncId → List AV → Option (List Prop × List AV)} (hE : EOK Tryd.prog E G8) {f : FuncId} {fn : Func} {args res : List AV} {pres : List Prop} (hf : Tryd.prog.funcs[f]? = some fn) (hn : (fn.name == "runtime.NumGoroutine") = false) (hb : fn.body.isNone = false)
    (h : (∀ p, p ∈ pres → p) → ∀ K : List AV → Prop, K res → evSpec (cxu E) fn args K) : SpecOK Tryd.prog G8 f args pres res :=
  spec_ok (C := cxu E) hE noCall_ok hf hn hb (fun hp => h hp _ rfl)
theorem ok0 : EOK Tryd.prog noE G8 := noE_ok
theorem wrap64 {n : Int} (h1 : -9223372036854775808 ≤ n) (h2 : n ≤ 9223372036854775807) : IntKind.wrap .i64 n = n := by
  have := IntKind.wrap_i64 n
  rw [show IntKind.wrap .i64 n = IntKind.i64.wrap n from rfl, this]; omega
theorem wrap8 {n : Int} (h1 : 0 ≤ n) (h2 : n ≤ 255) : IntKind.wrap .u8 n = n := by
  have := IntKind.wrap_u8 n
  rw [show IntKind.wrap .u8 n = IntKind.u8.wrap n from rfl, this]; omega
theorem getD_drop {s : List UInt8} {n : Nat} (h : n < s.length) : s.drop n = s.getD n 0 :: s.drop (n + 1) := by
  rw [List.drop_eq_getElem_cons h]
  simp [List.getD_eq_getElem?_getD, List.getElem?_eq_getElem h]
theorem digit_eq (s : List UInt8) (i : Nat) : digit s i = if i < s.length then (if isD (s.getD i 0) = true then (dv (s.getD i 0), true) else (0, false)) else (0, false) := by
  unfold digit
  by_cases h : i < s.length
  · rw [List.getElem?_eq_getElem h, if_pos h]
    simp [List.getD_eq_getElem?_getD, List.getElem?_eq_getElem h]
  · rw [List.getElem?_eq_none (by omega), if_neg h]
theorem isD_iff (b : UInt8) : isD b = true ↔ 48 ≤ b.toNat ∧ b.toNat ≤ 57 := by
  unfold isD
  simp
theorem nat_of {n : Int} (h : 0 ≤ n) : ∃ i : Nat, n = (i : Int) := ⟨n.toNat, by omega⟩
theorem f25_ev (s : List UInt8) (i : Nat) (K : List AV → Prop) (hK : K [i64 (digit s i).1, bo (digit s i).2]) : evSpec C0 Tryd.f90 [.imm (.str s), .imm (.int .i64 i)] K := by
  rw [f25_in]
  simp only [Int.toNat_natCast]
  rw [digit_eq] at hK
  have hb := isD_iff (s.getD i 0)
  refine ⟨fun h => by omega, fun h => by simpa using h, fun h => by omega, fun h => by simp at h; omega, brn_intro (fun h => ?_) (fun h => ?_)⟩
  · have : ¬ (i < s.length ∧ isD (s.getD i 0) = true) := by
      rw [hb]
      simp only [Bool.or_eq_true, decide_eq_true_eq] at h
      omega
    by_cases h1 : i < s.length
    · rw [if_pos h1, if_neg (fun h2 => this ⟨h1, h2⟩)] at hK; exact hK
    · rw [if_neg h1] at hK; exact hK
  · simp only [Bool.or_eq_false_iff, decide_eq_false_iff_not] at h
    have h1 : i < s.length := by omega
    have h2 : isD (s.getD i 0) = true := hb.2 (by omega)
    rw [if_pos h1, if_pos h2] at hK
    have e : IntKind.wrap .i64 (IntKind.wrap .u8 (((s.getD i 0).toNat : Int) - 48)) = ((dv (s.getD i 0) : Nat) : Int) := by
      have := hb.1 h2
      rw [wrap8 (by omega) (by omega), wrap64 (by omega) (by omega)]
      unfold dv
      omega
    rw [e]
    exact ⟨by omega, by omega, hK⟩
theorem ok25 : ∀ args pres res, sDigit args = some (pres, res) → SpecOK Tryd.prog G8 90 args pres res := by
  intro args pres res h
  unfold sDigit at h
  split at h
  case h_2 => cases h
  cases h
  rename_i s n
  refine mk ok0 at25 (by decide) rfl (fun hp K hK => ?_)
  have h0 := hp _ (List.mem_singleton.2 rfl)
  obtain ⟨i, rfl⟩ := nat_of h0
  exact f25_ev s i K (by simpa only [Int.toNat_natCast] using hK)
theorem f19_ev (s : List UInt8) (i : Nat) (K : List AV → Prop) (hK : K [bo (digit s i).2]) : evSpec C0 Tryd.f78 [.imm (.str s), .imm (.int .i64 i)] K := by
  rw [f19_in]
  simp only [Int.toNat_natCast]
  have e : (digit s i).2 = (decide ((i : Int) < (s.length : Int)) && decide (((s.getD i 0).toNat : Int) ≥ 48) && decide (((s.getD i 0).toNat : Int) ≤ 57)) := by
    rw [digit_eq, Bool.eq_iff_iff]
    have hb := isD_iff (s.getD i 0)
    simp only [Bool.and_eq_true, decide_eq_true_eq]
    by_cases h1 : i < s.length
    · rw [if_pos h1]
      by_cases h2 : isD (s.getD i 0) = true
      · rw [if_pos h2]; simp only [true_iff]; have := hb.1 h2; omega
      · rw [if_neg h2]; simp only [Bool.false_eq_true, false_iff]; rw [hb] at h2; omega
    · rw [if_neg h1]; simp only [Bool.false_eq_true, false_iff]; omega
  rw [e] at hK
  exact ⟨fun h => by omega, fun h => by simpa using h, fun h => by omega, fun h => by simp at h; omega, hK⟩
theorem ok19 : ∀ args pres res, sIsDigit args = some (pres, res) → SpecOK Tryd.prog G8 78 args pres res := by
  intro args pres res h
  unfold sIsDigit at h
  split at h
  case h_2 => cases h
  cases h
  rename_i s n
  refine mk ok0 at19 (by decide) rfl (fun hp K hK => ?_)
  have h0 := hp _ (List.mem_singleton.2 rfl)
  obtain ⟨i, rfl⟩ := nat_of h0
  exact f19_ev s i K (by simpa only [Int.toNat_natCast] using hK)
theorem pfx_eq (s t : List UInt8) : pfx s t = (decide (t.length ≤ s.length) && decide (s.take t.length = t)) := by
  unfold pfx
  rw [Bool.eq_iff_iff]
  simp only [List.isPrefixOf_iff_prefix, Bool.and_eq_true, decide_eq_true_eq]
  constructor
  · intro h
    exact ⟨h.length_le, (List.prefix_iff_eq_take.1 h).symm⟩
  · rintro ⟨_, h⟩
    rw [← h]
    exact List.take_prefix _ _
theorem ok24 : ∀ args pres res, sPfx args = some (pres, res) → SpecOK Tryd.prog G8 89 args pres res := by
  intro args pres res h
  unfold sPfx at h
  split at h
  case h_2 => cases h
  cases h
  rename_i s t
  refine mk ok0 at24 (by decide) rfl (fun _ K hK => ?_)
  rw [show cx noE = C0 from rfl, f24_in]
  refine ⟨fun _ => by omega, fun h => by simpa using h, ?_⟩
  simp only [Int.toNat_natCast, Nat.sub_zero, List.drop_zero]
  rw [pfx_eq] at hK
  have e : decide ((s.length : Int) ≥ (t.length : Int)) = decide (t.length ≤ s.length) := by
    rw [Bool.eq_iff_iff]; simp only [decide_eq_true_eq]; omega
  rw [e]
  exact hK
theorem tdivN (n m : Nat) : Int.tdiv (n : Int) (m : Int) = ((n / m : Nat) : Int) := by simp [Int.tdiv]
theorem tmodN (n m : Nat) : Int.tmod (n : Int) (m : Int) = ((n % m : Nat) : Int) := by simp [Int.tmod]
theorem digit_le (s : List UInt8) (i : Nat) : (digit s i).1 ≤ 9 := by
  rw [digit_eq]
  have hb := isD_iff (s.getD i 0)
  split
  · split
    · rename_i h
      have := hb.1 h
      show dv _ ≤ 9
      unfold dv
      omega
    · exact Nat.zero_le _
  · exact Nat.zero_le _
theorem digit_drop (s : List UInt8) (i j : Nat) : digit s (i + j) = digit (s.drop i) j := by
  unfold digit
  rw [List.getElem?_drop]
theorem field_spec (s : List UInt8) (i : Nat) :
    (field (s.drop i) = none ∧ (!pfx (s.drop i) [58] || !(digit s (i + 1)).2 || !(digit s (i + 2)).2 || decide (((digit s (i + 1)).1 : Int) * 10 + ((digit s (i + 2)).1 : Int) ≥ 60)) = true) ∨
    (∃ m : Nat, field (s.drop i) = some m ∧ (!pfx (s.drop i) [58] || !(digit s (i + 1)).2 || !(digit s (i + 2)).2 || decide (((digit s (i + 1)).1 : Int) * 10 + ((digit s (i + 2)).1 : Int) ≥ 60)) = false ∧
      ((digit s (i + 1)).1 : Int) * 10 + ((digit s (i + 2)).1 : Int) = (m : Int) ∧ m < 60 ∧ i + 3 ≤ s.length) := by
  rw [digit_drop, digit_drop]
  have hl : (s.drop i).length = s.length - i := List.length_drop
  generalize s.drop i = l at hl
  match l, hl with
  | [], _ => left; simp [field, pfx]
  | [c], _ => left; simp [field, digit]
  | [c, a], _ => left; simp [field, digit]
  | c :: a :: b :: r, hl =>
    simp only [List.length_cons] at hl
    have ha := isD_iff a
    have hb := isD_iff b
    unfold field digit pfx
    simp only [List.getElem?_cons_succ, List.getElem?_cons_zero]
    by_cases h1 : c = 58
    · subst h1
      by_cases h2 : isD a = true
      · by_cases h3 : isD b = true
        · by_cases h4 : dv a * 10 + dv b < 60
          · right
            refine ⟨dv a * 10 + dv b, by simp [h2, h3, h4], ?_, by simp [h2, h3], h4, by omega⟩
            simp [h2, h3]
            omega
          · left
            simp [h2, h3]
            omega
        · left; simp [h3]
      · left; simp [h2]
    · left
      have : ¬ (58 = c) := fun h => h1 h.symm
      have h2 : [58].isPrefixOf (c :: a :: b :: r) = false := by simp [List.isPrefixOf, this]
      rw [h2]
      simp [h1]
theorem okE1 : EOK Tryd.prog E1 G8 := addE_ok (addE_ok (addE_ok ok0 ok25) ok19) ok24
theorem ok16 : ∀ args pres res, sPfx args = some (pres, res) → SpecOK Tryd.prog G8 70 args pres res := by
  intro args pres res h
  unfold sPfx at h
  split at h
  case h_2 => cases h
  cases h
  exact mk okE1 at16 (by decide) rfl (fun _ K hK => by rw [show cx E1 = C1 from rfl, f16_in]; exact hK)
theorem okE2 : EOK Tryd.prog E2 G8 := addE_ok okE1 ok16
theorem take_rest (s : List UInt8) (i : Nat) : (s.drop i).take (s.length - i) = s.drop i := by
  rw [List.take_of_length_le]; simp
theorem f18_ev (s : List UInt8) (i : Nat) (hi : i ≤ s.length) (hs : (s.length : Int) ≤ big) (K : List AV → Prop) (hK : K [i64 (fieldsP s i).1, i64 (fieldsP s i).2]) :
    evSpec D2 Tryd.f72 [.imm (.str s), .imm (.int .i64 i), .imm (.ints .i64 [60, 1])] K := by
  unfold big at hs
  have hs' : s.length ≤ 9223372036854775000 := by omega
  rw [f18_in]
  have e1 : IntKind.wrap .i64 ((i : Int) + 1) = ((i + 1 : Nat) : Int) := by rw [wrap64 (by omega) (by omega)]; first | done | rfl
  have e2 : IntKind.wrap .i64 ((i : Int) + 2) = ((i + 2 : Nat) : Int) := by rw [wrap64 (by omega) (by omega)]; first | done | rfl
  have e3 : IntKind.wrap .i64 ((i : Int) + 3) = ((i + 3 : Nat) : Int) := by rw [wrap64 (by omega) (by omega)]; first | done | rfl
  have e4 : IntKind.wrap .i64 (((i + 3 : Nat) : Int) + 1) = ((i + 3 + 1 : Nat) : Int) := by rw [wrap64 (by omega) (by omega)]; first | done | rfl
  have e5 : IntKind.wrap .i64 (((i + 3 : Nat) : Int) + 2) = ((i + 3 + 2 : Nat) : Int) := by rw [wrap64 (by omega) (by omega)]; first | done | rfl
  have e6 : IntKind.wrap .i64 (((i + 3 : Nat) : Int) + 3) = ((i + 6 : Nat) : Int) := by rw [wrap64 (by omega) (by omega)]; first | done | rfl
  have e7 : IntKind.wrap .i64 ((0 : Int) + 1) = 1 := by decide
  have m1 : (if (s.length : Int) < (i : Int) then (s.length : Int) else (i : Int)) = (i : Int) := by rw [if_neg (by omega)]
  have dd1 : ∀ j k, IntKind.wrap .i64 (IntKind.wrap .i64 (((digit s j).1 : Int) * 10) + ((digit s k).1 : Int)) = ((digit s j).1 : Int) * 10 + ((digit s k).1 : Int) := by
    intro j k
    have := digit_le s j
    have := digit_le s k
    rw [wrap64 (n := ((digit s j).1 : Int) * 10) (by omega) (by omega), wrap64 (by omega) (by omega)]
  rw [e1, e2, e3, e4, e5, e6, e7, m1]
  simp only [dd1, Int.toNat_natCast, take_rest]
  refine ⟨by decide, by decide, by omega, by omega, by omega, by omega, ?_⟩
  unfold fieldsP at hK
  rcases field_spec s i with ⟨hf, hc⟩ | ⟨m, hf, hc, hm, hm60, hl⟩
  · rw [hf] at hK
    rw [hc]
    exact hK
  · rw [hf] at hK
    rw [hc]
    have m2 : (if (s.length : Int) < ((i + 3 : Nat) : Int) then (s.length : Int) else ((i + 3 : Nat) : Int)) = ((i + 3 : Nat) : Int) := by rw [if_neg (by omega)]
    rw [m2, hm]
    simp only [Int.toNat_natCast, take_rest]
    refine ⟨by decide, by decide, by omega, by omega, by omega, by omega, ?_⟩
    have w1 : IntKind.wrap .i64 (0 + IntKind.wrap .i64 (List.getD [(60 : Int), 1] (Int.toNat 0) 0 * (m : Int))) = 60 * (m : Int) := by
      rw [show List.getD [(60 : Int), 1] (Int.toNat 0) 0 = 60 from rfl, wrap64 (n := 60 * (m : Int)) (by omega) (by omega), wrap64 (by omega) (by omega)]
      omega
    rw [w1]
    rcases field_spec s (i + 3) with ⟨hf2, hc2⟩ | ⟨c, hf2, hc2, hc3, hc60, hl2⟩
    · rw [hf2] at hK
      rw [hc2]
      exact hK
    · rw [hf2] at hK
      rw [hc2, hc3]
      have w2 : IntKind.wrap .i64 (60 * (m : Int) + IntKind.wrap .i64 (List.getD [(60 : Int), 1] (Int.toNat 1) 0 * (c : Int))) = 60 * (m : Int) + c := by
        rw [show List.getD [(60 : Int), 1] (Int.toNat 1) 0 = 1 from rfl, wrap64 (n := 1 * (c : Int)) (by omega) (by omega), wrap64 (by omega) (by omega)]
        omega
      rw [w2]
      exact hK
theorem ok18 : ∀ args pres res, sFields args = some (pres, res) → SpecOK Tryd.prog G8 72 args pres res := by
  intro args pres res h
  unfold sFields at h
  split at h
  case h_2 => cases h
  cases h
  rename_i s n
  refine mku okE2 at18 (by decide) rfl (fun hp K hK => ?_)
  have h0 := hp _ (List.mem_cons_self ..)
  have h1 := hp _ (List.mem_cons_of_mem _ (List.mem_cons_self ..))
  have h2 := hp _ (List.mem_cons_of_mem _ (List.mem_cons_of_mem _ (List.mem_cons_self ..)))
  obtain ⟨i, rfl⟩ := nat_of h0
  simp only [Int.toNat_natCast] at hK
  exact f18_ev s i (by omega) h2 K hK
theorem w10 {x y : Int} (h1 : 48 ≤ x) (h2 : x ≤ 57) (h3 : 48 ≤ y) (h4 : y ≤ 57) : IntKind.wrap .i64 (IntKind.wrap .i64 (IntKind.wrap .i64 (10 * IntKind.wrap .i64 (IntKind.wrap .i64 x - 48)) + IntKind.wrap .i64 y) - 48) = 10 * (x - 48) + (y - 48) := by
  rw [wrap64 (n := x) (by omega) (by omega), wrap64 (n := y) (by omega) (by omega), wrap64 (n := x - 48) (by omega) (by omega), wrap64 (n := 10 * (x - 48)) (by omega) (by omega), wrap64 (n := 10 * (x - 48) + y) (by omega) (by omega), wrap64 (by omega) (by omega)]
  omega
theorem f20_ev (s : List UInt8) (i : Nat) (hi : i ≤ s.length) (hs : (s.length : Int) ≤ big) (K : List AV → Prop) (hK : K [i64 (fieldR s i)]) : evSpec C2 Tryd.f79 [.imm (.str s), .imm (.int .i64 i)] K := by
  unfold big at hs
  have hs' : s.length ≤ 9223372036854775000 := by omega
  rw [f20_in]
  have e1 : IntKind.wrap .i64 ((i : Int) + 1) = ((i + 1 : Nat) : Int) := by rw [wrap64 (by omega) (by omega)]; first | done | rfl
  have e2 : IntKind.wrap .i64 ((i : Int) + 2) = ((i + 2 : Nat) : Int) := by rw [wrap64 (by omega) (by omega)]; first | done | rfl
  rw [e1, e2]
  simp only [Int.toNat_natCast]
  refine ⟨fun h => by omega, fun h => by simpa using h, fun h => by omega, fun h => by omega, ?_⟩
  have hp : pfx (s.drop i) [58] = !(decide ((i : Int) ≥ (s.length : Int)) || ((s.getD i 0).toNat : Int) != 58) := by
    by_cases hlt : i < s.length
    · rw [getD_drop hlt]
      unfold pfx
      have : ¬ ((i : Int) ≥ (s.length : Int)) := by omega
      simp only [List.isPrefixOf, List.isPrefixOf, Bool.and_true, decide_eq_false this, Bool.false_or]
      rw [Bool.eq_iff_iff]
      simp only [beq_iff_eq, Bool.not_eq_true', bne_eq_false_iff_eq]
      constructor
      · rintro h; rw [← h]; first | done | rfl
      · intro h
        have : (s.getD i 0).toNat = 58 := by omega
        exact (UInt8.toNat_inj.1 (by rw [this]; rfl))
    · rw [List.drop_eq_nil_of_le (by omega)]
      have : ((i : Int) ≥ (s.length : Int)) := by omega
      simp [pfx, this]
  have val : ∀ j, (digit s j).2 = true → j < s.length ∧ ((s.getD j 0).toNat : Int) = ((digit s j).1 : Int) + 48 := by
    intro j hj
    rw [digit_eq] at hj ⊢
    have hb := isD_iff (s.getD j 0)
    by_cases h1 : j < s.length
    · rw [if_pos h1] at hj ⊢
      by_cases h2 : isD (s.getD j 0) = true
      · rw [if_pos h2]
        have := hb.1 h2
        refine ⟨h1, ?_⟩
        show _ = ((dv _ : Nat) : Int) + 48
        unfold dv
        omega
      · rw [if_neg h2] at hj; cases hj
    · rw [if_neg h1] at hj; cases hj
  unfold fieldR at hK
  rcases field_spec s i with ⟨hf, hc⟩ | ⟨m, hf, hc, hm, hm60, hl⟩
  · rw [hf] at hK
    rw [hp] at hc
    refine brn_intro (fun _ => hK) (fun h => ?_)
    have hh := h
    rw [Bool.or_eq_false_iff, Bool.or_eq_false_iff] at h
    obtain ⟨⟨ha, hb⟩, hd⟩ := h
    have hb' : (digit s (i + 1)).2 = true := by simpa using hb
    have hd' : (digit s (i + 2)).2 = true := by simpa using hd
    obtain ⟨l1, v1⟩ := val _ hb'
    obtain ⟨l2, v2⟩ := val _ hd'
    have g1 := digit_le s (i + 1)
    have g2 := digit_le s (i + 2)
    refine ⟨by omega, by omega, by omega, by omega, brn_intro (fun _ => hK) (fun h3 => ?_)⟩
    exfalso
    simp only [w10 (show (48 : Int) ≤ ((s.getD (i + 1) 0).toNat : Int) by omega) (by omega) (show (48 : Int) ≤ ((s.getD (i + 2) 0).toNat : Int) by omega) (by omega)] at h3
    rw [ha, hb', hd'] at hc
    simp only [Bool.not_false, Bool.not_true, Bool.false_or, decide_eq_true_eq] at hc
    simp only [decide_eq_false_iff_not] at h3
    omega
  · rw [hf] at hK
    rw [hp] at hc
    simp only [Bool.or_eq_false_iff, Bool.not_eq_false', Bool.not_not] at hc
    obtain ⟨⟨⟨ha, hb⟩, hd⟩, _⟩ := hc
    obtain ⟨l1, v1⟩ := val _ hb
    obtain ⟨l2, v2⟩ := val _ hd
    have g1 := digit_le s (i + 1)
    have g2 := digit_le s (i + 2)
    have hcond : (decide ((i : Int) ≥ (s.length : Int)) || ((s.getD i 0).toNat : Int) != 58 || !(digit s (i + 1)).2 || !(digit s (i + 2)).2) = false := by
      rw [hb, hd]
      simp only [Bool.or_eq_false_iff]
      refine ⟨⟨?_, rfl⟩, rfl⟩
      simpa using ha
    rw [hcond]
    refine ⟨by omega, by omega, by omega, by omega, ?_⟩
    have e : 10 * (((s.getD (i + 1) 0).toNat : Int) - 48) + (((s.getD (i + 2) 0).toNat : Int) - 48) = (m : Int) := by omega
    simp only [w10 (show (48 : Int) ≤ ((s.getD (i + 1) 0).toNat : Int) by omega) (by omega) (show (48 : Int) ≤ ((s.getD (i + 2) 0).toNat : Int) by omega) (by omega), e]
    refine brn_intro (fun h => ?_) (fun _ => hK)
    simp only [decide_eq_true_eq] at h
    omega
theorem ok20 : ∀ args pres res, sField args = some (pres, res) → SpecOK Tryd.prog G8 79 args pres res := by
  intro args pres res h
  unfold sField at h
  split at h
  case h_2 => cases h
  cases h
  rename_i s n
  refine mk okE2 at20 (by decide) rfl (fun hp K hK => ?_)
  have h0 := hp _ (List.mem_cons_self ..)
  have h1 := hp _ (List.mem_cons_of_mem _ (List.mem_cons_self ..))
  have h2 := hp _ (List.mem_cons_of_mem _ (List.mem_cons_of_mem _ (List.mem_cons_self ..)))
  obtain ⟨i, rfl⟩ := nat_of h0
  simp only [Int.toNat_natCast] at hK
  exact f20_ev s i (by omega) h2 K hK
theorem run_digit : ∀ (l : List UInt8) (j : Nat), j ≤ (runD l).length → digit l j = if j < (runD l).length then (dv ((runD l).getD j 0), true) else (0, false)
  | [], j, _ => by simp [runD, digit]
  | b :: l, j, h => by
    unfold runD at h ⊢
    rw [List.takeWhile_cons] at h ⊢
    by_cases hb : isD b = true
    · rw [if_pos hb] at h ⊢
      cases j with
      | zero => simp [digit, hb]
      | succ j =>
        have ih := run_digit l j (by simpa [runD] using h)
        have e : digit (b :: l) (j + 1) = digit l j := by unfold digit; simp
        rw [e, ih]
        simp [runD]
    · rw [if_neg hb] at h ⊢
      have : j = 0 := by simpa using h
      subst this
      simp [digit, hb]
theorem run_le (l : List UInt8) : (runD l).length ≤ l.length := (List.takeWhile_sublist _).length_le
theorem num_succ (ds : List UInt8) (j : Nat) (h : j < ds.length) : num (ds.take (j + 1)) = num (ds.take j) * 10 + dv (ds.getD j 0) := by
  unfold num
  rw [List.take_succ, List.foldl_append]
  simp [List.getD_eq_getElem?_getD, List.getElem?_eq_getElem h]
theorem dv_run {l : List UInt8} {j : Nat} (h : j < (runD l).length) : dv ((runD l).getD j 0) ≤ 9 := by
  have := digit_le l j
  rw [run_digit l j (by omega), if_pos h] at this
  exact this
theorem num_le (l : List UInt8) : ∀ j, j ≤ (runD l).length → num ((runD l).take j) < 10 ^ j
  | 0, _ => by simp [num]
  | j + 1, h => by
    have ih := num_le l j (by omega)
    have := dv_run (l := l) (j := j) (by omega)
    rw [num_succ _ _ (by omega), Nat.pow_succ]
    omega
def p17 : Plan := ⟨[], [true, true, false, false, true, true, true, true, true, true, true], []⟩
theorem f17_ev (s : List UInt8) (i : Nat) (hi : i ≤ 1) (hs : (s.length : Int) ≤ big) (K : List AV → Prop) (hK : K [i64 (hoursP s i).1, i64 (hoursP s i).2.1, bo (hoursP s i).2.2]) :
    evSpec C2 Tryd.f71 [.imm (.str s), .imm (.int .i64 i)] K := by
  unfold big at hs
  rw [f17_in]
  refine ⟨by omega, ?_⟩
  unfold LoopI
  have hrl := run_le (s.drop i)
  have hdl : (s.drop i).length = s.length - i := List.length_drop
  refine loop_rule (fun j : Nat => h17 s i (num ((runD (s.drop i)).take j)) ((i + j : Nat) : Int) (digit s (i + j)).1 (digit s (i + j)).2) (fun j => j ≤ 3 ∧ j ≤ (runD (s.drop i)).length) (fun j => (runD (s.drop i)).length - j)
    (fun j hP K' hnorm hexit => ?_) rfl 0 p17 _ ⟨by omega, by omega⟩ (by kernel_rfl)
  obtain ⟨h3, hle⟩ := hP
  have en : IntKind.wrap .i64 (((i + j : Nat) : Int) + 1) = ((i + (j + 1) : Nat) : Int) := by rw [wrap64 (by omega) (by omega)]; omega
  have ei : IntKind.wrap .i64 (((i + (j + 1) : Nat) : Int) - i) = ((j + 1 : Nat) : Int) := by rw [wrap64 (by omega) (by omega)]; omega
  have hd := run_digit (s.drop i) j hle
  rw [← digit_drop] at hd
  have hnl := num_le (s.drop i) j hle
  have hn9 : num ((runD (s.drop i)).take j) < 1000 := by
    have : 10 ^ j ≤ 10 ^ 3 := Nat.pow_le_pow_right (by decide) h3
    omega
  have hdle := digit_le s (i + j)
  have eh : IntKind.wrap .i64 (IntKind.wrap .i64 ((num ((runD (s.drop i)).take j) : Int) * 10) + ((digit s (i + j)).1 : Int)) = ((num ((runD (s.drop i)).take j) * 10 + (digit s (i + j)).1 : Nat) : Int) := by
    rw [wrap64 (n := (num ((runD (s.drop i)).take j) : Int) * 10) (by omega) (by omega), wrap64 (by omega) (by omega)]
    omega
  rw [f17_lp]
  simp only [en, ei, eh, Int.toNat_natCast]
  unfold hoursP at hK
  by_cases hlt : j < (runD (s.drop i)).length
  · rw [if_pos hlt] at hd
    refine brn_intro (fun _ => ?_) (fun h => by rw [hd] at h; cases h)
    refine brn_intro (fun h => ?_) (fun h => ?_)
    · have h' : ¬ (runD (s.drop i)).length ≤ 3 := by simp at h; omega
      rw [if_neg h'] at hK
      refine hexit _ _ (by simp) ?_
      exact Eq.mp (by kernel_rfl) hK
    · refine ⟨by omega, hnorm (j + 1) p17 _ ⟨by simp at h; omega, by omega⟩ (by omega) ?_⟩
      have e2 : num ((runD (s.drop i)).take (j + 1)) = num ((runD (s.drop i)).take j) * 10 + (digit s (i + j)).1 := by
        rw [num_succ _ _ hlt, hd]
      rw [e2]
      show _ = _
      kernel_rfl
  · rw [if_neg hlt] at hd
    have hj : j = (runD (s.drop i)).length := by omega
    refine brn_intro (fun h => by rw [hd] at h; cases h) (fun _ => ?_)
    refine hexit _ _ (by simp) ?_
    rw [if_pos (by omega), ← hj] at hK
    have e1 : num (runD (s.drop i)) = num ((runD (s.drop i)).take j) := by rw [hj, List.take_length]
    rw [e1] at hK
    have e2 : (decide (0 < j) && decide (num ((runD (s.drop i)).take j) ≤ 167)) = (decide (((i + j : Nat) : Int) > (i : Int)) && decide (((num ((runD (s.drop i)).take j) : Nat) : Int) ≤ 167)) := by
      rw [Bool.eq_iff_iff]
      simp only [Bool.and_eq_true, decide_eq_true_eq]
      omega
    rw [e2] at hK
    exact Eq.mp (by kernel_rfl) hK
theorem ok17 : ∀ args pres res, sHours args = some (pres, res) → SpecOK Tryd.prog G8 71 args pres res := by
  intro args pres res h
  unfold sHours at h
  split at h
  case h_2 => cases h
  cases h
  rename_i s n
  refine mk okE2 at17 (by decide) rfl (fun hp K hK => ?_)
  have h0 := hp _ (List.mem_cons_self ..)
  have h1 := hp _ (List.mem_cons_of_mem _ (List.mem_cons_self ..))
  have h2 := hp _ (List.mem_cons_of_mem _ (List.mem_cons_of_mem _ (List.mem_cons_self ..)))
  obtain ⟨i, rfl⟩ := nat_of h0
  simp only [Int.toNat_natCast] at hK
  exact f17_ev s i (by omega) h2 K hK
theorem okE3 : EOK Tryd.prog E3 G8 := addE_ok (addE_ok (addE_ok okE2 ok17) ok18) ok20
theorem f10_out (s : List UInt8) (i : Int) (n : Int) (h : Int) (K : List AV → Prop) : loopK C3 (bodyOf Tryd.f58) (0 : Nat) (finK C3 Tryd.f58 K) (AX.exit (0 : Nat)) (St.mk (let y := let y := let y := let y := [.dead, .dead, .dead, .dead, .dead, .dead]; AV.dead :: AV.dead :: AV.dead :: AV.dead :: AV.dead :: y; let y := AV.dead :: AV.dead :: AV.dead :: AV.dead :: AV.dead :: AV.dead :: y; AV.dead :: AV.dead :: AV.dead :: AV.dead :: AV.dead :: y; let y := let y := AV.dead :: AV.dead :: AV.dead :: AV.dead :: AV.dead :: AV.dead :: y; AV.dead :: AV.dead :: AV.dead :: AV.dead :: AV.dead :: y; let y := AV.dead :: AV.dead :: AV.dead :: AV.dead :: AV.dead :: AV.dead :: y; AV.dead :: AV.dead :: AV.dead :: AV.dead :: AV.dead :: y; let y := let y := let y := AV.dead :: AV.dead :: AV.dead :: AV.dead :: AV.dead :: AV.dead :: y; AV.dead :: AV.dead :: AV.dead :: AV.dead :: AV.dead :: y; let y := AV.imm (.int .i64 i) :: AV.imm (.int .i64 n) :: AV.imm (.int .i64 (IntKind.wrap .i64 (i + n))) :: AV.imm (.bool (digit s (IntKind.wrap .i64 (i + n)).toNat).2) :: AV.dead :: AV.dead :: y; AV.dead :: AV.dead :: AV.dead :: AV.dead :: AV.imm (.str s) :: y; let y := let y := AV.dead :: AV.dead :: AV.dead :: AV.dead :: AV.dead :: AV.dead :: y; AV.dead :: AV.dead :: AV.dead :: AV.dead :: AV.dead :: y; let y := AV.imm (.int .i64 i) :: AV.imm (.int .i64 n) :: AV.imm (.int .i64 h) :: AV.dead :: AV.dead :: y; AV.imm (.str s) :: AV.dead :: AV.imm (.int .i64 0) :: AV.imm (.int .i64 0) :: AV.imm (.bool false) :: y) [] (0 : Nat) []) = (brn (decide (n < 1) || decide (n > 3) || decide (h > 167)) (K [.imm (.int .i64 0), .imm (.int .i64 0), .imm (.bool false)]) ((0 : Int) ≤ IntKind.wrap .i64 (i + n) ∧ IntKind.wrap .i64 (i + n) ≤ (s.length : Int) ∧ (s.length : Int) ≤ big ∧ brn (decide (fieldR s (IntKind.wrap .i64 (i + n)).toNat ≥ 0)) ((0 : Int) ≤ IntKind.wrap .i64 (IntKind.wrap .i64 (i + n) + 3) ∧ IntKind.wrap .i64 (IntKind.wrap .i64 (i + n) + 3) ≤ (s.length : Int) ∧ (s.length : Int) ≤ big ∧ brn (decide (fieldR s (IntKind.wrap .i64 (IntKind.wrap .i64 (i + n) + 3)).toNat ≥ 0)) ((0 : Int) ≤ 0 ∧ (0 : Int) < (s.length : Int) ∧ brn ((↑(UInt8.toNat (List.getD s (0 : Int).toNat (0 : UInt8))) : Int) == 45) (K [.imm (.int .i64 (IntKind.wrap .i64 ((0 : Int) - IntKind.wrap .i64 (IntKind.wrap .i64 (IntKind.wrap .i64 (h * 3600) + IntKind.wrap .i64 ((60 : Int) * fieldR s (IntKind.wrap .i64 (i + n)).toNat)) + fieldR s (IntKind.wrap .i64 (IntKind.wrap .i64 (i + n) + 3)).toNat)))), .imm (.int .i64 (IntKind.wrap .i64 (IntKind.wrap .i64 (IntKind.wrap .i64 (i + n) + 3) + 3))), .imm (.bool true)]) (K [.imm (.int .i64 (IntKind.wrap .i64 (IntKind.wrap .i64 (IntKind.wrap .i64 (h * 3600) + IntKind.wrap .i64 ((60 : Int) * fieldR s (IntKind.wrap .i64 (i + n)).toNat)) + fieldR s (IntKind.wrap .i64 (IntKind.wrap .i64 (i + n) + 3)).toNat))), .imm (.int .i64 (IntKind.wrap .i64 (IntKind.wrap .i64 (IntKind.wrap .i64 (i + n) + 3) + 3))), .imm (.bool true)])) ((0 : Int) ≤ 0 ∧ (0 : Int) < (s.length : Int) ∧ brn ((↑(UInt8.toNat (List.getD s (0 : Int).toNat (0 : UInt8))) : Int) == 45) (K [.imm (.int .i64 (IntKind.wrap .i64 ((0 : Int) - IntKind.wrap .i64 (IntKind.wrap .i64 (h * 3600) + IntKind.wrap .i64 ((60 : Int) * fieldR s (IntKind.wrap .i64 (i + n)).toNat))))), .imm (.int .i64 (IntKind.wrap .i64 (IntKind.wrap .i64 (i + n) + 3))), .imm (.bool true)]) (K [.imm (.int .i64 (IntKind.wrap .i64 (IntKind.wrap .i64 (h * 3600) + IntKind.wrap .i64 ((60 : Int) * fieldR s (IntKind.wrap .i64 (i + n)).toNat)))), .imm (.int .i64 (IntKind.wrap .i64 (IntKind.wrap .i64 (i + n) + 3))), .imm (.bool true)]))) ((0 : Int) ≤ 0 ∧ (0 : Int) < (s.length : Int) ∧ brn ((↑(UInt8.toNat (List.getD s (0 : Int).toNat (0 : UInt8))) : Int) == 45) (K [.imm (.int .i64 (IntKind.wrap .i64 ((0 : Int) - IntKind.wrap .i64 (h * 3600)))), .imm (.int .i64 (IntKind.wrap .i64 (i + n))), .imm (.bool true)]) (K [.imm (.int .i64 (IntKind.wrap .i64 (h * 3600))), .imm (.int .i64 (IntKind.wrap .i64 (i + n))), .imm (.bool true)])))) := by kernel_rfl
theorem off_le (s : List UInt8) : off s ≤ 1 := by
  unfold off
  split
  · split <;> omega
  · omega
theorem off_le_len (s : List UInt8) : off s ≤ s.length := by
  unfold off
  split
  · simp only [List.length_cons]; split <;> omega
  · omega
theorem sgn_eq {s : List UInt8} (h : 0 < s.length) : sgn s = if ((s.getD 0 0).toNat : Int) = 45 then -1 else 1 := by
  cases s with
  | nil => simp at h
  | cons b r =>
    simp only [sgn, List.getD_cons_zero]
    by_cases hb : b = 45
    · subst hb; rfl
    · rw [if_neg hb, if_neg]
      intro h2
      exact hb (UInt8.toNat_inj.1 (by show b.toNat = 45; omega))
theorem fieldsP_of (s : List UInt8) (i : Nat) (hi : i ≤ s.length) : (fieldR s i = -1 ∧ fieldsP s i = (0, (i : Int))) ∨
    (∃ m : Nat, m < 60 ∧ fieldR s i = m ∧ i + 3 ≤ s.length ∧ ((fieldR s (i + 3) = -1 ∧ fieldsP s i = (60 * (m : Int), ((i + 3 : Nat) : Int))) ∨
      ∃ c : Nat, c < 60 ∧ fieldR s (i + 3) = c ∧ i + 6 ≤ s.length ∧ fieldsP s i = (60 * (m : Int) + c, ((i + 6 : Nat) : Int)))) := by
  unfold fieldR fieldsP
  rcases field_spec s i with ⟨hf, _⟩ | ⟨m, hf, _, _, hm, hl⟩
  · left; rw [hf]; exact ⟨rfl, rfl⟩
  · right
    rw [hf]
    refine ⟨m, hm, rfl, hl, ?_⟩
    rcases field_spec s (i + 3) with ⟨hf2, _⟩ | ⟨c, hf2, _, _, hc, hl2⟩
    · left; rw [hf2]; exact ⟨rfl, rfl⟩
    · right; rw [hf2]; exact ⟨c, hc, rfl, by omega, rfl⟩
theorem hours_of (s : List UInt8) (i : Nat) : (hoursP s i = (0, 0, false) ∧ ¬ (runD (s.drop i)).length ≤ 3) ∨
    ((runD (s.drop i)).length ≤ 3 ∧ hoursP s i = ((num (runD (s.drop i)) : Int), ((i + (runD (s.drop i)).length : Nat) : Int), decide (0 < (runD (s.drop i)).length) && decide (num (runD (s.drop i)) ≤ 167))) := by
  unfold hoursP
  by_cases h : (runD (s.drop i)).length ≤ 3
  · rw [if_pos h]; exact Or.inr ⟨h, rfl⟩
  · rw [if_neg h]; exact Or.inl ⟨rfl, h⟩
def p10 : Plan := ⟨[], [true, false, true, true, true, true, true, true], []⟩
theorem w10' {h b : Int} (h0 : 0 ≤ h) (h1 : h < 10000) (h3 : 48 ≤ b) (h4 : b ≤ 57) : IntKind.wrap .i64 (IntKind.wrap .i64 (IntKind.wrap .i64 (10 * h) + IntKind.wrap .i64 b) - 48) = 10 * h + (b - 48) := by
  rw [wrap64 (n := b) (by omega) (by omega), wrap64 (n := 10 * h) (by omega) (by omega), wrap64 (n := 10 * h + b) (by omega) (by omega), wrap64 (by omega) (by omega)]
  omega
theorem tail10 (s : List UInt8) (i : Nat) (hi : i = off s) (hs : s.length ≤ 9223372036854775000) (K : List AV → Prop) (hK : K [i64 (parse s).1, i64 (parse s).2.1, bo (parse s).2.2])
    (h3 : (runD (s.drop i)).length ≤ 3) (h0 : 0 < (runD (s.drop i)).length) (h167 : num (runD (s.drop i)) ≤ 167) :
    K [i64 (sgn s * ((num (runD (s.drop i)) : Int) * 3600 + (fieldsP s (i + (runD (s.drop i)).length)).1)), i64 (fieldsP s (i + (runD (s.drop i)).length)).2, bo true] := by
  unfold parse at hK
  rw [← hi] at hK
  rcases hours_of s i with ⟨_, h⟩ | ⟨_, e⟩
  · exact absurd h3 h
  · have e2 : (hoursP s i).2.2 = true := by rw [e]; simp [h0, h167]
    rw [if_pos e2] at hK
    rw [e] at hK
    simpa only [Int.toNat_natCast] using hK
theorem f10_loop (s : List UInt8) (hs : s.length ≤ 9223372036854775000) (i : Nat) (hi : i = off s) (st0 : St) (hn0 : norm p10 st0 = some (h10 s i 0 0)) (K : List AV → Prop) (hK : K [i64 (parse s).1, i64 (parse s).2.1, bo (parse s).2.2]) :
    LoopI C3 (bodyOf Tryd.f58) 0 st0 (finK C3 Tryd.f58 K) := by
  have hi1 : i ≤ 1 := by rw [hi]; exact off_le s
  have hil : i ≤ s.length := by rw [hi]; exact off_le_len s
  have hrl := run_le (s.drop i)
  have hdl : (s.drop i).length = s.length - i := List.length_drop
  unfold LoopI
  refine loop_rule (fun j : Nat => h10 s i (j : Int) (num ((runD (s.drop i)).take (min j 4)))) (fun j => j ≤ (runD (s.drop i)).length) (fun j => (runD (s.drop i)).length - j)
    (fun j hP K' hnorm hexit => ?_) rfl 0 p10 _ (by omega) (hn0.trans (by kernel_rfl))
  have en : IntKind.wrap .i64 ((i : Int) + (j : Int)) = ((i + j : Nat) : Int) := by rw [wrap64 (by omega) (by omega)]; omega
  have ej : IntKind.wrap .i64 ((j : Int) + 1) = ((j + 1 : Nat) : Int) := by rw [wrap64 (by omega) (by omega)]; omega
  have hd := run_digit (s.drop i) j hP
  rw [← digit_drop] at hd
  rw [f10_lp]
  simp only [en, ej]
  refine ⟨by omega, ?_⟩
  by_cases hlt : j < (runD (s.drop i)).length
  · rw [if_pos hlt] at hd
    refine brn_intro (fun _ => ?_) (fun h => by rw [Int.toNat_natCast, hd] at h; cases h)
    have hbd : isD (s.getD (i + j) 0) = true ∧ dv (s.getD (i + j) 0) = (digit s (i + j)).1 := by
      have h2 := digit_eq s (i + j)
      rw [hd] at h2
      rw [hd]
      by_cases a1 : i + j < s.length
      · rw [if_pos a1] at h2
        by_cases a2 : isD (s.getD (i + j) 0) = true
        · rw [if_pos a2] at h2; exact ⟨a2, (congrArg Prod.fst h2).symm⟩
        · rw [if_neg a2] at h2; cases (congrArg Prod.snd h2)
      · rw [if_neg a1] at h2; cases (congrArg Prod.snd h2)
    have hb := (isD_iff _).1 hbd.1
    refine brn_intro (fun h4 => ?_) (fun h4 => ?_)
    · have hj4 : j < 4 := by simp only [decide_eq_true_eq] at h4; omega
      have hm : min j 4 = j := by omega
      have hm1 : min (j + 1) 4 = j + 1 := by omega
      have hnl := num_le (s.drop i) j hP
      have hn9 : num ((runD (s.drop i)).take j) < 1000 := by
        have : 10 ^ j ≤ 10 ^ 3 := Nat.pow_le_pow_right (by decide) (by omega)
        omega
      refine ⟨by omega, by omega, hnorm (j + 1) p10 _ (by omega) (by omega) ?_⟩
      have e2 : (num ((runD (s.drop i)).take (min (j + 1) 4)) : Int) = 10 * (num ((runD (s.drop i)).take (min j 4)) : Int) + (((s.getD (i + j) 0).toNat : Int) - 48) := by
        rw [hm, hm1, num_succ _ _ hlt]
        have : dv ((runD (s.drop i)).getD j 0) = dv (s.getD (i + j) 0) := by rw [hbd.2, hd]
        rw [this]
        unfold dv
        omega
      have e3 := w10' (h := (num ((runD (s.drop i)).take (min j 4)) : Int)) (b := ((s.getD (i + j) 0).toNat : Int)) (by omega) (by rw [hm]; omega) (by omega) (by omega)
      rw [e2, ← e3]
      show _ = _
      kernel_rfl
    · have hj4 : ¬ j < 4 := by simp only [decide_eq_false_iff_not] at h4; omega
      have hm : min (j + 1) 4 = min j 4 := by omega
      refine hnorm (j + 1) p10 _ (by omega) (by omega) ?_
      rw [hm]
      show _ = _
      kernel_rfl
  · rw [if_neg hlt] at hd
    have hj : j = (runD (s.drop i)).length := by omega
    refine brn_intro (fun h => by rw [Int.toNat_natCast, hd] at h; cases h) (fun _ => ?_)
    refine hexit _ _ (by simp) ?_
    rw [← en]
    refine Eq.mpr (f10_out s (i : Int) (j : Int) (num ((runD (s.drop i)).take (min j 4))) K) ?_
    simp only [en, Int.toNat_natCast]
    refine brn_intro (fun h => ?_) (fun h => ?_)
    · have hf : parse s = (0, 0, false) := by
        unfold parse
        rw [← hi]
        rcases hours_of s i with ⟨e, _⟩ | ⟨h3, e⟩
        · rw [e]; first | done | rfl
        · have : (hoursP s i).2.2 = false := by
            rw [e]
            have hm : min j 4 = j := by omega
            rw [hm, hj, List.take_length] at h
            simp only [Bool.or_eq_true, decide_eq_true_eq] at h
            simp only [Bool.and_eq_false_iff, decide_eq_false_iff_not]
            omega
          rw [if_neg (by rw [this]; simp)]
      rw [hf] at hK
      exact hK
    · simp only [Bool.or_eq_false_iff, decide_eq_false_iff_not] at h
      have hm : min j 4 = j := by omega
      rw [hm, hj, List.take_length] at h
      have ht : num ((runD (s.drop i)).take (min j 4)) = num (runD (s.drop i)) := by rw [hm, hj, List.take_length]
      rw [ht]
      have hK' := tail10 s i hi hs K hK (by omega) (by omega) (by omega)
      rw [← hj] at hK'
      have hlen : i + j ≤ s.length := by omega
      have hpos : 0 < s.length := by omega
      rw [sgn_eq hpos] at hK'
      have h167 : num (runD (s.drop i)) ≤ 167 := by omega
      generalize num (runD (s.drop i)) = hh at h167 hK'
      have w1 : IntKind.wrap .i64 ((hh : Int) * 3600) = (hh : Int) * 3600 := wrap64 (by omega) (by omega)
      have e3 : IntKind.wrap .i64 (((i + j : Nat) : Int) + 3) = ((i + j + 3 : Nat) : Int) := by rw [wrap64 (by omega) (by omega)]; omega
      simp only [w1, e3, Int.toNat_natCast]
      refine ⟨by omega, by omega, by show (s.length : Int) ≤ 9223372036854775000; omega, ?_⟩
      have sg : ∀ (b : Int) (X Y : Prop), (b = 45 → X) → (b ≠ 45 → Y) → brn (b == 45) X Y := fun b X Y hx hy => brn_intro (fun h => hx (by simpa using h)) (fun h => hy (by simpa using h))
      rcases fieldsP_of s (i + j) hlen with ⟨q1, q2⟩ | ⟨m, m60, q1, q0, q2⟩
      · rw [q1]
        rw [q2] at hK'
        refine brn_intro (fun h => by simp at h) (fun _ => ⟨by omega, by omega, sg _ _ _ (fun hb => ?_) (fun hb => ?_)⟩)
        · rw [if_pos (by simpa using hb)] at hK'
          have : IntKind.wrap .i64 (0 - (hh : Int) * 3600) = -1 * ((hh : Int) * 3600 + 0) := by rw [wrap64 (by omega) (by omega)]; omega
          rw [this]; exact hK'
        · rw [if_neg (by simpa using hb)] at hK'
          have : (hh : Int) * 3600 = 1 * ((hh : Int) * 3600 + 0) := by omega
          rw [this]; exact hK'
      · rw [q1]
        have w2 : IntKind.wrap .i64 (60 * (m : Int)) = 60 * (m : Int) := wrap64 (by omega) (by omega)
        have w3 : IntKind.wrap .i64 ((hh : Int) * 3600 + 60 * (m : Int)) = (hh : Int) * 3600 + 60 * (m : Int) := wrap64 (by omega) (by omega)
        simp only [w2, w3]
        refine brn_intro (fun _ => ⟨by omega, by omega, by show (s.length : Int) ≤ 9223372036854775000; omega, ?_⟩) (fun h => by simp at h)
        rcases q2 with ⟨q3, q4⟩ | ⟨c, c60, q3, q5, q4⟩
        · rw [q3]
          rw [q4] at hK'
          refine brn_intro (fun h => by simp at h) (fun _ => ⟨by omega, by omega, sg _ _ _ (fun hb => ?_) (fun hb => ?_)⟩)
          · rw [if_pos (by simpa using hb)] at hK'
            have : IntKind.wrap .i64 (0 - ((hh : Int) * 3600 + 60 * (m : Int))) = -1 * ((hh : Int) * 3600 + 60 * (m : Int)) := by rw [wrap64 (by omega) (by omega)]; omega
            rw [this]; exact hK'
          · rw [if_neg (by simpa using hb)] at hK'
            have : (hh : Int) * 3600 + 60 * (m : Int) = 1 * ((hh : Int) * 3600 + 60 * (m : Int)) := by omega
            rw [this]; exact hK'
        · rw [q3]
          rw [q4] at hK'
          have w4 : IntKind.wrap .i64 ((hh : Int) * 3600 + 60 * (m : Int) + (c : Int)) = (hh : Int) * 3600 + 60 * (m : Int) + (c : Int) := wrap64 (by omega) (by omega)
          have e6 : IntKind.wrap .i64 (((i + j + 3 : Nat) : Int) + 3) = ((i + j + 6 : Nat) : Int) := by rw [wrap64 (by omega) (by omega)]; omega
          simp only [w4, e6]
          refine brn_intro (fun _ => ⟨by omega, by omega, sg _ _ _ (fun hb => ?_) (fun hb => ?_)⟩) (fun h => by simp at h)
          · rw [if_pos (by simpa using hb)] at hK'
            have : IntKind.wrap .i64 (0 - ((hh : Int) * 3600 + 60 * (m : Int) + (c : Int))) = -1 * ((hh : Int) * 3600 + (60 * (m : Int) + c)) := by rw [wrap64 (by omega) (by omega)]; omega
            rw [this]; exact hK'
          · rw [if_neg (by simpa using hb)] at hK'
            have : (hh : Int) * 3600 + 60 * (m : Int) + (c : Int) = 1 * ((hh : Int) * 3600 + (60 * (m : Int) + c)) := by omega
            rw [this]; exact hK'
theorem ok10 : ∀ args pres res, sParse args = some (pres, res) → SpecOK Tryd.prog G8 58 args pres res := by
  intro args pres res h
  unfold sParse at h
  split at h
  case h_2 => cases h
  cases h
  rename_i s
  refine mk okE3 at10 (by decide) rfl (fun hp K hK => ?_)
  have h0 := hp _ (List.mem_cons_self ..)
  unfold big at h0
  have hs : s.length ≤ 9223372036854775000 := by omega
  rw [show cx E3 = C3 from rfl, f10_in (hc := rfl)]
  refine ⟨fun h => by omega, fun h => by simpa using h, fun _ _ => by omega, fun h _ => by simpa using h, brn_intro (fun h => ?_) (fun h => ?_)⟩
  · refine f10_loop s hs 1 ?_ _ (by kernel_rfl) K hK
    cases s with
    | nil => simp at h
    | cons b r =>
      simp only [off]
      simp only [List.getD_cons_zero, Bool.and_eq_true, Bool.or_eq_true, beq_iff_eq, Int.toNat_zero] at h
      rw [if_pos]
      rcases h.2 with h | h
      · exact Or.inr (UInt8.toNat_inj.1 (by show b.toNat = 43; omega))
      · exact Or.inl (UInt8.toNat_inj.1 (by show b.toNat = 45; omega))
  · refine f10_loop s hs 0 ?_ _ (by kernel_rfl) K hK
    cases s with
    | nil => rfl
    | cons b r =>
      simp only [off]
      rw [if_neg]
      intro hb
      have : (decide (((b :: r).length : Int) > 0) && (((b.toNat : Int) == 43) || ((b.toNat : Int) == 45))) = true := by
        rcases hb with rfl | rfl <;> simp <;> omega
      have h' : (decide (((b :: r).length : Int) > 0) && (((b.toNat : Int) == 43) || ((b.toNat : Int) == 45))) = false := h
      rw [this] at h'
      cases h'
theorem pfx1 (s : List UInt8) (c : UInt8) : pfx s [c] = true ↔ ∃ r, s = c :: r := by
  unfold pfx
  cases s with
  | nil => simp
  | cons b r =>
    simp only [List.isPrefixOf_cons₂, List.isPrefixOf_nil_left, Bool.and_true, beq_iff_eq, List.cons.injEq, exists_eq_right']
    exact eq_comm
theorem hours_le (s : List UInt8) (i : Nat) (hi : i ≤ s.length) (h : (hoursP s i).2.2 = true) : ∃ n : Nat, (hoursP s i).2.1 = (n : Int) ∧ n ≤ s.length ∧ i < n ∧ 0 ≤ (hoursP s i).1 ∧ (hoursP s i).1 ≤ 167 := by
  have hrl := run_le (s.drop i)
  have hdl : (s.drop i).length = s.length - i := List.length_drop
  rcases hours_of s i with ⟨e, _⟩ | ⟨h3, e⟩
  · rw [e] at h; cases h
  · rw [e] at h ⊢
    simp only [Bool.and_eq_true, decide_eq_true_eq] at h
    exact ⟨i + (runD (s.drop i)).length, rfl, by omega, by omega, by show (0 : Int) ≤ _; omega, by show (_ : Int) ≤ 167; omega⟩
theorem fields_b (s : List UInt8) (i : Nat) (hi : i ≤ s.length) : 0 ≤ (fieldsP s i).1 ∧ (fieldsP s i).1 < 3600 ∧ ∃ n : Nat, (fieldsP s i).2 = (n : Int) ∧ i ≤ n ∧ n ≤ s.length := by
  rcases fieldsP_of s i hi with ⟨_, e⟩ | ⟨m, hm, _, hl, ⟨_, e⟩ | ⟨c, hc, _, hl2, e⟩⟩
  · rw [e]; exact ⟨by show (0 : Int) ≤ 0; omega, by show (0 : Int) < 3600; omega, i, rfl, by omega, hi⟩
  · rw [e]; exact ⟨by show (0 : Int) ≤ _; omega, by show (_ : Int) < 3600; omega, i + 3, rfl, by omega, hl⟩
  · rw [e]; exact ⟨by show (0 : Int) ≤ _; omega, by show (_ : Int) < 3600; omega, i + 6, rfl, by omega, hl2⟩
theorem f9_tail (s : List UInt8) (hs : (s.length : Int) ≤ big) (g : Int) (i : Nat) (hi : i = off s) (hg : g = sgn s) (K : List AV → Prop) (hK : K [i64 (parse s).1, i64 (parse s).2.1, bo (parse s).2.2]) :
    brn (!(hoursP s i).2.2) (K [i64 0, i64 0, bo false])
      ((0 : Int) ≤ (hoursP s i).2.1 ∧ (hoursP s i).2.1 ≤ (s.length : Int) ∧ (s.length : Int) ≤ big ∧
        K [i64 (IntKind.wrap .i64 (g * IntKind.wrap .i64 (IntKind.wrap .i64 ((hoursP s i).1 * 3600) + (fieldsP s (hoursP s i).2.1.toNat).1))), i64 (fieldsP s (hoursP s i).2.1.toNat).2, bo true]) := by
  subst hi
  have hil := off_le_len s
  unfold parse at hK
  refine brn_intro (fun h => ?_) (fun h => ?_)
  · have h' : (hoursP s (off s)).2.2 = false := by simpa using h
    rw [if_neg (by rw [h']; simp)] at hK
    exact hK
  · have h' : (hoursP s (off s)).2.2 = true := by simpa using h
    rw [if_pos h'] at hK
    obtain ⟨n, e, hn, hin, b0, b1⟩ := hours_le s (off s) hil h'
    obtain ⟨c0, c1, _⟩ := fields_b s n hn
    rw [e, Int.toNat_natCast] at hK ⊢
    refine ⟨by omega, by omega, hs, ?_⟩
    have w : IntKind.wrap .i64 (g * IntKind.wrap .i64 (IntKind.wrap .i64 ((hoursP s (off s)).1 * 3600) + (fieldsP s n).1)) = sgn s * ((hoursP s (off s)).1 * 3600 + (fieldsP s n).1) := by
      rw [wrap64 (n := (hoursP s (off s)).1 * 3600) (by omega) (by omega), wrap64 (n := (hoursP s (off s)).1 * 3600 + (fieldsP s n).1) (by omega) (by omega), hg]
      have : sgn s = 1 ∨ sgn s = -1 := by
        unfold sgn
        split
        · split
          · exact Or.inr rfl
          · exact Or.inl rfl
        · exact Or.inl rfl
      rcases this with h | h <;> rw [h] <;> rw [wrap64 (by omega) (by omega)]
    rw [w]
    exact hK
theorem ok9 : ∀ args pres res, sParse args = some (pres, res) → SpecOK Tryd.prog G8 48 args pres res := by
  intro args pres res h
  unfold sParse at h
  split at h
  case h_2 => cases h
  cases h
  rename_i s
  refine mk okE3 at9 (by decide) rfl (fun hp K hK => ?_)
  have h0 := hp _ (List.mem_cons_self ..)
  rw [show cx E3 = C3 from rfl, f9_in]
  refine brn_intro (fun h => ?_) (fun h => ?_)
  · have hc : ∃ c r, s = c :: r ∧ (c = 45 ∨ c = 43) := by
      rw [Bool.or_eq_true, pfx1, pfx1] at h
      rcases h with ⟨r, rfl⟩ | ⟨r, rfl⟩
      · exact ⟨_, _, rfl, Or.inl rfl⟩
      · exact ⟨_, _, rfl, Or.inr rfl⟩
    obtain ⟨c, r, rfl, hc⟩ := hc
    have ho : off (c :: r) = 1 := by simp only [off]; rw [if_pos hc]
    refine ⟨by omega, by simp, brn_intro (fun hb => ?_) (fun hb => ?_)⟩
    · have : c = 45 := by
        have : (c.toNat : Int) = 45 := by simpa using hb
        exact UInt8.toNat_inj.1 (by show c.toNat = 45; omega)
      subst this
      exact ⟨by decide, by decide, h0, f9_tail _ h0 (-1) 1 ho.symm rfl K hK⟩
    · have : c ≠ 45 := by rintro rfl; simp at hb
      have hg : sgn (c :: r) = 1 := by simp only [sgn]; rw [if_neg this]
      exact ⟨by decide, by decide, h0, f9_tail _ h0 1 1 ho.symm hg.symm K hK⟩
  · have hx : off s = 0 ∧ sgn s = 1 := by
      rw [Bool.or_eq_false_iff] at h
      cases s with
      | nil => exact ⟨rfl, rfl⟩
      | cons c r =>
        have h1 : c ≠ 45 := by rintro rfl; simp [pfx] at h
        have h2 : c ≠ 43 := by rintro rfl; simp [pfx] at h
        simp only [off, sgn]
        rw [if_neg (by simp [h1, h2]), if_neg h1]
        exact ⟨rfl, rfl⟩
    exact ⟨by decide, by decide, h0, f9_tail _ h0 1 0 hx.1.symm hx.2.symm K hK⟩
theorem dd_len (n : Nat) : 1 ≤ (dd n).length ∧ (dd n).length ≤ 3 := by unfold dd; split <;> (try split) <;> simp
end P8
set_option maxRecDepth 100000
namespace P8
open Go Go.AE Go.Proofs
end P8
namespace P7
open Go Go.AE Go.Proofs
def isAlpha (c : Int) : Bool := decide (c ≥ 97) && decide (c ≤ 122) || decide (c ≥ 65) && decide (c ≤ 90)
def allowed (c : Int) : Bool := decide (c < 128) && (isAlpha (IntKind.wrap IntKind.u8 c) || decide (c ≥ 48) && decide (c ≤ 57) || c == 43 || c == 45)
def alphaB (b : UInt8) : Bool := isAlpha (b.toNat : Int)
def goodB (b : UInt8) : Bool := alphaB b || decide (48 ≤ b.toNat) && decide (b.toNat ≤ 57) || b.toNat == 43 || b.toNat == 45
def valid (s : List UInt8) : Bool := s.all goodB && (decide (3 ≤ s.length) && decide (s.length ≤ 255))
def bare (s : List UInt8) : Bool := s.all alphaB
def letters (s : List UInt8) : Nat := (s.takeWhile alphaB).length
def place (s : List UInt8) (b : UInt8) : Nat := (s.takeWhile (fun x => x != b)).length
def idx (s : List UInt8) (b : Int) : Int := if place s (UInt8.ofNat b.toNat) < s.length then (place s (UInt8.ofNat b.toNat) : Int) else -1
def pfx (s t : List UInt8) : Bool := t.isPrefixOf s
def parseQ (r : List UInt8) : List UInt8 × Int × Bool :=
  if place r 62 < r.length then (if valid (r.take (place r 62)) then (r.take (place r 62), (place r 62 : Int) + 2, true) else ([], 0, false)) else ([], 0, false)
def parseP (s : List UInt8) : List UInt8 × Int × Bool := if valid (s.take (letters s)) then (s.take (letters s), (letters s : Int), true) else ([], 0, false)
def parse : List UInt8 → List UInt8 × Int × Bool
  | b :: r => if b = 60 then parseQ r else parseP (b :: r)
  | [] => parseP []
def bo (b : Bool) : AV := .imm (.bool b)
def i64 (n : Int) : AV := .imm (.int .i64 n)
def st (s : List UInt8) : AV := .imm (.str s)
def sAlpha : List AV → Option (List Prop × List AV)
  | [.imm (.int .u8 c)] => some ([], [bo (isAlpha c)])
  | _ => none
def sAllowed : List AV → Option (List Prop × List AV)
  | [.imm (.int .i32 c)] => some ([], [bo (allowed c)])
  | _ => none
def sValid : List AV → Option (List Prop × List AV)
  | [.imm (.str s)] => some ([s.length ≤ 9223372036854775807], [bo (valid s)])
  | _ => none
def sLetters : List AV → Option (List Prop × List AV)
  | [.imm (.str s)] => some ([s.length ≤ 9223372036854775806], [i64 (letters s)])
  | _ => none
def sIdx : List AV → Option (List Prop × List AV)
  | [.imm (.str s), .imm (.int .u8 b)] => some ([0 ≤ b, b < 256], [i64 (idx s b)])
  | _ => none
def sPfx : List AV → Option (List Prop × List AV)
  | [.imm (.str s), .imm (.str t)] => some ([], [bo (pfx s t)])
  | _ => none
def sCut : List AV → Option (List Prop × List AV)
  | [.imm (.str s), .imm (.str t)] => some ([], [st (if pfx s t then s.drop t.length else s), bo (pfx s t)])
  | _ => none
def sParse : List AV → Option (List Prop × List AV)
  | [.imm (.str s)] => some ([s.length ≤ 9223372036854775800], [st (parse s).1, i64 (parse s).2.1, bo (parse s).2.2])
  | _ => none
def G0 : Nat → Option (List AV) := P8.G8
noncomputable def cx (E : FuncId → List AV → Option (List Prop × List AV)) : Cx := ⟨Tryd.prog, E, noCall, G0, 0⟩
def E1 := addE (addE (addE noE 69 sAlpha) 92 sAlpha) 68 sIdx
def E2 := addE (addE E1 74 sAllowed) 89 sPfx
def E3 := addE (addE E2 52 sValid) 76 sValid
def E4 := addE (addE (addE E3 77 sLetters) 87 sCut) 67 sCut
def E5 := addE (addE E4 47 sParse) 56 sParse
noncomputable def C0 : Cx := cx noE
noncomputable def C1 : Cx := cx E1
noncomputable def C2 : Cx := cx E2
noncomputable def C3 : Cx := cx E3
noncomputable def C4 : Cx := cx E4
noncomputable def C5 : Cx := cx E5
def h10 (s : List UInt8) (pos : Nat) : St := ⟨lapp [st s, .dead, bo false, .dead, .dead, st s, .ptr 0 0] (lrepl 14 .dead), [(0, ⟨true, 0, .iter s pos⟩)], 1, []⟩
def h11 (s : List UInt8) (i : Int) : St := ⟨lapp [st s, .dead, bo false, i64 i] (lrepl 37 .dead), [], 0, []⟩
def h18 (s : List UInt8) (n : Int) : St := ⟨lapp [st s, .dead, i64 0, i64 n] (lrepl 13 .dead), [], 0, []⟩
def h8 (s : List UInt8) (n : Int) : St := ⟨lapp [st s, .dead, st [], i64 0, bo false, st [], i64 n] (lrepl 38 .dead), [], 0, []⟩
def h9 (s : List UInt8) (i : Int) : St := ⟨lapp [st s, .dead, st [], i64 0, bo false, i64 i] (lrepl 40 .dead), [], 0, []⟩
end P7
namespace P9
open Go Go.AE Go.Proofs
def number (s : List UInt8) : Int × Int × Bool := if (P8.runD s).length ≤ 3 then ((P8.num (P8.runD s) : Int), ((P8.runD s).length : Int), decide (0 < (P8.runD s).length)) else (0, 0, false)
def after (s : List UInt8) (i : Nat) (c : UInt8) : Int × Int × Bool := match s.drop i with
  | b :: r => if b = c then ((number r).1, ((i + 1 : Nat) : Int) + (number r).2.1, (number r).2.2) else (0, 0, false)
  | [] => (0, 0, false)
structure D where
  k : Int
  d : Int
  m : Int
  w : Int
  e : Int
  n : Int
  ok : Bool
def noD : D := ⟨0, 0, 0, 0, 0, 0, false⟩
def dateM (s : List UInt8) : D :=
  if (number (s.drop 1)).2.2 then (if (after s ((number (s.drop 1)).2.1.toNat + 1) 46).2.2 then
    ⟨3, 0, (number (s.drop 1)).1, (after s ((number (s.drop 1)).2.1.toNat + 1) 46).1, (after s (after s ((number (s.drop 1)).2.1.toNat + 1) 46).2.1.toNat 46).1, (after s (after s ((number (s.drop 1)).2.1.toNat + 1) 46).2.1.toNat 46).2.1, (after s (after s ((number (s.drop 1)).2.1.toNat + 1) 46).2.1.toNat 46).2.2⟩
    else noD) else noD
def date (s : List UInt8) : D := match s with
  | [] => noD
  | b :: r => if b = 74 then ⟨1, (number r).1, 0, 0, 0, (number r).2.1 + 1, (number r).2.2⟩ else if b = 77 then dateM s else ⟨2, (number s).1, 0, 0, 0, (number s).2.1, (number s).2.2⟩
def validDay (k d m w e t : Int) : Bool := decide (-604799 ≤ t) && decide (t ≤ 604799) &&
  ((k == 1 || k == 2) && (m == 0) && (w == 0) && (e == 0) && decide (0 ≤ d) && decide (d ≤ 365) && (k == 2 || decide (0 < d)) || (k == 3) && (d == 0) && decide (1 ≤ m) && decide (m ≤ 12) && decide (1 ≤ w) && decide (w ≤ 5) && decide (0 ≤ e) && decide (e < 7))
structure Dy where
  k : Int
  d : Int
  m : Int
  w : Int
  e : Int
  t : Int
  n : Int
  ok : Bool
def noDy : Dy := ⟨0, 0, 0, 0, 0, 0, 0, false⟩
def slash (s : List UInt8) (x : D) : Bool := x.ok && decide (x.n < (s.length : Int)) && (s.getD x.n.toNat 0 == 47)
def dayT (x : D) (t n : Int) (ok : Bool) : Dy := if ok && validDay x.k x.d x.m x.w x.e t then ⟨x.k, x.d, x.m, x.w, x.e, t, n, true⟩ else noDy
def day (s : List UInt8) : Dy :=
  if slash s (date s) then dayT (date s) (P8.parse (s.drop ((date s).n.toNat + 1))).1 ((date s).n + 1 + (P8.parse (s.drop ((date s).n.toNat + 1))).2.1) (P8.parse (s.drop ((date s).n.toNat + 1))).2.2
  else dayT (date s) 7200 (date s).n (date s).ok
def dd (n : Nat) : List UInt8 := P8.dd n
def side (n : Int) : Bool := decide (-89999 ≤ n) && decide (n ≤ 89999)
def bo (b : Bool) : AV := .imm (.bool b)
def i64 (n : Int) : AV := .imm (.int .i64 n)
def st (s : List UInt8) : AV := .imm (.str s)
def big : Int := 9223372036854774000
def dayAV (k d m w e t : Int) : AV := .agg [i64 k, i64 d, i64 m, i64 w, i64 e, i64 t]
def sSide : List AV → Option (List Prop × List AV)
  | [.imm (.int .i64 n)] => some ([], [bo (side n)])
  | _ => none
def sNumber : List AV → Option (List Prop × List AV)
  | [.imm (.str s)] => some ([(s.length : Int) ≤ big], [i64 (number s).1, i64 (number s).2.1, bo (number s).2.2])
  | _ => none
def sAfter : List AV → Option (List Prop × List AV)
  | [.imm (.str s), .imm (.int .i64 i), .imm (.int .u8 c)] => some ([(s.length : Int) ≤ big, 0 ≤ i, i ≤ big, 0 ≤ c, c ≤ 255], [i64 (after s i.toNat (u8 c)).1, i64 (after s i.toNat (u8 c)).2.1, bo (after s i.toNat (u8 c)).2.2])
  | _ => none
def sValidDay : List AV → Option (List Prop × List AV)
  | [.agg [.imm (.int .i64 k), .imm (.int .i64 d), .imm (.int .i64 m), .imm (.int .i64 w), .imm (.int .i64 e), .imm (.int .i64 t)]] => some ([], [bo (validDay k d m w e t)])
  | _ => none
def sDate : List AV → Option (List Prop × List AV)
  | [.imm (.str s)] => some ([(s.length : Int) ≤ big - 10], [dayAV (date s).k (date s).d (date s).m (date s).w (date s).e 0, i64 (date s).n, bo (date s).ok])
  | _ => none
def sDay : List AV → Option (List Prop × List AV)
  | [.imm (.str s)] => some ([(s.length : Int) ≤ big - 20], [dayAV (day s).k (day s).d (day s).m (day s).w (day s).e (day s).t, i64 (day s).n, bo (day s).ok])
  | _ => none
def G0 : Nat → Option (List AV) := P8.G8
noncomputable def cx (E : FuncId → List AV → Option (List Prop × List AV)) : Cx := ⟨Tryd.prog, E, noCall, G0, 0⟩
def F0 := addE (addE P7.E5 48 P8.sParse) 58 P8.sParse
def F1 := addE (addE (addE (addE F0 49 sSide) 98 sNumber) 53 sValidDay) 81 sValidDay
def F2 := addE F1 99 sAfter
def F3 := addE F2 91 sDate
def F4 := addE F3 73 sDay
noncomputable def C0 : Cx := cx F0
noncomputable def C1 : Cx := cx F1
noncomputable def C2 : Cx := cx F2
noncomputable def C3 : Cx := cx F3
noncomputable def C4 : Cx := cx F4
def h34 (s : List UInt8) (v n : Int) : St := ⟨lapp [st s, .dead, i64 0, i64 0, bo false, i64 v, i64 n] (lrepl 32 .dead), [], 0, []⟩
def ruleAV (a : List UInt8) (o : Int) (h : Bool) (b : List UInt8) (p : Int) (k d m w e t k' d' m' w' e' t' : Int) : AV :=
  .agg [st a, i64 o, bo h, st b, i64 p, i64 k, i64 d, i64 m, i64 w, i64 e, i64 t, i64 k', i64 d', i64 m', i64 w', i64 e', i64 t']
def validRule (a : List UInt8) (o : Int) (h : Bool) (b : List UInt8) (p : Int) (k d m w e t k' d' m' w' e' t' : Int) : Bool :=
  P7.valid a && side o && (if h then P7.valid b && side p && validDay k d m w e t && validDay k' d' m' w' e' t'
    else decide (b = []) && (p == 0) && (k == 0) && (d == 0) && (m == 0) && (w == 0) && (e == 0) && (t == 0) && (k' == 0) && (d' == 0) && (m' == 0) && (w' == 0) && (e' == 0) && (t' == 0))
def sValidRule : List AV → Option (List Prop × List AV)
  | [.agg [.imm (.str a), .imm (.int .i64 o), .imm (.bool h), .imm (.str b), .imm (.int .i64 p), .imm (.int .i64 k), .imm (.int .i64 d), .imm (.int .i64 m), .imm (.int .i64 w), .imm (.int .i64 e), .imm (.int .i64 t), .imm (.int .i64 k'), .imm (.int .i64 d'), .imm (.int .i64 m'), .imm (.int .i64 w'), .imm (.int .i64 e'), .imm (.int .i64 t')]] =>
    some ([a.length ≤ 9223372036854775807, b.length ≤ 9223372036854775807], [bo (validRule a o h b p k d m w e t k' d' m' w' e' t')])
  | _ => none
def F5 := addE F4 28 sValidRule
noncomputable def inlF : FuncId → Option Func := fun f => bif Nat.beq f 24 then some Tryd.f24 else bif Nat.beq f 25 then some Tryd.f25 else bif Nat.beq f 26 then some Tryd.f26 else bif Nat.beq f 27 then some Tryd.f27 else bif Nat.beq f 50 then some Tryd.f50 else bif Nat.beq f 51 then some Tryd.f51 else none
noncomputable def C5 : Cx := ⟨Tryd.prog, F5, inl inlF Tryd.prog F5 G0 0 4, G0, 0⟩
noncomputable def c8 : List Dir → Code := fun p => codeAt p (bodyOf Tryd.f15)
noncomputable def a8 : Code := .seq (c8 [.l]) (c8 [.r, .l])
def e8 (s : List UInt8) : St := ⟨lapp [st s] (lrepl 39 .dead), [], 0, []⟩
def zRule : List AV := [st [], i64 0, bo false, st [], i64 0, i64 0, i64 0, i64 0, i64 0, i64 0, i64 0, i64 0, i64 0, i64 0, i64 0, i64 0, i64 0]
def tl8 (t : Nat → AV) (n : Nat) : List AV := lmap t (ldrop 10 (upto n []))
def o8 (s : List UInt8) (i : Int) (R : List AV) : List (Nat × Ob) := [(0, ⟨true, 0, .cells R⟩), (1, ⟨true, 0, .cells [i64 0]⟩), (2, ⟨true, 0, .cells [i64 0]⟩), (3, ⟨true, 0, .cells [st s, i64 i]⟩)]
def tlR (t : Nat → AV) (a b : Nat) : List AV := lmap t (ldrop a (upto b []))
def tlC (t : Nat → AV) (a b : Nat) : List AV := lmap (fun j => clean1 (clean1 (t j))) (ldrop a (upto b []))
def R8 (a : List UInt8) (o : Int) : List AV := [st a, i64 o, bo false, st [], i64 0, i64 0, i64 0, i64 0, i64 0, i64 0, i64 0, i64 0, i64 0, i64 0, i64 0, i64 0, i64 0]
def P3 : List AV := [.ptr 0 0, .ptr 1 0, .ptr 2 0]
def S8 (s : List UInt8) (i : Int) (R : List AV) (x y z : AV) (t : Nat → AV) : St := ⟨lapp [st s, .dead, .ptr 0 0, .ptr 1 0, .ptr 2 0, .ptr 3 0, x, y, z, .fn 23 [] [.ptr 0 0, .ptr 1 0, .ptr 2 0]] (tl8 t 40), o8 s i R, 4, P3⟩
noncomputable def c19 : List Dir → Code := fun p => codeAt p (bodyOf Tryd.f26)
def R17 (a : List UInt8) (o : Int) (h : Bool) (b : List UInt8) (p k d m w e t k' d' m' w' e' t' : Int) : List AV :=
  [st a, i64 o, bo h, st b, i64 p, i64 k, i64 d, i64 m, i64 w, i64 e, i64 t, i64 k', i64 d', i64 m', i64 w', i64 e', i64 t']
def S19 (s : List UInt8) (i : Int) (R0 R R2 : List AV) (x y : AV) (OUT : List AV) (t : Nat → AV) : St :=
  ⟨lapp [.ptr 3 0, x, y, .ptr 4 0, .ptr 5 0] (lmap t (ldrop 5 (upto 45 []))), lapp (o8 s i R0) [(4, ⟨true, 0, .cells R⟩), (5, ⟨true, 0, .cells R2⟩)], 6, OUT⟩
def S19b (s : List UInt8) (i : Int) (R0 R R2 : List AV) (x y : AV) (OUT : List AV) (X Y : List AV) (t : Nat → AV) : St :=
  ⟨lapp [.ptr 3 0, x, y, .ptr 4 0, .ptr 5 0] (lmap t (ldrop 5 (upto 45 []))), lapp (o8 s i R0) [(4, ⟨true, 0, .cells R⟩), (5, ⟨true, 0, .cells R2⟩), (6, ⟨true, 0, .cells X⟩), (7, ⟨true, 0, .cells Y⟩)], 8, OUT⟩
def S19c (s : List UInt8) (i : Int) (R0 R R2 : List AV) (x y : AV) (OUT : List AV) (X Y Z W : List AV) (t : Nat → AV) : St :=
  ⟨lapp [.ptr 3 0, x, y, .ptr 4 0, .ptr 5 0] (lmap t (ldrop 5 (upto 45 []))), lapp (o8 s i R0) [(4, ⟨true, 0, .cells R⟩), (5, ⟨true, 0, .cells R2⟩), (6, ⟨true, 0, .cells X⟩), (7, ⟨true, 0, .cells Y⟩), (8, ⟨true, 0, .cells Z⟩), (9, ⟨true, 0, .cells W⟩)], 10, OUT⟩
def S8c (s : List UInt8) (i : Int) (R : List AV) (x y z : AV) (R4 R5 X Y Z W : List AV) (t : Nat → AV) : St :=
  ⟨lapp [st s, .dead, .ptr 0 0, .ptr 1 0, .ptr 2 0, .ptr 3 0, x, y, z, .fn 23 [] [.ptr 0 0, .ptr 1 0, .ptr 2 0]] (tl8 t 40),
    lapp (o8 s i R) [(4, ⟨true, 0, .cells R4⟩), (5, ⟨true, 0, .cells R5⟩), (6, ⟨true, 0, .cells X⟩), (7, ⟨true, 0, .cells Y⟩), (8, ⟨true, 0, .cells Z⟩), (9, ⟨true, 0, .cells W⟩)], 10, P3⟩
noncomputable def c16 : List Dir → Code := fun p => codeAt p (bodyOf Tryd.f23)
noncomputable def C16 : Cx := ⟨Tryd.prog, noE, noCall, G0, 0⟩
def nilV : AV := .imm (.val .nilIface)
def E16 (R : List AV) (X : AV) : St := ⟨lapp [.ptr 0 0, .ptr 1 0, .ptr 2 0, X, .dead, .dead, X] (lrepl 12 .dead), [(0, ⟨true, 0, .cells R⟩), (1, ⟨true, 0, .cells [i64 0]⟩), (2, ⟨true, 0, .cells [i64 0]⟩)], 3, P3⟩
noncomputable def C4i : Cx := ⟨Tryd.prog, F5, inl inlF Tryd.prog F5 G0 0 3, G0, 0⟩
end P9
set_option maxRecDepth 100000
namespace P9
open Go Go.AE Go.Proofs
attribute [local irreducible] loopK evCode evSpec loopB norm
theorem f22_in (n : Int) (K : List AV → Prop) : evSpec C0 Tryd.f49 [AV.imm (IV.int IntKind.i64 n)] K =
  (K [AV.imm (IV.bool (decide (n ≥ (-89999 : Int)) && decide (n ≤ (89999 : Int))))]) := by kernel_rfl
theorem f34_in (s : List UInt8) (K : List AV → Prop) : evSpec C0 Tryd.f98 [AV.imm (IV.str s)] K = (LoopI C0 (bodyOf Tryd.f98) (0 : Nat) (St.mk (lapp [st s, AV.dead, i64 0, i64 0, bo false, i64 0, i64 0] (dN 32)) [] (0 : Nat) []) (finK C0 Tryd.f98 K)) := by kernel_rfl
theorem f34_lp (s : List UInt8) (v : Int) (n : Int) (k : AX → St → Prop) (c : Int) (hc : c = (↑(UInt8.toNat (List.getD s n.toNat (0 : UInt8))) : Int)) : evCode C0 (loopB (bodyOf Tryd.f98) (0 : Nat)) (h34 s v n) k = ((decide (n < (s.length : Int)) = true → (0 : Int) ≤ n) ∧ (decide (n < (s.length : Int)) = true → n < (s.length : Int)) ∧ ((decide (n < (s.length : Int)) && decide (c ≥ 48)) = true → (0 : Int) ≤ n) ∧ ((decide (n < (s.length : Int)) && decide (c ≥ 48)) = true → n < (s.length : Int)) ∧ brn (decide (n < (s.length : Int)) && decide (c ≥ 48) && decide (c ≤ 57)) (brn (n == 3) (k AX.ret (St.mk (lapp [st s, .dead, i64 0, i64 0, bo false, i64 v, i64 n, i64 n, st s, i64 (s.length : Int), bo (decide (n < (s.length : Int))), bo (decide (n < (s.length : Int))), .opt [((11 : Nat), true)] (st s), .opt [((11 : Nat), true)] (i64 n), .opt [((11 : Nat), true)] (.imm (.int .u8 c)), .opt [((11 : Nat), true)] (bo (decide (c ≥ 48))), bo (decide (n < (s.length : Int)) && decide (c ≥ 48)), bo (decide (n < (s.length : Int)) && decide (c ≥ 48)), .opt [((17 : Nat), true)] (st s), .opt [((17 : Nat), true)] (i64 n), .opt [((17 : Nat), true)] (.imm (.int .u8 c)), .opt [((17 : Nat), true)] (bo (decide
 (c ≤ 57))), bo (decide (n < (s.length : Int)) && decide (c ≥ 48) && decide (c ≤ 57)), i64 n, bo (n == 3)] (dN 14)) [] (0 : Nat) [])) ((0 : Int) ≤ n ∧ n < (s.length : Int) ∧ k AX.normal (St.mk (lapp [st s, .dead, i64 0, i64 0, bo false, i64 (IntKind.wrap .i64 (IntKind.wrap .i64 (v * 10) + IntKind.wrap .i64 (IntKind.wrap IntKind.u8 (c - 48)))), i64 (IntKind.wrap .i64 (n + 1)), i64 n, st s, i64 (s.length : Int), bo (decide (n < (s.length : Int))), bo (decide (n < (s.length : Int))), .opt [((11 : Nat), true)] (st s), .opt [((11 : Nat), true)] (i64 n), .opt [((11 : Nat), true)] (.imm (.int .u8 c)), .opt [((11 : Nat), true)] (bo (decide (c ≥ 48))), bo (decide (n < (s.length : Int)) && decide (c ≥ 48)), bo (decide (n < (s.length : Int)) && decide (c ≥ 48)), .opt [((17 : Nat), true)] (st s), .opt [((17 : Nat), true)] (i64 n), .opt [((17 : Nat), true)] (.imm (.int .u8 c)), .opt [((17 : Nat), true)] (bo (decide (c ≤ 57))), bo (decide (n < (s.length : Int)) && decide (c ≥ 48) && decide (c ≤ 57)), i64 n, bo (n == 3), i64 v, i64 (IntKind.wrap .i64 (v * 10)), st s, i64 n, .imm (.int .u8 c), .imm (.int .u8 (IntKind.wrap IntKind.u8 (c - 48))), i64 (IntKind.wrap .i64 (IntKind.wrap IntKind.u8 (c -
 48))), i64 (IntKind.wrap .i64 (IntKind.wrap .i64 (v * 10) + IntKind.wrap .i64 (IntKind.wrap IntKind.u8 (c - 48)))), i64 n, i64 (IntKind.wrap .i64 (n + 1))] (dN 4)) [] (0 : Nat) []))) (k (AX.exit (0 : Nat)) (St.mk (lapp [st s, .dead, i64 0, i64 0, bo false, i64 v, i64 n, i64 n, st s, i64 (s.length : Int), bo (decide (n < (s.length : Int))), bo (decide (n < (s.length : Int))), .opt [((11 : Nat), true)] (st s), .opt [((11 : Nat), true)] (i64 n), .opt [((11 : Nat), true)] (.imm (.int .u8 c)), .opt [((11 : Nat), true)] (bo (decide (c ≥ 48))), bo (decide (n < (s.length : Int)) && decide (c ≥ 48)), bo (decide (n < (s.length : Int)) && decide (c ≥ 48)), .opt [((17 : Nat), true)] (st s), .opt [((17 : Nat), true)] (i64 n), .opt [((17 : Nat), true)] (.imm (.int .u8 c)), .opt [((17 : Nat), true)] (bo (decide (c ≤ 57))), bo (decide (n < (s.length : Int)) && decide (c ≥ 48) && decide (c ≤ 57))] (dN 16)) [] (0 : Nat) []))) := by subst hc; kernel_rfl
theorem f23_in (k : Int) (d : Int) (m : Int) (w : Int) (e : Int) (t : Int) (K : List AV →
  Prop) : evSpec C0 Tryd.f53 [dayAV k d m w e t] K = (brn (decide (t < (-604799 : Int)) || decide (t > (604799 : Int))) (K [bo false]) (brn (k == (1 : Int)) (brn (k == (1 : Int)) (K [bo (m == (0 : Int) && w == (0 : Int) && e == (0 : Int) && decide (d ≥ (0 : Int)) && decide (d ≤ (365 : Int)) && (k == (2 : Int) || decide (d > (0 : Int))))]) (brn (k == (3 : Int)) (K [bo (d == (0 : Int) && decide (m ≥ (1 : Int)) && decide (m ≤ (12 : Int)) && decide (w ≥ (1 : Int)) && decide (w ≤ (5 : Int)) && decide (e ≥ (0 : Int)) && decide (e < (7 : Int)))]) (K [bo false]))) (brn (k == (2 : Int)) (K [bo (m == (0 : Int) && w == (0 : Int) && e == (0 : Int) && decide (d ≥ (0 : Int)) && decide (d ≤ (365 : Int)) && (k == (2 : Int) || decide (d > (0 : Int))))]) (brn (k == (3 : Int)) (K [bo (d == (0 : Int) && decide (m ≥ (1 : Int)) && decide (m ≤ (12 : Int)) && decide (w ≥ (1 : Int)) && decide (w ≤ (5 : Int)) && decide (e ≥ (0 : Int)) && decide (e < (7 : Int)))]) (K [bo false]))))) := by kernel_rfl
theorem f11_in (k : Int) (d : Int) (m : Int) (w : Int) (e : Int) (t : Int) (K : List AV →
  Prop) : evSpec C0 Tryd.f81 [dayAV k d m w e t] K = (brn (decide (t < (-604799 : Int)) || decide (t > (604799 : Int))) (K [bo false]) (brn (k == (1 : Int)) (K [bo (decide (d ≥ (1 : Int)) && decide (d ≤ (365 : Int)) && m == (0 : Int) && w == (0 : Int) && e == (0 : Int))]) (brn (k == (2 : Int)) (K [bo (decide (d ≥ (0 : Int)) && decide (d ≤ (365 : Int)) && m == (0 : Int) && w == (0 : Int) && e == (0 : Int))]) (K [bo (k == (3 : Int) && d == (0 : Int) && decide (m ≥ (1 : Int)) && decide (m ≤ (12 : Int)) && decide (w ≥ (1 : Int)) && decide (w ≤ (5 : Int)) && decide (e ≥ (0 : Int)) && decide (e ≤ (6 : Int)))])))) := by kernel_rfl
theorem f35_in (s : List UInt8) (i : Int) (c : Int) (K : List AV → Prop) : evSpec C1 Tryd.f99 [.imm (.str s), .imm (.int .i64 i), .imm (.int .u8 c)] K = ((decide (i ≥ (s.length : Int)) = false → (0 : Int) ≤ i) ∧ (decide (i ≥ (s.length : Int)) = false → i < (s.length : Int)) ∧ brn (decide (i ≥ (s.length : Int)) || (↑(UInt8.toNat (List.getD s i.toNat (0 : UInt8))) : Int) != c) (K [i64 0, i64 0, bo false]) ((0 : Int) ≤ IntKind.wrap .i64 (i + 1) ∧ IntKind.wrap .i64 (i + 1) ≤ (s.length : Int) ∧ (↑(List.take (s.length - (IntKind.wrap .i64 (i + 1)).toNat) (List.drop (IntKind.wrap .i64 (i + 1)).toNat s)).length : Int) ≤ big ∧ K [i64 (number (List.take (s.length - (IntKind.wrap .i64 (i + 1)).toNat) (List.drop (IntKind.wrap .i64 (i + 1)).toNat s))).1, i64 (IntKind.wrap .i64 (IntKind.wrap .i64 (i + 1) + (number (List.take (s.length - (IntKind.wrap .i64 (i + 1)).toNat) (List.drop (IntKind.wrap .i64 (i + 1)).toNat s))).2.1)), bo (number (List.take (s.length - (IntKind.wrap .i64 (i + 1)).toNat) (List.drop (IntKind.wrap .i64 (i + 1)).toNat s))).2.2])) := by kernel_rfl
theorem f28_in (s : List UInt8) (K : List AV → Prop) (m : Int × Int × Bool) (hm : m = number (List.take (s.length - (1 : Int).toNat) (List.drop (1 : Int).toNat s))) : evSpec C2 Tryd.f91 [.imm (.str s)] K = (brn (decide (s = [])) (K [dayAV 0 0 0 0 0 0, i64 0, bo false]) ((0 : Int) ≤ 0 ∧ (0 : Int) < (s.length : Int) ∧ brn ((↑(UInt8.toNat (List.getD s (0 : Int).toNat (0 : UInt8))) : Int) == 74) ((0 : Int) ≤ 1 ∧ (1 : Int) ≤ (s.length : Int) ∧ (↑(List.take (s.length - (1 : Int).toNat) (List.drop (1 : Int).toNat s)).length : Int) ≤ big ∧ K [dayAV 1 (Prod.fst m) 0 0 0 0, i64 (IntKind.wrap .i64 ((Prod.snd m).1 + 1)), bo (Prod.snd m).2]) (brn ((↑(UInt8.toNat (List.getD s (0 : Int).toNat (0 : UInt8))) : Int) == 77) ((0 : Int) ≤ 1 ∧ (1 : Int) ≤ (s.length : Int) ∧ (↑(List.take (s.length - (1 : Int).toNat) (List.drop (1 : Int).toNat s)).length : Int) ≤ big ∧ brn (!(Prod.snd m).2) (K [dayAV 0 0 0 0 0 0, i64 0, bo false]) ((s.length : Int) ≤ big ∧ (0 : Int) ≤ IntKind.wrap .i64 ((Prod.snd m).1 + 1) ∧ IntKind.wrap .i64 ((Prod.snd m).1 + 1) ≤ big ∧ (0 : Int) ≤ 46 ∧ (46 : Int) ≤ 255 ∧ brn (!(after s (IntKind.wrap .i64 ((Prod.snd m).1 + 1)).toNat (u8 (46 : Int))).2.2) (K [dayAV 0 0 0 0 0 0, i64 0, bo
 false]) ((s.length : Int) ≤ big ∧ (0 : Int) ≤ (after s (IntKind.wrap .i64 ((Prod.snd m).1 + 1)).toNat (u8 (46 : Int))).2.1 ∧ (after s (IntKind.wrap .i64 ((Prod.snd m).1 + 1)).toNat (u8 (46 : Int))).2.1 ≤ big ∧ (0 : Int) ≤ 46 ∧ (46 : Int) ≤ 255 ∧ K [dayAV 3 0 (Prod.fst m) (after s (IntKind.wrap .i64 ((Prod.snd m).1 + 1)).toNat (u8 (46 : Int))).1 (after s (after s (IntKind.wrap .i64 ((Prod.snd m).1 + 1)).toNat (u8 (46 : Int))).2.1.toNat (u8 (46 : Int))).1 0, i64 (after s (after s (IntKind.wrap .i64 ((Prod.snd m).1 + 1)).toNat (u8 (46 : Int))).2.1.toNat (u8 (46 : Int))).2.1, bo (after s (after s (IntKind.wrap .i64 ((Prod.snd m).1 + 1)).toNat (u8 (46 : Int))).2.1.toNat (u8 (46 : Int))).2.2]))) ((s.length : Int) ≤ big ∧ K [dayAV 2 (number s).1 0 0 0 0, i64 (number s).2.1, bo (number s).2.2])))) := by subst hm; kernel_rfl
theorem f15_in (s : List UInt8) (K : List AV → Prop) : evSpec C3 Tryd.f73 [.imm (.str s)] K = ((s.length : Int) ≤ big - 10 ∧ ((D.ok (date s) && decide (D.n (date s) < (s.length : Int))) = true → (0 : Int) ≤ D.n (date s)) ∧ ((D.ok (date s) && decide (D.n (date s) < (s.length : Int))) = true → D.n (date s) < (s.length : Int)) ∧ brn (D.ok (date s) && decide (D.n (date s) < (s.length : Int)) && (↑(UInt8.toNat (List.getD s (D.n (date s)).toNat (0 : UInt8))) : Int) == 47) ((0 : Int) ≤ IntKind.wrap .i64 (D.n (date s) + 1) ∧ IntKind.wrap .i64 (D.n (date s) + 1) ≤ (s.length : Int) ∧ (↑(List.take (s.length - (IntKind.wrap .i64 (D.n (date s) + 1)).toNat) (List.drop (IntKind.wrap .i64 (D.n (date s) + 1)).toNat s)).length : Int) ≤ P8.big ∧ brn (!(P8.parse (List.take (s.length - (IntKind.wrap .i64 (D.n (date s) + 1)).toNat) (List.drop (IntKind.wrap .i64 (D.n (date s) + 1)).toNat s))).2.2 || !validDay (D.k (date s)) (D.d (date s)) (D.m (date s)) (D.w (date s)) (D.e (date s)) (P8.parse (List.take (s.length - (IntKind.wrap .i64 (D.n (date s) + 1)).toNat) (List.drop (IntKind.wrap .i64 (D.n (date s) + 1)).toNat s))).1) (K [dayAV 0 0 0 0 0 0, i64 0, bo false]) (K [dayAV (D.k (date s)) (D.d (date s))
 (D.m (date s)) (D.w (date s)) (D.e (date s)) (P8.parse (List.take (s.length - (IntKind.wrap .i64 (D.n (date s) + 1)).toNat) (List.drop (IntKind.wrap .i64 (D.n (date s) + 1)).toNat s))).1, i64 (IntKind.wrap .i64 (IntKind.wrap .i64 (D.n (date s) + 1) + (P8.parse (List.take (s.length - (IntKind.wrap .i64 (D.n (date s) + 1)).toNat) (List.drop (IntKind.wrap .i64 (D.n (date s) + 1)).toNat s))).2.1)), bo true])) (brn (!D.ok (date s) || !validDay (D.k (date s)) (D.d (date s)) (D.m (date s)) (D.w (date s)) (D.e (date s)) (7200 : Int)) (K [dayAV 0 0 0 0 0 0, i64 0, bo false]) (K [dayAV (D.k (date s)) (D.d (date s)) (D.m (date s)) (D.w (date s)) (D.e (date s)) 7200, i64 (D.n (date s)), bo true]))) := by kernel_rfl
end P9
set_option maxRecDepth 100000
namespace P7
open Go Go.AE Go.Proofs
theorem f12_in (c : Int) (K : List AV → Prop) : evSpec C0 Tryd.f69 [.imm (.int .u8 c)] K = (K [.imm (.bool (decide (c ≥ 97) && decide (c ≤ 122) || decide (c ≥ 65) && decide (c ≤ 90)))]) := by kernel_rfl
theorem f13_in (c : Int) (K : List AV → Prop) : evSpec C0 Tryd.f92 [.imm (.int .u8 c)] K = (K [.imm (.bool (decide (c ≥ 65) && decide (c ≤ 90) || decide (c ≥ 97) && decide (c ≤ 122)))]) := by kernel_rfl
theorem f19_in (c : Int) (K : List AV → Prop) : evSpec C1 Tryd.f74 [.imm (.int IntKind.i32 c)] K = (K [.imm (.bool (decide (c < 128) && (isAlpha (IntKind.wrap IntKind.u8 c) || decide (c ≥ 48) && decide (c ≤ 57) || c == 43 || c == 45)))]) := by kernel_rfl
theorem f23_in (s : List
  UInt8) (t : List UInt8) (K : List AV → Prop) : evSpec C1 Tryd.f89 [AV.imm (IV.str s), AV.imm (IV.str t)] K = ((decide ((↑(List.length s) : Int) ≥ (↑(List.length t) : Int)) = true → (0 : Int) ≤ (↑(List.length t) : Int)) ∧ (decide ((↑(List.length s) : Int) ≥ (↑(List.length t) : Int)) = true → (↑(List.length t) : Int) ≤ (↑(List.length s) : Int)) ∧ K [bo (decide ((↑(List.length s) : Int) ≥ (↑(List.length t) : Int)) && decide (List.take (Int.toNat (↑(List.length t) : Int) - (0 : Nat)) (List.drop (0 : Nat) s) = t))]) := by kernel_rfl
theorem f10_in (s : List UInt8) (K : List AV → Prop) : evSpec C2 Tryd.f52 [AV.imm (IV.str s)] K = (LoopI C2 (bodyOf Tryd.f52) (0 : Nat) (St.mk (lapp [st s, AV.dead, bo false, AV.dead, AV.dead, st s, AV.ptr (0 : Nat) (0 : Nat)] (dN 14)) [((0 : Nat), Ob.mk true (0 : Nat) (AObj.iter s (0 : Nat)))] (1 : Nat) []) (finK C2 Tryd.f52 K)) := by kernel_rfl
theorem f11_in (s : List UInt8) (K : List AV → Prop) : evSpec C2 Tryd.f76 [AV.imm (IV.str s)] K = (LoopI C2 (bodyOf Tryd.f76) (0 : Nat) (St.mk (lapp [st s, AV.dead, bo false, i64 0] (dN 37)) [] (0 : Nat) []) (finK C2 Tryd.f76 K)) := by kernel_rfl
theorem f18_in (s : List UInt8) (K : List AV → Prop) : evSpec C3 Tryd.f77 [.imm (.str s)] K = (LoopI C3 (bodyOf Tryd.f77) (0 : Nat) (St.mk (lapp [.imm (.str s), .dead, .imm (.int .i64 0), .imm (.int .i64 0)] (dN 13)) [] (0 : Nat) []) (finK C3 Tryd.f77 K)) := by kernel_rfl
theorem f21_in (s : List UInt8) (t : List UInt8) (K : List AV → Prop) : evSpec C3 Tryd.f87 [.imm (.str s), .imm (.str t)] K = (brn (!pfx s t) (K [.imm (.str s), .imm (.bool false)]) ((0 : Int) ≤ (t.length : Int) ∧ (t.length : Int) ≤ (s.length : Int) ∧ K [.imm (.str (List.take (s.length - (t.length : Int).toNat) (List.drop (t.length : Int).toNat s))), .imm (.bool true)])) := by kernel_rfl
theorem f8_in (s : List UInt8) (K : List AV → Prop) : evSpec C4 Tryd.f47 [.imm (.str s)] K = (brn (pfx s [(60 : UInt8)]) ((0 : Int) ≤ 62 ∧ (62 : Int) < 256 ∧ brn (decide (idx (if pfx s [(60 : UInt8)] = true then List.drop (List.length [(60 : UInt8)]) s else s) (62 : Int) < 0)) (K [st [], i64 0, bo false]) ((0 : Int) ≤ idx (if pfx s [(60 : UInt8)] = true then List.drop (List.length [(60 : UInt8)]) s else s) (62 : Int) ∧ idx (if pfx s [(60 : UInt8)] = true then List.drop (List.length [(60 : UInt8)]) s else s) (62 : Int) ≤ (↑(if pfx s [(60 : UInt8)] = true then List.drop (List.length [(60 : UInt8)]) s else s).length : Int) ∧ (List.take ((idx (if pfx s [(60 : UInt8)] = true then List.drop (List.length [(60 : UInt8)]) s else s) (62 : Int)).toNat - 0) (List.drop (0 : Nat) (if pfx s [(60 : UInt8)] = true then List.drop (List.length [(60 : UInt8)]) s else s))).length ≤ 9223372036854775807 ∧ brn (!valid (List.take ((idx (if pfx s [(60 : UInt8)] = true then List.drop (List.length [(60 : UInt8)]) s else s) (62 : Int)).toNat - 0) (List.drop (0 : Nat) (if pfx s [(60 : UInt8)] = true then List.drop (List.length [(60 : UInt8)]) s else s)))) (K [st [], i64 0, bo false]) (K [st (List.take ((idx (if
 pfx s [(60 : UInt8)] = true then List.drop (List.length [(60 : UInt8)]) s else s) (62 : Int)).toNat - 0) (List.drop (0 : Nat) (if pfx s [(60 : UInt8)] = true then List.drop (List.length [(60 : UInt8)]) s else s))), i64 (IntKind.wrap .i64 (idx (if pfx s [(60 : UInt8)] = true then List.drop (List.length [(60 : UInt8)]) s else s) (62 : Int) + 2)), bo true]))) (LoopI C4 (bodyOf Tryd.f47) (0 : Nat) (St.mk (lapp [st s, .dead, st [], i64 0, bo false, st [], i64 0, st (if pfx s [(60 : UInt8)] = true then List.drop (List.length [(60 : UInt8)]) s else s), bo (pfx s [(60 : UInt8)]), .dead, .tup [st (if pfx s [(60 : UInt8)] = true then List.drop (List.length [(60 : UInt8)]) s else s), bo (pfx s [(60 : UInt8)])], st s, .tup [st (if pfx s [(60 : UInt8)] = true then List.drop (List.length [(60 : UInt8)]) s else s), bo (pfx s [(60 : UInt8)])], st (if pfx s [(60 : UInt8)] = true then List.drop (List.length [(60 : UInt8)]) s else s), bo (pfx s [(60 : UInt8)]), bo (pfx s [(60 : UInt8)])] (dN 29)) [] (0 : Nat) []) (finK C4 Tryd.f47 K))) := by kernel_rfl
theorem f9_in (s : List UInt8) (K : List AV → Prop) : evSpec C4 Tryd.f56 [AV.imm (IV.str s)] K = ((decide ((↑(List.length s) : Int) > (0 : Int)) = true → (0 : Int) ≤ (0 : Int)) ∧ (decide ((↑(List.length s) : Int) > (0 : Int)) = true → (0 : Int) < (↑(List.length s) : Int)) ∧ brn (decide ((↑(List.length s) : Int) > (0 : Int)) && (↑(UInt8.toNat (List.getD s (Int.toNat (0 : Int)) (0 : UInt8))) : Int) == (60 : Int)) (LoopI C4 (bodyOf Tryd.f56) (0 : Nat) (St.mk (lapp [st s, AV.dead, st [], i64 0, bo false, i64 1, AV.dead, st s, i64 (↑(List.length s) : Int), bo (decide ((↑(List.length s) : Int) > (0 : Int))), bo (decide ((↑(List.length s) : Int) > (0 : Int))), AV.opt [((10 : Nat), true)] (st s), AV.opt [((10 : Nat), true)] (AV.imm (IV.int IntKind.u8 (↑(UInt8.toNat (List.getD s (Int.toNat (0 : Int)) (0 : UInt8))) : Int))), AV.opt [((10 : Nat), true)] (bo ((↑(UInt8.toNat (List.getD s (Int.toNat (0 : Int)) (0 : UInt8))) : Int) == (60 : Int))), bo (decide ((↑(List.length s) : Int) > (0 : Int)) && (↑(UInt8.toNat (List.getD s (Int.toNat (0 : Int)) (0 : UInt8))) : Int) == (60 : Int))] (dN 31))
 [] (0 : Nat) []) (finK C4 Tryd.f56 K)) (List.length s ≤ (9223372036854775806 : Nat) ∧ (0 : Int) ≤ (↑(letters s) : Int) ∧ (↑(letters s) : Int) ≤ (↑(List.length s) : Int) ∧ List.length (List.take (Int.toNat (↑(letters s) : Int) - (0 : Nat)) (List.drop (0 : Nat) s)) ≤ (9223372036854775807 : Nat) ∧ brn (!valid (List.take (Int.toNat (↑(letters s) : Int) - (0 : Nat)) (List.drop (0 : Nat) s))) (K [st [], i64 0, bo false]) ((0 : Int) ≤ (↑(letters s) : Int) ∧ (↑(letters s) : Int) ≤ (↑(List.length s) : Int) ∧ K [st (List.take (Int.toNat (↑(letters s) : Int) - (0 : Nat)) (List.drop (0 : Nat) s)), i64 (↑(letters s) : Int), bo true]))) := by kernel_rfl
attribute [local irreducible] evCode evSpec loopB loopK norm
theorem at8 : Tryd.prog.funcs[47]? = some Tryd.f47 := by kernel_rfl
theorem at9 : Tryd.prog.funcs[56]? = some Tryd.f56 := by kernel_rfl
theorem at10 : Tryd.prog.funcs[52]? = some Tryd.f52 := by kernel_rfl
theorem at11 : Tryd.prog.funcs[76]? = some Tryd.f76 := by kernel_rfl
theorem at12 : Tryd.prog.funcs[69]? = some Tryd.f69 := by kernel_rfl
theorem at13 : Tryd.prog.funcs[92]? = some Tryd.f92 := by kernel_rfl
theorem at16 : Tryd.prog.funcs[67]? = some Tryd.f67 := by kernel_rfl
theorem at17 : Tryd.prog.funcs[68]? = some Tryd.f68 := by kernel_rfl
theorem at18 : Tryd.prog.funcs[77]? = some Tryd.f77 := by kernel_rfl
theorem at19 : Tryd.prog.funcs[74]? = some Tryd.f74 := by kernel_rfl
theorem at21 : Tryd.prog.funcs[87]? = some Tryd.f87 := by kernel_rfl
theorem at23 : Tryd.prog.funcs[89]? = some Tryd.f89 := by kernel_rfl
theorem mk {E : FuncId → List AV → Option (List Prop × List AV)} (hE : EOK Tryd.prog E G0) {f : FuncId} {fn : Func} {args res : List AV} {pres : List Prop} (hf : Tryd.prog.funcs[f]? = some fn) (hn : (fn.name == "runtime.NumGoroutine") = false) (hb : fn.body.isNone = false)
    (h : (∀ p, p ∈ pres → p) → ∀ K : List AV → Prop, K res → evSpec (cx E) fn args K) : SpecOK Tryd.prog G0 f args pres res :=
  spec_ok (C := cx E) hE noCall_ok hf hn hb (fun hp => h hp _ rfl)
theorem ok0 : EOK Tryd.prog noE G0 := noE_ok
theorem ok12 : ∀ args pres res, sAlpha args = some (pres, res) → SpecOK Tryd.prog G0 69 args pres res := by
  intro args pres res h
  unfold sAlpha at h
  split at h
  case h_2 => cases h
  cases h
  exact mk ok0 at12 (by decide) rfl (fun _ K hK => by rw [show cx noE = C0 from rfl, f12_in]; exact hK)
theorem ok13 : ∀ args pres res, sAlpha args = some (pres, res) → SpecOK Tryd.prog G0 92 args pres res := by
  intro args pres res h
  unfold sAlpha at h
  split at h
  case h_2 => cases h
  cases h
  rename_i c
  refine mk ok0 at13 (by decide) rfl (fun _ K hK => ?_)
  rw [show cx noE = C0 from rfl, f13_in]
  have e : isAlpha c = (decide (c ≥ 65) && decide (c ≤ 90) || decide (c ≥ 97) && decide (c ≤ 122)) := by unfold isAlpha; exact Bool.or_comm _ _
  unfold bo at hK
  rw [e] at hK
  exact hK
end P7
namespace Go.Proofs
open Go.Shelf
def Tryd.lays137_ren : Go.Shelf.Ren := ⟨fun | 137 => 68 | 217 => 88 | 266 => 97 | n => n, fun | 9 => 9 | 5 => 5 | 3 => 3 | n => n, fun | n => n⟩
theorem Tryd.lays137 : Go.Proofs.Lays.n137 Tryd.prog Tryd.lays137_ren := {
  mixed := by kernel_rfl
  f137 := Tryd.func68.trans (congrArg some (by kernel_rfl))
  f217 := Tryd.func88.trans (congrArg some (by kernel_rfl))
  f266 := Tryd.func97.trans (congrArg some (by kernel_rfl))
  t3 := Tryd.underlying3
  a3 := Tryd.isAgg3
  z3 := Tryd.sizeOf3
  v3 := Tryd.zeroValue3
  t5 := Tryd.underlying5
  a5 := Tryd.isAgg5
  z5 := Tryd.sizeOf5
  v5 := Tryd.zeroValue5
  t9 := Tryd.underlying9
  a9 := Tryd.isAgg9
  z9 := Tryd.sizeOf9
  v9 := Tryd.zeroValue9 }
end Go.Proofs
namespace P7
open Go Go.AE Go.Proofs Go.Shelf
theorem idx_calls (s : ByteArray) (c : Int) (w : World) :
    Calls Tryd.prog 68 #[.string s, .int .u8 c] w fun e w' => e = .returned (.int .i64 (Lib.indexByte s.data.toList c.toNat.toUInt8)) ∧ w' = w := Any.strings_IndexByte Tryd.lays137 s c w
theorem indexByte_eq : ∀ (l : List UInt8) (c : UInt8), Lib.indexByte l c = if place l c < l.length then (place l c : Int) else -1
  | [], c => by simp [Lib.indexByte, place]
  | b :: l, c => by
    have ih := indexByte_eq l c
    simp only [Lib.indexByte, ih]
    by_cases h : b = c
    · subst h; simp [place]
    · have hb : (b == c) = false := by simpa using h
      have hp : place (b :: l) c = place l c + 1 := by simp [place, List.takeWhile_cons, h]
      rw [hb, hp]
      simp only [List.length_cons, Bool.false_eq_true, if_false]
      by_cases hl : place l c < l.length
      · have h2 : place l c + 1 < l.length + 1 := by omega
        have h3 : ((place l c : Int) == -1) = false := by
          rw [beq_eq_false_iff_ne]; omega
        simp only [if_pos hl, if_pos h2, h3]
        simp
      · have h2 : ¬ (place l c + 1 < l.length + 1) := by omega
        simp only [if_neg hl, if_neg h2]
        simp
theorem ok17 : ∀ args pres res, sIdx args = some (pres, res) → SpecOK Tryd.prog G0 68 args pres res := by
  intro args pres res h
  unfold sIdx at h
  split at h
  case h_2 => cases h
  cases h
  rename_i s b
  refine ⟨⟨Tryd.f68, at17, by decide, rfl⟩, fun hp w own vals _ hsz hargs _ => ?_⟩
  have h0 := hargs 0 _ rfl
  have h1 := hargs 1 _ rfl
  obtain ⟨str, e0, hs, hl⟩ := arep_str h0
  obtain ⟨e1, _⟩ := arep_int h1
  have hv : vals = #[.string str, .int .u8 b] := by
    apply Array.ext
    · simpa using hsz
    · intro i h1' h2'
      have hi : i < 2 := by simpa using h2'
      match i, hi with
      | 0, _ => rw [Array.getD_eq_getD_getElem?, Array.getElem?_eq_getElem h1'] at e0; exact e0
      | 1, _ => rw [Array.getD_eq_getD_getElem?, Array.getElem?_eq_getElem h1'] at e1; exact e1
  subst hv
  refine (idx_calls str b w).mono ?_
  rintro e w' ⟨rfl, rfl⟩
  have hn : Lib.indexByte str.data.toList b.toNat.toUInt8 = idx s b := by
    rw [indexByte_eq]
    have : str.data.toList = s := hs
    rw [this]
    first | done | rfl
  have hr : InR .i64 (idx s b) := by
    unfold idx
    have hle : place s (UInt8.ofNat b.toNat) ≤ s.length := by unfold place; exact (List.takeWhile_sublist _).length_le
    split
    · exact ⟨by show (-9223372036854775808 : Int) ≤ _; omega, by show _ ≤ (9223372036854775807 : Int); omega⟩
    · exact ⟨by decide, by decide⟩
  refine ⟨[.int .i64 (idx s b)], [], by rw [hn]; rfl, RowKit.Below.refl _ _, ?_, fun b hb => by cases hb⟩
  exact .one (fun cs h => by cases h) (.imm (.int hr) .nil) (fun b hb => by cases hb) .nil
end P7
set_option maxRecDepth 100000
namespace P7
open Go Go.AE Go.Proofs
attribute [local irreducible] loopK evCode evSpec loopB norm
theorem okE1 : EOK Tryd.prog E1 G0 := addE_ok (addE_ok (addE_ok ok0 ok12) ok13) ok17
theorem ok19 : ∀ args pres res, sAllowed args = some (pres, res) → SpecOK Tryd.prog G0 74 args pres res := by
  intro args pres res h
  unfold sAllowed at h
  split at h
  case h_2 => cases h
  cases h
  exact mk okE1 at19 (by decide) rfl (fun _ K hK => by rw [show cx E1 = C1 from rfl, f19_in]; exact hK)
theorem pfx_eq (s t : List UInt8) : pfx s t = (decide (t.length ≤ s.length) && decide (s.take t.length = t)) := by
  unfold pfx
  rw [Bool.eq_iff_iff]
  simp only [List.isPrefixOf_iff_prefix, Bool.and_eq_true, decide_eq_true_eq]
  constructor
  · intro h
    exact ⟨h.length_le, (List.prefix_iff_eq_take.1 h).symm⟩
  · intro h
    exact List.prefix_iff_eq_take.2 h.2.symm
theorem ok23 : ∀ args pres res, sPfx args = some (pres, res) → SpecOK Tryd.prog G0 89 args pres res := by
  intro args pres res h
  unfold sPfx at h
  split at h
  case h_2 => cases h
  cases h
  rename_i s t
  refine mk okE1 at23 (by decide) rfl (fun _ K hK => ?_)
  rw [show cx E1 = C1 from rfl, f23_in]
  refine ⟨fun h => by omega, fun h => by simpa using h, ?_⟩
  rw [pfx_eq] at hK
  simpa using hK
theorem okE2 : EOK Tryd.prog E2 G0 := addE_ok (addE_ok okE1 ok19) ok23
end P7
set_option maxRecDepth 100000
namespace P7
open Go Go.AE Go.Proofs
theorem f10_lp (s : List UInt8) (pos : Nat) (k : AX → St → Prop) : evCode C2 (loopB (bodyOf Tryd.f52) (0 : Nat)) (h10 s pos) k = (brn (decide (pos < s.length)) (brn (!allowed (runeAt s pos).1) (k AX.ret (St.mk (lapp [st s, .dead, bo false, .dead, .imm (.int IntKind.i32 (runeAt s pos).1), st s, .ptr 0 0, .tup [bo true, i64 (↑pos : Int), .imm (.int IntKind.i32 (runeAt s pos).1)], bo true, .imm (.int IntKind.i32 (runeAt s pos).1), .imm (.int IntKind.i32 (runeAt s pos).1), bo (allowed (runeAt s pos).1), bo (!allowed (runeAt s pos).1)] (dN 8)) [(0, Ob.mk true 0 (AObj.iter s (pos + (runeAt s pos).2)))] (1 : Nat) [])) (k AX.normal (St.mk (lapp [st s, .dead, bo false, .dead, .imm (.int IntKind.i32 (runeAt s pos).1), st s, .ptr 0 0, .tup [bo true, i64 (↑pos : Int), .imm (.int IntKind.i32 (runeAt s pos).1)], bo true, .imm (.int IntKind.i32 (runeAt s pos).1), .imm (.int IntKind.i32 (runeAt s pos).1), bo (allowed (runeAt s pos).1), bo (!allowed (runeAt s pos).1)] (dN 8)) [(0, Ob.mk true 0 (AObj.iter s (pos + (runeAt s pos).2)))] (1 : Nat) []))) (k (AX.exit (0 : Nat)) (St.mk (lapp [st s, .dead, bo false, .dead, .dead, st s, .ptr 0 0, .tup [bo false], bo false] (dN 12)) [(0, Ob.mk true 0
 (AObj.iter s pos))] (1 : Nat) []))) := by kernel_rfl
theorem f11_lp (s : List UInt8) (i : Int) (k : AX → St → Prop) (c : Int) (hc : c = (↑(UInt8.toNat (List.getD s i.toNat (0 : UInt8))) : Int)) : evCode C2 (loopB (bodyOf Tryd.f76) (0 : Nat)) (h11 s i) k = (brn (decide (i < (s.length : Int))) ((0 : Int) ≤ i ∧ i < (s.length : Int) ∧ brn (!isAlpha c && (decide (c < 48) || decide (c > 57)) && c != 43 && c != 45) (k AX.ret (St.mk (lapp [st s, .dead, bo false, i64 i, .imm (.int .u8 c), i64 i, st s, i64 (s.length : Int), bo (decide (i < (s.length : Int))), .dead, .dead, st s, i64 i, .imm (.int .u8 c), .imm (.int .u8 c), bo (isAlpha c), bo (!isAlpha c), bo (!isAlpha c), .opt [((17 : Nat), true)] (.imm (.int .u8 c)), .opt [((17 : Nat), true)] (bo (decide (c < 48))), .opt [((17 : Nat), true)] (bo (decide (c < 48))), .opt [((20 : Nat), false), ((17 : Nat), true)] (.imm (.int .u8 c)), .opt [((20 : Nat), false), ((17 : Nat), true)] (bo (decide (c > 57))), .opt [((17 : Nat), true)] (bo (decide (c < 48) || decide (c > 57))), bo (!isAlpha c && (decide (c < 48) || decide (c > 57))), bo (!isAlpha c && (decide (c < 48) || decide (c > 57))), .opt [((25 : Nat), true)] (.imm (.int .u8 c)), .opt [((25 : Nat), true)] (bo (c != 43)), bo (!isAlpha c && (decide
 (c < 48) || decide (c > 57)) && c != 43), bo (!isAlpha c && (decide (c < 48) || decide (c > 57)) && c != 43), .opt [((29 : Nat), true)] (.imm (.int .u8 c)), .opt [((29 : Nat), true)] (bo (c != 45)), bo (!isAlpha c && (decide (c < 48) || decide (c > 57)) && c != 43 && c != 45)] (dN 8)) [] (0 : Nat) [])) (k AX.normal (St.mk (lapp [st s, .dead, bo false, i64 (IntKind.wrap .i64 (i + 1)), .imm (.int .u8 c), i64 i, st s, i64 (s.length : Int), bo (decide (i < (s.length : Int))), i64 i, i64 (IntKind.wrap .i64 (i + 1)), st s, i64 i, .imm (.int .u8 c), .imm (.int .u8 c), bo (isAlpha c), bo (!isAlpha c), bo (!isAlpha c), .opt [((17 : Nat), true)] (.imm (.int .u8 c)), .opt [((17 : Nat), true)] (bo (decide (c < 48))), .opt [((17 : Nat), true)] (bo (decide (c < 48))), .opt [((20 : Nat), false), ((17 : Nat), true)] (.imm (.int .u8 c)), .opt [((20 : Nat), false), ((17 : Nat), true)] (bo (decide (c > 57))), .opt [((17 : Nat), true)] (bo (decide (c < 48) || decide (c > 57))), bo (!isAlpha c && (decide (c < 48) || decide (c > 57))), bo (!isAlpha c && (decide (c < 48) || decide (c > 57))), .opt [((25 : Nat), true)] (.imm (.int .u8 c)), .opt [((25 : Nat), true)] (bo (c != 43)), bo (!isAlpha c && (decide
 (c < 48) || decide (c > 57)) && c != 43), bo (!isAlpha c && (decide (c < 48) || decide (c > 57)) && c != 43), .opt [((29 : Nat), true)] (.imm (.int .u8 c)), .opt [((29 : Nat), true)] (bo (c != 45)), bo (!isAlpha c && (decide (c < 48) || decide (c > 57)) && c != 43 && c != 45)] (dN 8)) [] (0 : Nat) []))) (k (AX.exit (0 : Nat)) (St.mk (lapp [st s, .dead, bo false, i64 i, .dead, i64 i, st s, i64 (s.length : Int), bo (decide (i < (s.length : Int)))] (dN 32)) [] (0 : Nat) []))) := by subst hc; kernel_rfl
theorem f18_lp (s : List UInt8) (i : Int) (k : AX → St → Prop) : evCode C3 (loopB (bodyOf Tryd.f77) (0 : Nat)) (h18 s i) k = ((decide (i < (s.length : Int)) = true → (0 : Int) ≤ i) ∧ (decide (i < (s.length : Int)) = true → i < (s.length : Int)) ∧ brn (decide (i < (s.length : Int)) && isAlpha (↑(UInt8.toNat (List.getD s i.toNat (0 : UInt8))) : Int)) (k AX.normal (St.mk [st s, .dead, i64 0, i64 (IntKind.wrap .i64 (i + 1)), i64 i, st s, i64 (s.length : Int), bo (decide (i < (s.length : Int))), bo (decide (i < (s.length : Int))), .opt [((8 : Nat), true)] (st s), .opt [((8 : Nat), true)] (i64 i), .opt [((8 : Nat), true)] (.imm (.int .u8 (↑(UInt8.toNat (List.getD s i.toNat (0 : UInt8))) : Int))), .opt [((8 : Nat), true)] (bo (isAlpha (↑(UInt8.toNat (List.getD s i.toNat (0 : UInt8))) : Int))), bo (decide (i < (s.length : Int)) && isAlpha (↑(UInt8.toNat (List.getD s i.toNat (0 : UInt8))) : Int)), i64 i, i64 (IntKind.wrap .i64 (i + 1)), .dead] [] (0 : Nat) [])) (k (AX.exit (0 : Nat)) (St.mk [st s, .dead, i64 0, i64 i, i64 i, st s, i64 (s.length : Int), bo (decide (i < (s.length : Int))), bo (decide (i < (s.length : Int))), .opt [((8 : Nat), true)] (st s), .opt [((8 : Nat), true)] (i64 i),
 .opt [((8 : Nat), true)] (.imm (.int .u8 (↑(UInt8.toNat (List.getD s i.toNat (0 : UInt8))) : Int))), .opt [((8 : Nat), true)] (bo (isAlpha (↑(UInt8.toNat (List.getD s i.toNat (0 : UInt8))) : Int))), bo (decide (i < (s.length : Int)) && isAlpha (↑(UInt8.toNat (List.getD s i.toNat (0 : UInt8))) : Int)), .dead, .dead, .dead] [] (0 : Nat) []))) := by kernel_rfl
theorem f8_lp (s : List UInt8) (i : Int) (k : AX → St → Prop) : evCode C4 (loopB (bodyOf Tryd.f47) (0 : Nat)) (h8 s i) k = ((decide (i < (↑(List.length s) : Int)) = true → (0 : Int) ≤ i) ∧ (decide (i < (↑(List.length s) : Int)) = true → i < (↑(List.length s) : Int)) ∧ brn (decide (i < (↑(List.length s) : Int)) && isAlpha (↑(UInt8.toNat (List.getD s (Int.toNat i) (0 : UInt8))) : Int)) (k AX.normal (St.mk (lapp [st s, AV.dead, st [], i64 0, bo false, st [], i64 (IntKind.wrap IntKind.i64 (i + (1 : Int)))] (lapp (dN 18) (lapp [i64 i, st s, i64 (↑(List.length s) : Int), bo (decide (i < (↑(List.length s) : Int))), bo (decide (i < (↑(List.length s) : Int))), AV.opt [((29 : Nat), true)] (st s), AV.opt [((29 : Nat), true)] (i64 i), AV.opt [((29 : Nat), true)] (AV.imm (IV.int IntKind.u8 (↑(UInt8.toNat (List.getD s (Int.toNat i) (0 : UInt8))) : Int))), AV.opt [((29 : Nat), true)] (bo (isAlpha (↑(UInt8.toNat (List.getD s (Int.toNat i) (0 : UInt8))) : Int))), bo (decide (i < (↑(List.length s) : Int)) && isAlpha (↑(UInt8.toNat (List.getD s (Int.toNat i) (0 : UInt8))) : Int)), i64 i, i64 (IntKind.wrap IntKind.i64 (i + (1
 : Int)))] (dN 8)))) [] (0 : Nat) [])) (k (AX.exit (0 : Nat)) (St.mk (lapp [st s, AV.dead, st [], i64 0, bo false, st [], i64 i] (lapp (dN 18) (lapp [i64 i, st s, i64 (↑(List.length s) : Int), bo (decide (i < (↑(List.length s) : Int))), bo (decide (i < (↑(List.length s) : Int))), AV.opt [((29 : Nat), true)] (st s), AV.opt [((29 : Nat), true)] (i64 i), AV.opt [((29 : Nat), true)] (AV.imm (IV.int IntKind.u8 (↑(UInt8.toNat (List.getD s (Int.toNat i) (0 : UInt8))) : Int))), AV.opt [((29 : Nat), true)] (bo (isAlpha (↑(UInt8.toNat (List.getD s (Int.toNat i) (0 : UInt8))) : Int))), bo (decide (i < (↑(List.length s) : Int)) && isAlpha (↑(UInt8.toNat (List.getD s (Int.toNat i) (0 : UInt8))) : Int))] (dN 10)))) [] (0 : Nat) []))) := by kernel_rfl
theorem f9_lp (s : List UInt8) (i : Int) (k : AX → St → Prop) : evCode C4 (loopB (bodyOf Tryd.f56) (0 : Nat)) (h9 s i) k = (brn (decide (i < (s.length : Int))) ((0 : Int) ≤ i ∧ i < (s.length : Int) ∧ brn ((↑(UInt8.toNat (List.getD s i.toNat (0 : UInt8))) : Int) == 62) ((0 : Int) ≤ 1 ∧ (1 : Int) ≤ i ∧ i ≤ (s.length : Int) ∧ (List.take (i.toNat - (1 : Int).toNat) (List.drop (1 : Int).toNat s)).length ≤ 9223372036854775807 ∧ brn (!valid (List.take (i.toNat - (1 : Int).toNat) (List.drop (1 : Int).toNat s))) (k AX.ret (St.mk (lapp [st s, .dead, st [], i64 0, bo false, i64 i] (lapp (dN 9) (lapp [i64 i, st s, i64 (s.length : Int), bo (decide (i < (s.length : Int))), .dead, .dead, st s, i64 i, .imm (.int .u8 (↑(UInt8.toNat (List.getD s i.toNat (0 : UInt8))) : Int)), bo ((↑(UInt8.toNat (List.getD s i.toNat (0 : UInt8))) : Int) == 62), st s, i64 i, st (List.take (i.toNat - (1 : Int).toNat) (List.drop (1 : Int).toNat s)), bo (valid (List.take (i.toNat - (1 : Int).toNat) (List.drop (1 : Int).toNat s))), bo (!valid (List.take (i.toNat - (1 : Int).toNat) (List.drop (1 : Int).toNat s)))] (dN 16)))) [] (0 : Nat) [])) ((0 : Int) ≤ 1 ∧ (1 : Int) ≤ i ∧ i ≤ (s.length : Int) ∧ k AX.ret (St.mk (lapp [st
 s, .dead, st (List.take (i.toNat - (1 : Int).toNat) (List.drop (1 : Int).toNat s)), i64 (IntKind.wrap .i64 (i + 1)), bo true, i64 i] (lapp (dN 9) (lapp [i64 i, st s, i64 (s.length : Int), bo (decide (i < (s.length : Int))), .dead, .dead, st s, i64 i, .imm (.int .u8 (↑(UInt8.toNat (List.getD s i.toNat (0 : UInt8))) : Int)), bo ((↑(UInt8.toNat (List.getD s i.toNat (0 : UInt8))) : Int) == 62), st s, i64 i, st (List.take (i.toNat - (1 : Int).toNat) (List.drop (1 : Int).toNat s)), bo (valid (List.take (i.toNat - (1 : Int).toNat) (List.drop (1 : Int).toNat s))), bo (!valid (List.take (i.toNat - (1 : Int).toNat) (List.drop (1 : Int).toNat s))), st s, i64 i, st (List.take (i.toNat - (1 : Int).toNat) (List.drop (1 : Int).toNat s)), i64 i, i64 (IntKind.wrap .i64 (i + 1))] (dN 11)))) [] (0 : Nat) []))) (k AX.normal (St.mk (lapp [st s, .dead, st [], i64 0, bo false, i64 (IntKind.wrap .i64 (i + 1))] (lapp (dN 9) (lapp [i64 i, st s, i64 (s.length : Int), bo (decide (i < (s.length : Int))), i64 i, i64 (IntKind.wrap .i64 (i + 1)), st s, i64 i, .imm (.int .u8 (↑(UInt8.toNat (List.getD s i.toNat (0 : UInt8))) : Int)), bo ((↑(UInt8.toNat (List.getD s i.toNat (0 : UInt8))) : Int) == 62)] (dN 21)))) []
 (0 : Nat) []))) (k (AX.exit (0 : Nat)) (St.mk (lapp [st s, .dead, st [], i64 0, bo false, i64 i] (lapp (dN 9) (lapp [i64 i, st s, i64 (s.length : Int), bo (decide (i < (s.length : Int)))] (dN 27)))) [] (0 : Nat) []))) := by kernel_rfl
attribute [local irreducible] evCode evSpec loopB loopK norm
theorem wrap64 {n : Int} (h1 : -9223372036854775808 ≤ n) (h2 : n ≤ 9223372036854775807) : IntKind.wrap .i64 n = n := by
  have := IntKind.wrap_i64 n
  rw [show IntKind.wrap .i64 n = IntKind.i64.wrap n from rfl, this]; omega
theorem getD_drop {s : List UInt8} {n : Nat} (h : n < s.length) : s.drop n = s.getD n 0 :: s.drop (n + 1) := by
  rw [List.drop_eq_getElem_cons h]
  simp [List.getD_eq_getElem?_getD, List.getElem?_eq_getElem h]
def p18 : Plan := ⟨[], [true, false, true, true], []⟩
theorem f18_ev (s : List UInt8) (hs : s.length ≤ 9223372036854775806) (K : List AV → Prop) (hK : K [i64 (letters s)]) : evSpec C3 Tryd.f77 [.imm (.str s)] K := by
  rw [f18_in]
  unfold LoopI
  refine loop_rule (fun n : Nat => h18 s n) (fun n => n ≤ s.length ∧ letters s = n + letters (s.drop n)) (fun n => s.length - n) (fun n hP K' hnorm hexit => ?_) rfl 0 p18 _ ⟨Nat.zero_le _, by simp⟩ (by kernel_rfl)
  obtain ⟨hle, hl⟩ := hP
  rw [f18_lp]
  refine ⟨fun _ => by omega, fun h => by simpa using h, brn_intro (fun h => ?_) (fun h => ?_)⟩
  · simp only [Bool.and_eq_true, decide_eq_true_eq, Int.toNat_natCast] at h
    have hlt : n < s.length := by omega
    have e : IntKind.wrap .i64 ((n : Int) + 1) = ((n + 1 : Nat) : Int) := by rw [wrap64 (by omega) (by omega)]; first | done | rfl
    refine hnorm (n + 1) p18 _ ⟨hlt, ?_⟩ (by omega) (by rw [← e]; kernel_rfl)
    rw [hl, getD_drop hlt]
    have : alphaB (s.getD n 0) = true := h.2
    simp only [letters, List.takeWhile_cons, this, if_true, List.length_cons]
    omega
  · refine hexit _ _ (by simp) ?_
    have hz : letters (s.drop n) = 0 := by
      by_cases hlt : n < s.length
      · have h2 : alphaB (s.getD n 0) = false := by
          simp only [Bool.and_eq_false_iff, decide_eq_false_iff_not, Int.toNat_natCast] at h
          rcases h with h | h
          · omega
          · exact h
        rw [getD_drop hlt]
        rw [letters, List.takeWhile_cons, h2]; first | done | rfl
      · rw [List.drop_eq_nil_of_le (by omega)]; first | done | rfl
    rw [hl, hz] at hK
    exact Eq.mp (by kernel_rfl) hK
theorem getD_at {s : List UInt8} {n : Nat} (h : n < s.length) (p : UInt8 → Bool) : (s.drop n).all p = (p (s.getD n 0) && (s.drop (n + 1)).all p) := by
  rw [getD_drop h, List.all_cons]
def p11 : Plan := ⟨[], [true, false, true, true], []⟩
theorem goodB_eq (b : UInt8) : (!isAlpha (b.toNat : Int) && (decide ((b.toNat : Int) < 48) || decide ((b.toNat : Int) > 57)) && (b.toNat : Int) != 43 && (b.toNat : Int) != 45) = !goodB b := by
  unfold goodB alphaB
  cases isAlpha (b.toNat : Int) with
  | true => simp
  | false =>
    rw [Bool.eq_iff_iff]
    simp only [Bool.not_false, Bool.true_and, Bool.false_or, Bool.and_eq_true, Bool.or_eq_true, decide_eq_true_eq, bne_iff_ne, ne_eq, Bool.not_eq_true', Bool.or_eq_false_iff, Bool.and_eq_false_iff, decide_eq_false_iff_not, beq_eq_false_iff_ne]
    omega
theorem f11_ev (s : List UInt8) (hs : s.length ≤ 9223372036854775807) (K : List AV → Prop) (hK : K [bo (valid s)]) : evSpec C2 Tryd.f76 [.imm (.str s)] K := by
  rw [f11_in]
  unfold LoopI
  refine loop_rule (fun n : Nat => h11 s n) (fun n => n ≤ s.length ∧ s.all goodB = (s.drop n).all goodB) (fun n => s.length - n) (fun n hP K' hnorm hexit => ?_) rfl 0 p11 _ ⟨Nat.zero_le _, by simp⟩ (by kernel_rfl)
  obtain ⟨hle, hl⟩ := hP
  rw [f11_lp (hc := rfl)]
  refine brn_intro (fun h => ?_) (fun h => ?_)
  · have hlt : n < s.length := by simpa using h
    refine ⟨by omega, by omega, ?_⟩
    rw [getD_at hlt] at hl
    refine brn_intro (fun h => ?_) (fun h => ?_)
    · refine hexit _ _ (by simp) ?_
      rw [goodB_eq, Int.toNat_natCast, Bool.not_eq_true'] at h
      have hv : valid s = false := by unfold valid; rw [hl, h]; first | done | rfl
      rw [hv] at hK
      exact Eq.mp (by kernel_rfl) hK
    · rw [goodB_eq, Int.toNat_natCast, Bool.not_eq_false'] at h
      have e : IntKind.wrap .i64 ((n : Int) + 1) = ((n + 1 : Nat) : Int) := by rw [wrap64 (by omega) (by omega)]; first | done | rfl
      refine hnorm (n + 1) p11 _ ⟨hlt, ?_⟩ (by omega) (by rw [← e]; kernel_rfl)
      rw [hl, h, Bool.true_and]
  · have hge : ¬ n < s.length := by simpa using h
    refine hexit _ _ (by simp) ?_
    have hv : valid s = (decide ((s.length : Int) ≥ 3) && decide ((s.length : Int) ≤ 255)) := by
      unfold valid
      rw [hl, List.drop_eq_nil_of_le (by omega), List.all_nil, Bool.true_and]
      congr 1 <;> rw [Bool.eq_iff_iff] <;> simp <;> omega
    rw [hv] at hK
    exact Eq.mp (by kernel_rfl) hK
theorem rune_low {s : List UInt8} {n : Nat} (h : n < s.length) (hb : (s.getD n 0).toNat < 128) : runeAt s n = (((s.getD n 0).toNat : Int), 1) := by
  have hg : s.getD n 0 = s[n] := by simp [List.getD_eq_getElem?_getD, List.getElem?_eq_getElem h]
  have hsz : n < (⟨s.toArray⟩ : ByteArray).size := by simpa [ByteArray.size] using h
  have he : (⟨s.toArray⟩ : ByteArray)[n]'hsz = s[n] := by
    show s.toArray[n] = s[n]
    simp
  unfold runeAt
  rw [decode_ascii ⟨s.toArray⟩ n hsz (by rw [he, ← hg]; exact hb), he, hg]
theorem rune_high {s : List UInt8} {n : Nat} (h : n < s.length) (hb : ¬ (s.getD n 0).toNat < 128) : 128 ≤ (runeAt s n).1 := by
  have hg : s.getD n 0 = s[n] := by simp [List.getD_eq_getElem?_getD, List.getElem?_eq_getElem h]
  have hsz : n < (⟨s.toArray⟩ : ByteArray).size := by simpa [ByteArray.size] using h
  have he : (⟨s.toArray⟩ : ByteArray)[n]'hsz = s[n] := by
    show s.toArray[n] = s[n]
    simp
  have := (decode_high ⟨s.toArray⟩ n hsz (by rw [he, ← hg]; omega)).1
  unfold runeAt
  simp only
  omega
theorem alphaB_high {b : UInt8} (hb : ¬ b.toNat < 128) : alphaB b = false := by
  unfold alphaB isAlpha
  simp
  omega
theorem goodB_high {b : UInt8} (hb : ¬ b.toNat < 128) : goodB b = false := by
  unfold goodB
  rw [alphaB_high hb]
  simp
  omega
theorem wrap_low {n : Nat} (h : n < 128) : IntKind.wrap .u8 (n : Int) = n := by
  have := IntKind.wrap_u8 n
  rw [show IntKind.wrap .u8 (n : Int) = IntKind.u8.wrap n from rfl, this]; omega
theorem allowed_rune {s : List UInt8} {n : Nat} (h : n < s.length) : allowed (runeAt s n).1 = goodB (s.getD n 0) := by
  by_cases hb : (s.getD n 0).toNat < 128
  · rw [rune_low h hb]
    unfold allowed goodB alphaB
    simp only [wrap_low hb]
    generalize isAlpha _ = x
    generalize (s.getD n 0).toNat = m at hb
    rw [Bool.eq_iff_iff]
    cases x <;> simp <;> omega
  · have hr := rune_high h hb
    rw [goodB_high hb]
    unfold allowed
    simp
    omega
def p10 : Plan := ⟨[], [true, false, true, false, false, true, true], [0]⟩
theorem f10_ev (s : List UInt8) (K : List AV → Prop) (hK : K [bo (valid s)]) : evSpec C2 Tryd.f52 [.imm (.str s)] K := by
  rw [f10_in]
  unfold LoopI
  refine loop_rule (fun n : Nat => h10 s n) (fun n => s.all goodB = (s.drop n).all goodB) (fun n => s.length - n) (fun n hl K' hnorm hexit => ?_) rfl 0 p10 _ (by simp) (by kernel_rfl)
  rw [f10_lp]
  refine brn_intro (fun h => ?_) (fun h => ?_)
  · have hlt : n < s.length := by simpa using h
    rw [getD_at hlt] at hl
    refine brn_intro (fun h => ?_) (fun h => ?_)
    · refine hexit _ _ (by simp) ?_
      rw [allowed_rune hlt, Bool.not_eq_true'] at h
      have hv : valid s = false := by unfold valid; rw [hl, h]; first | done | rfl
      rw [hv] at hK
      exact Eq.mp (by kernel_rfl) hK
    · rw [allowed_rune hlt, Bool.not_eq_false'] at h
      have hb : (s.getD n 0).toNat < 128 := by
        by_cases hb : (s.getD n 0).toNat < 128
        · exact hb
        · rw [goodB_high hb] at h; cases h
      have e : n + (runeAt s n).2 = n + 1 := by rw [rune_low hlt hb]
      refine hnorm (n + 1) p10 _ ?_ (by omega) (by rw [← e]; kernel_rfl)
      rw [hl, h, Bool.true_and]
  · have hge : ¬ n < s.length := by simpa using h
    refine hexit _ _ (by simp) ?_
    have hv : valid s = (decide ((s.length : Int) ≥ 3) && decide ((s.length : Int) ≤ 255)) := by
      unfold valid
      rw [hl, List.drop_eq_nil_of_le (by omega), List.all_nil, Bool.true_and]
      congr 1 <;> rw [Bool.eq_iff_iff] <;> simp <;> omega
    rw [hv] at hK
    exact Eq.mp (by kernel_rfl) hK
theorem ok10 : ∀ args pres res, sValid args = some (pres, res) → SpecOK Tryd.prog G0 52 args pres res := by
  intro args pres res h
  unfold sValid at h
  split at h
  case h_2 => cases h
  cases h
  exact mk okE2 at10 (by decide) rfl (fun _ K hK => f10_ev _ K hK)
theorem ok11 : ∀ args pres res, sValid args = some (pres, res) → SpecOK Tryd.prog G0 76 args pres res := by
  intro args pres res h
  unfold sValid at h
  split at h
  case h_2 => cases h
  cases h
  exact mk okE2 at11 (by decide) rfl (fun hp K hK => f11_ev _ (hp _ (by simp)) K hK)
theorem okE3 : EOK Tryd.prog E3 G0 := addE_ok (addE_ok okE2 ok10) ok11
theorem ok18 : ∀ args pres res, sLetters args = some (pres, res) → SpecOK Tryd.prog G0 77 args pres res := by
  intro args pres res h
  unfold sLetters at h
  split at h
  case h_2 => cases h
  cases h
  exact mk okE3 at18 (by decide) rfl (fun hp K hK => f18_ev _ (hp _ (by simp)) K hK)
theorem pfx_len {s t : List UInt8} (h : pfx s t = true) : t.length ≤ s.length := by
  rw [pfx_eq] at h
  simp at h
  exact h.1
theorem ok21 : ∀ args pres res, sCut args = some (pres, res) → SpecOK Tryd.prog G0 87 args pres res := by
  intro args pres res h
  unfold sCut at h
  split at h
  case h_2 => cases h
  cases h
  rename_i s t
  refine mk okE3 at21 (by decide) rfl (fun _ K hK => ?_)
  rw [show cx E3 = C3 from rfl, f21_in]
  unfold bo st at hK
  refine brn_intro (fun h => ?_) (fun h => ?_)
  · rw [Bool.not_eq_true'] at h
    rw [h] at hK
    exact hK
  · rw [Bool.not_eq_false'] at h
    have hl := pfx_len h
    refine ⟨by omega, by omega, ?_⟩
    rw [h] at hK
    have e : List.take (s.length - Int.toNat (t.length : Int)) (List.drop (Int.toNat (t.length : Int)) s) = s.drop t.length := by
      rw [Int.toNat_natCast, List.take_of_length_le (by simp)]
    rw [e]
    exact hK
def E3b := addE (addE E3 77 sLetters) 87 sCut
theorem okE3b : EOK Tryd.prog E3b G0 := addE_ok (addE_ok okE3 ok18) ok21
theorem f16_in (s t : List UInt8) (K : List AV → Prop) : evSpec (cx E3b) Tryd.f67 [.imm (.str s), .imm (.str t)] K = K [st (if pfx s t then s.drop t.length else s), bo (pfx s t)] := by kernel_rfl
theorem ok16 : ∀ args pres res, sCut args = some (pres, res) → SpecOK Tryd.prog G0 67 args pres res := by
  intro args pres res h
  unfold sCut at h
  split at h
  case h_2 => cases h
  cases h
  exact mk okE3b at16 (by decide) rfl (fun _ K hK => by rw [f16_in]; exact hK)
theorem okE4 : EOK Tryd.prog E4 G0 := addE_ok okE3b ok16
end P7
set_option maxRecDepth 100000
namespace P7
open Go Go.AE Go.Proofs
theorem f8_out (s : List UInt8) (i : Int) (K : List AV → Prop) : loopK C4 (bodyOf Tryd.f47) (0 : Nat) (finK C4 Tryd.f47 K) (AX.exit (0 : Nat)) (St.mk (let y := let y := let y := [.dead, .dead, .dead, .dead, .dead, .dead]; AV.opt [((29 : Nat), true)] (.imm (.bool (isAlpha (↑(UInt8.toNat (List.getD s i.toNat (0 : UInt8))) : Int)))) :: AV.imm (.bool (decide (i < (s.length : Int)) && isAlpha (↑(UInt8.toNat (List.getD s i.toNat (0 : UInt8))) : Int))) :: AV.dead :: AV.dead :: AV.dead :: AV.dead :: y; let y := AV.imm (.int .i64 (s.length : Int)) :: AV.imm (.bool (decide (i < (s.length : Int)))) :: AV.imm (.bool (decide (i < (s.length : Int)))) :: AV.opt [((29 : Nat), true)] (.imm (.str s)) :: AV.opt [((29 : Nat), true)] (.imm (.int .i64 i)) :: AV.opt [((29 : Nat), true)] (.imm (.int .u8 (↑(UInt8.toNat (List.getD s i.toNat (0 : UInt8))) : Int))) :: y; AV.dead :: AV.dead :: AV.dead :: AV.imm (.int .i64 i) :: AV.imm (.str s) :: y; let y := let y := AV.dead :: AV.dead :: AV.dead :: AV.dead :: AV.dead :: AV.dead :: y; AV.dead :: AV.dead :: AV.dead :: AV.dead :: AV.dead :: y; let y := AV.imm (.str []) :: AV.imm (.int .i64 i) :: AV.dead :: AV.dead :: AV.dead :: AV.dead :: y; AV.imm (.str s) :: AV.dead :: AV.imm (.str []) :: AV.imm (.int .i64 0) :: AV.imm (.bool false) :: y) [] (0 : Nat) []) = ((0 : Int) ≤ i ∧ i ≤ (s.length : Int) ∧ (List.take (i.toNat - 0) (List.drop (0 : Nat) s)).length ≤ 9223372036854775807 ∧ brn (!valid (List.take (i.toNat - 0) (List.drop (0 : Nat) s))) (K [.imm (.str []), .imm (.int .i64 0), .imm (.bool false)]) (K [.imm (.str (List.take (i.toNat - 0) (List.drop (0 : Nat) s))), .imm (.int .i64 i), .imm (.bool true)])) := by kernel_rfl
theorem f9_out (s : List UInt8) (i : Int) (K : List AV → Prop) : loopK C4 (bodyOf Tryd.f56) (0 : Nat) (finK C4 Tryd.f56 K) (AX.exit (0 : Nat)) (St.mk (let y := let y := let y := [.dead, .dead, .dead, .dead, .dead, .dead]; AV.dead :: AV.dead :: AV.dead :: AV.dead :: AV.dead :: AV.dead :: y; let y := AV.dead :: AV.dead :: AV.dead :: AV.dead :: AV.dead :: AV.dead :: y; AV.dead :: AV.dead :: AV.dead :: AV.dead :: AV.dead :: y; let y := let y := AV.imm (.int .i64 (s.length : Int)) :: AV.imm (.bool (decide (i < (s.length : Int)))) :: AV.dead :: AV.dead :: AV.dead :: AV.dead :: y; AV.dead :: AV.dead :: AV.dead :: AV.dead :: AV.imm (.int .i64 i) :: AV.imm (.str s) :: y; let y := AV.imm (.int .i64 i) :: AV.dead :: AV.dead :: AV.dead :: AV.dead :: AV.dead :: y; AV.imm (.str s) :: AV.dead :: AV.imm (.str []) :: AV.imm (.int .i64 0) :: AV.imm (.bool false) :: y) [] (0 : Nat) []) = (K [.imm (.str []), .imm (.int .i64 0), .imm (.bool false)]) := by kernel_rfl
attribute [local irreducible] evCode evSpec loopB loopK norm
theorem letters_le (s : List UInt8) : letters s ≤ s.length := by unfold letters; exact (List.takeWhile_sublist _).length_le
theorem pfx60 (s : List UInt8) : (∃ r, s = 60 :: r ∧ pfx s [60] = true) ∨ (pfx s [60] = false ∧ parse s = parseP s) := by
  cases s with
  | nil => exact .inr ⟨rfl, rfl⟩
  | cons b r =>
    by_cases h : b = 60
    · subst h; exact .inl ⟨r, rfl, by simp [pfx]⟩
    · right
      refine ⟨by
        rw [pfx_eq]
        simp [h], by simp [parse, h]⟩
def p8 : Plan := ⟨[], [true, false, true, true, true, true, true], []⟩
theorem f8_ev (s : List UInt8) (hs : s.length ≤ 9223372036854775800) (K : List AV → Prop) (hK : K [st (parse s).1, i64 (parse s).2.1, bo (parse s).2.2]) : evSpec C4 Tryd.f47 [.imm (.str s)] K := by
  rw [f8_in]
  unfold st i64 bo at hK
  refine brn_intro (fun h => ?_) (fun h => ?_)
  · rcases pfx60 s with ⟨r, rfl, hp⟩ | ⟨hp, _⟩
    case inr => rw [hp] at h; cases h
    have e : (if pfx (60 :: r) [60] = true then List.drop (List.length [(60 : UInt8)]) (60 :: r) else (60 :: r)) = r := by rw [if_pos hp]; first | done | rfl
    simp only [e]
    have hpar : parse (60 :: r) = parseQ r := by simp [parse]
    rw [hpar] at hK
    simp only [List.length_cons] at hs
    refine ⟨by decide, by decide, ?_⟩
    have hidx : idx r 62 = if place r 62 < r.length then (place r 62 : Int) else -1 := rfl
    rw [hidx]
    unfold parseQ at hK
    by_cases hl : place r 62 < r.length
    · rw [if_pos hl] at hK ⊢
      simp only [Int.toNat_natCast, Nat.sub_zero, List.drop_zero]
      refine brn_intro (fun h => ?_) (fun _ => ?_)
      · simp at h; omega
      refine ⟨by omega, by omega, by simp; omega, ?_⟩
      refine brn_intro (fun h => ?_) (fun h => ?_)
      · rw [Bool.not_eq_true'] at h
        rw [h] at hK
        exact hK
      · rw [Bool.not_eq_false'] at h
        rw [h, if_pos rfl] at hK
        rw [wrap64 (by omega) (by omega)]
        exact hK
    · rw [if_neg hl] at hK ⊢
      exact hK
  · rcases pfx60 s with ⟨r, rfl, hp⟩ | ⟨hp, hpar⟩
    · rw [hp] at h; cases h
    rw [hpar] at hK
    unfold parseP at hK
    unfold LoopI
    refine loop_rule (fun n : Nat => h8 s n) (fun n => n ≤ s.length ∧ letters s = n + letters (s.drop n)) (fun n => s.length - n) (fun n hP K' hnorm hexit => ?_) rfl 0 p8 _ ⟨Nat.zero_le _, by simp⟩ (by kernel_rfl)
    obtain ⟨hle, hl⟩ := hP
    rw [f8_lp]
    refine ⟨fun _ => by omega, fun h => by simpa using h, brn_intro (fun h => ?_) (fun h => ?_)⟩
    · simp only [Bool.and_eq_true, decide_eq_true_eq, Int.toNat_natCast] at h
      have hlt : n < s.length := by omega
      have e : IntKind.wrap .i64 ((n : Int) + 1) = ((n + 1 : Nat) : Int) := by rw [wrap64 (by omega) (by omega)]; first | done | rfl
      refine hnorm (n + 1) p8 _ ⟨hlt, ?_⟩ (by omega) (by rw [← e]; kernel_rfl)
      rw [hl, getD_drop hlt]
      have : alphaB (s.getD n 0) = true := h.2
      simp only [letters, List.takeWhile_cons, this, if_true, List.length_cons]
      omega
    · refine hexit _ _ (by simp) ?_
      have hz : letters (s.drop n) = 0 := by
        by_cases hlt : n < s.length
        · have h2 : alphaB (s.getD n 0) = false := by
            simp only [Bool.and_eq_false_iff, decide_eq_false_iff_not, Int.toNat_natCast] at h
            rcases h with h | h
            · omega
            · exact h
          rw [getD_drop hlt]
          rw [letters, List.takeWhile_cons, h2]; first | done | rfl
        · rw [List.drop_eq_nil_of_le (by omega)]; first | done | rfl
      have hn : letters s = n := by omega
      rw [hn] at hK
      refine Eq.mpr (f8_out s (n : Int) K) ?_
      refine ⟨by omega, by omega, by simp; omega, ?_⟩
      simp only [Int.toNat_natCast, Nat.sub_zero, List.drop_zero]
      refine brn_intro (fun h => ?_) (fun h => ?_)
      · rw [Bool.not_eq_true'] at h
        rw [h] at hK
        exact hK
      · rw [Bool.not_eq_false'] at h
        rw [h, if_pos rfl] at hK
        exact hK
def p9 : Plan := ⟨[], [true, false, true, true, true, true], []⟩
theorem place_cons (b : UInt8) (r : List UInt8) (c : UInt8) : place (b :: r) c = if b = c then 0 else place r c + 1 := by
  unfold place
  by_cases h : b = c <;> simp [List.takeWhile_cons, h]
theorem parse60 (r : List UInt8) : parse (60 :: r) = parseQ r := by simp [parse]
theorem t60 : (60 : UInt8).toNat = 60 := rfl
theorem t62 : (62 : UInt8).toNat = 62 := rfl
theorem f9_ev (s : List UInt8) (hs : s.length ≤ 9223372036854775800) (K : List AV → Prop) (hK : K [st (parse s).1, i64 (parse s).2.1, bo (parse s).2.2]) : evSpec C4 Tryd.f56 [.imm (.str s)] K := by
  rw [f9_in]
  unfold st i64 bo at hK
  refine ⟨fun _ => by omega, fun h => by simpa using h, brn_intro (fun h => ?_) (fun h => ?_)⟩
  · obtain ⟨r, rfl⟩ : ∃ r, s = 60 :: r := by
      cases s with
      | nil => simp at h
      | cons b r =>
        simp at h
        exact ⟨r, by rw [show b = 60 from UInt8.toNat_inj.1 (by rw [t60]; omega)]⟩
    clear h
    rw [parse60] at hK
    simp only [List.length_cons] at hs
    unfold LoopI
    refine loop_rule (fun m : Nat => h9 (60 :: r) ((m + 1 : Nat) : Int)) (fun m => m ≤ r.length ∧ place r 62 = m + place (r.drop m) 62) (fun m => r.length - m) (fun m hP K' hnorm hexit => ?_) rfl 0 p9 _ ⟨Nat.zero_le _, by simp⟩ (by kernel_rfl)
    obtain ⟨hle, hl⟩ := hP
    rw [f9_lp]
    refine brn_intro (fun h => ?_) (fun h => ?_)
    · have hlt : m < r.length := by simp at h; omega
      rw [getD_drop hlt, place_cons] at hl
      have hg : (60 :: r).getD ((m + 1 : Nat) : Int).toNat 0 = r.getD m 0 := by rw [Int.toNat_natCast, List.getD_cons_succ]
      have hcut : List.take (Int.toNat ((m + 1 : Nat) : Int) - Int.toNat 1) (List.drop (Int.toNat 1) (60 :: r)) = r.take m := by
        rw [Int.toNat_natCast]; first | done | rfl
      rw [hg]
      refine ⟨by omega, by simp; omega, brn_intro (fun h => ?_) (fun h => ?_)⟩
      · have h62 : r.getD m 0 = 62 := by
          have h' : ((r.getD m 0).toNat : Int) = 62 := beq_iff_eq.1 h
          exact UInt8.toNat_inj.1 (by rw [t62]; omega)
        rw [h62, if_pos rfl] at hl
        have hpl : place r 62 = m := by omega
        unfold parseQ at hK
        rw [hpl, if_pos hlt] at hK
        refine ⟨by omega, by omega, by simp; omega, by rw [hcut]; simp; omega, brn_intro (fun h => ?_) (fun h => ?_)⟩
        · rw [hcut, Bool.not_eq_true'] at h
          rw [h] at hK
          refine hexit _ _ (by simp) ?_
          exact Eq.mp (by kernel_rfl) hK
        · rw [hcut, Bool.not_eq_false'] at h
          rw [h, if_pos rfl] at hK
          refine ⟨by omega, by omega, by simp; omega, ?_⟩
          refine hexit _ _ (by simp) ?_
          have e2 : IntKind.wrap .i64 (((m + 1 : Nat) : Int) + 1) = (m : Int) + 2 := by rw [wrap64 (by omega) (by omega)]; omega
          simp only [] at hK
          rw [← hcut, ← e2] at hK
          exact Eq.mp (by kernel_rfl) hK
      · have h62 : r.getD m 0 ≠ 62 := by
          intro e
          rw [e] at h
          simp at h
        rw [if_neg h62] at hl
        have e : IntKind.wrap .i64 (((m + 1 : Nat) : Int) + 1) = ((m + 1 + 1 : Nat) : Int) := by rw [wrap64 (by omega) (by omega)]; omega
        refine hnorm (m + 1) p9 _ ⟨hlt, by omega⟩ (by omega) (by rw [← e]; kernel_rfl)
    · have hge : ¬ m < r.length := by simp at h; omega
      refine hexit _ _ (by simp) ?_
      refine Eq.mpr (f9_out _ _ K) ?_
      unfold parseQ at hK
      rw [hl, List.drop_eq_nil_of_le (by omega)] at hK
      have : place [] 62 = 0 := rfl
      rw [this, if_neg (by omega)] at hK
      exact hK
  · have hpar : parse s = parseP s := by
      cases s with
      | nil => rfl
      | cons b r =>
        by_cases hb : b = 60
        · subst hb; simp at h
        · simp [parse, hb]
    rw [hpar] at hK
    unfold parseP at hK
    have hle := letters_le s
    refine ⟨by omega, by omega, by omega, by simp; omega, ?_⟩
    simp only [Int.toNat_natCast, Nat.sub_zero, List.drop_zero]
    refine brn_intro (fun h => ?_) (fun h => ?_)
    · rw [Bool.not_eq_true'] at h
      rw [h] at hK
      exact hK
    · rw [Bool.not_eq_false'] at h
      rw [h, if_pos rfl] at hK
      exact ⟨by omega, by omega, hK⟩
theorem ok8 : ∀ args pres res, sParse args = some (pres, res) → SpecOK Tryd.prog G0 47 args pres res := by
  intro args pres res h
  unfold sParse at h
  split at h
  case h_2 => cases h
  cases h
  exact mk okE4 at8 (by decide) rfl (fun hp K hK => f8_ev _ (hp _ (by simp)) K hK)
theorem ok9 : ∀ args pres res, sParse args = some (pres, res) → SpecOK Tryd.prog G0 56 args pres res := by
  intro args pres res h
  unfold sParse at h
  split at h
  case h_2 => cases h
  cases h
  exact mk okE4 at9 (by decide) rfl (fun hp K hK => f9_ev _ (hp _ (by simp)) K hK)
theorem okE5 : EOK Tryd.prog E5 G0 := addE_ok (addE_ok okE4 ok8) ok9
end P7
