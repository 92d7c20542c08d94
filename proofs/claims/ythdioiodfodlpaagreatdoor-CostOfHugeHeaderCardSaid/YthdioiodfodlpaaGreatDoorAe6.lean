/- For every header, byte slice and number the law CostOfHugeHeader returns true and its arguments read as before. No further condition. -/
import Derived.Test.YthdioiodfodlpaaGreatDoorAe5
import Derived.ProofKit
import Derived.WideKeyArgs
import Derived.SizedLaws
import Derived.ChangeSlices
import Derived.Test.YthdioiodfodlpaaGreatDoorRows
import Derived.Test.YthdioiodfodlpaaGreatDoorTie
import Derived.Test.YthdioiodfodlpaaGreatDoorCards
import Derived.LaidMore
import Derived.LaidHandle
import Derived.LaidLaws
import Derived.OpenShut
import Derived.Stop.Joined
import Derived.SevenTiedAt
import Derived.KernelRfl
set_option linter.all false
namespace Go.AE
open Go.ChangeShapes Go.WideShapes Go.ChangeAt Go.RowKit
section
variable {H : Type} {enc : TypeId × Value → H} {P : Program}
theorem args_stay (hl : laidOutB P = true) {W W' : World} {sp' : Nat → Bool} : ∀ {ts : List TypeId} {vs : List Value} {ds : List (DataW H)} {ps : List MemPlace},
    lall (fun t => bif P.readableRec t then decide (t < P.types.size) else false) ts = true → DataW.TrodAll enc P W 0 (fun _ => true) true ts vs ds ps → (∀ p ∈ ps, W.sameAt W' p) → (∀ p ∈ ps, sp' p.block = true) →
    DataW.TrodAll enc P W' 0 sp' true ts vs ds ps
  | [], [], [], _, _, h, _, _ => h
  | [], _ :: _, _, _, _, h, _, _ => h.elim
  | [], [], _ :: _, _, _, h, _, _ => h.elim
  | _ :: _, [], _, _, _, h, _, _ => h.elim
  | _ :: _, _ :: _, [], _, _, h, _, _ => h.elim
  | t :: ts, v :: vs, d :: ds, ps, hc, h, hs, hp => by
    obtain ⟨p, q, h1, h2, rfl⟩ := h
    rw [lall] at hc
    cases hb : (bif P.readableRec t then decide (t < P.types.size) else false) with
    | false => rw [hb] at hc; cases hc
    | true =>
      rw [hb] at hc
      cases hr : P.readableRec t with
      | false => rw [hr] at hb; cases hb
      | true =>
        rw [hr] at hb
        exact ⟨p, q, WideElems.Trod_stays hl hr (of_decide_eq_true hb) h1 (fun x hx => hs x (by simp [hx])) (fun x hx => hp x (by simp [hx])),
          args_stay hl hc h2 (fun x hx => hs x (by simp [hx])) (fun x hx => hp x (by simp [hx])), rfl⟩
end
inductive KRep : List CK → List IV → List Value → Prop
  | nil : KRep [] [] []
  | int {k : IntKind} {n : Int} {ks : List CK} {is : List IV} {vs : List Value} : InR k n → KRep ks is vs → KRep (.int k :: ks) (.int k n :: is) (.int k n :: vs)
  | bool {b : Bool} {ks : List CK} {is : List IV} {vs : List Value} : KRep ks is vs → KRep (.bool :: ks) (.bool b :: is) (.bool b :: vs)
  | str {s : ByteArray} {ks : List CK} {is : List IV} {vs : List Value} : (bytesOf s).length ≤ 9223372036854775807 → KRep ks is vs → KRep (.str :: ks) (.str (bytesOf s) :: is) (.string s :: vs)
theorem KRep.app {ks ks' : List CK} {is is' : List IV} {vs vs' : List Value} (h : KRep ks is vs) (h' : KRep ks' is' vs') : KRep (ks ++ ks') (is ++ is') (vs ++ vs') := by
  induction h with
  | nil => exact h'
  | int h1 _ ih => exact .int h1 ih
  | bool _ ih => exact .bool ih
  | str h1 _ ih => exact .str h1 ih
theorem KRep.len {ks : List CK} {is : List IV} {vs : List Value} (h : KRep ks is vs) : is.length = ks.length ∧ vs.length = ks.length := by
  induction h with
  | nil => exact ⟨rfl, rfl⟩
  | int _ _ ih => simp [ih]
  | bool _ ih => simp [ih]
  | str _ _ ih => simp [ih]
theorem KRep.cons_int {k : IntKind} {ks : List CK} {is : List IV} {vs : List Value} (h : KRep (.int k :: ks) is vs) : ∃ n is' vs', is = .int k n :: is' ∧ vs = .int k n :: vs' ∧ InR k n ∧ KRep ks is' vs' := by
  cases h with
  | int h1 h2 => exact ⟨_, _, _, rfl, rfl, h1, h2⟩
theorem KRep.cons_bool {ks : List CK} {is : List IV} {vs : List Value} (h : KRep (.bool :: ks) is vs) : ∃ b is' vs', is = .bool b :: is' ∧ vs = .bool b :: vs' ∧ KRep ks is' vs' := by
  cases h with
  | bool h2 => exact ⟨_, _, _, rfl, rfl, h2⟩
theorem KRep.end {is : List IV} {vs : List Value} (h : KRep [] is vs) : is = [] ∧ vs = [] := by
  cases h; exact ⟨rfl, rfl⟩
theorem KRep.rep {w : World} {own : Nat → Prop} {ks : List CK} {is : List IV} {vs : List Value} (h : KRep ks is vs) : ∀ (j : Nat) c, is[j]? = some c → Rep w own c (vs.getD j undef) ∧ (vs.getD j undef).oneCell' = true := by
  have one : ∀ {c : IV} {V : Value} {is : List IV} {vs : List Value}, Rep w own c V → (∀ (j : Nat) c, is[j]? = some c → Rep w own c (vs.getD j undef) ∧ (vs.getD j undef).oneCell' = true) →
      ∀ (j : Nat) c', (c :: is)[j]? = some c' → Rep w own c' ((V :: vs).getD j undef) ∧ ((V :: vs).getD j undef).oneCell' = true := by
    intro c V is vs h1 h2 j c' hc
    cases j with
    | zero => simp only [List.getElem?_cons_zero, Option.some.injEq] at hc; subst hc; exact ⟨h1, h1.oneCell⟩
    | succ j => exact h2 j c' (by simpa using hc)
  induction h with
  | nil => intro j c hc; simp at hc
  | int h1 _ ih => exact one (.int h1) ih
  | bool _ ih => exact one .bool ih
  | str h1 _ ih => exact one (.str rfl h1) ih
section
variable {H : Type} {enc : TypeId × Value → H} {P : Program} {w : World} {base : Nat} {sp : Nat → Bool} {held : Bool}
theorem inR_wf {k : IntKind} {n : Int} (h : (Lit.int k n).wf = true) : InR k n := by
  simp only [Lit.wf, Bool.and_eq_true, decide_eq_true_eq] at h
  exact ⟨by have := h.1; omega, by have := h.2; omega⟩
mutual
theorem flat_open : ∀ (d : Nat) {t : TypeId} {ks : List CK} {n : Nat} {cs : List Value} {x : DataW H × List MemPlace}, flatK P false d t = some ks → DataW.trod enc P w base sp held n t cs = some x → (∃ is, KRep ks is cs) ∧ x.2 = []
  | 0, t, ks, n, cs, x, h, _ => by simp [flatK] at h
  | d + 1, t, ks, n, cs, x, h, hx => by
    unfold flatK at h
    split at h
    · rename_i k hu
      cases h
      obtain ⟨m, rfl, rfl, hw⟩ := DataW.trod_int hu hx
      exact ⟨⟨[.int k m], .int (inR_wf hw) .nil⟩, rfl⟩
    · rename_i hu
      cases h
      obtain ⟨b, rfl, rfl⟩ := DataW.trod_bool hu hx
      exact ⟨⟨[.bool b], .bool .nil⟩, rfl⟩
    · rename_i hu
      cases h
      obtain ⟨s, rfl, rfl, hs⟩ := DataW.trod_string hu hx
      exact ⟨⟨[.str (bytesOf s)], .str (by rw [← size_bytes]; exact hs) .nil⟩, rfl⟩
    · rename_i fs hu
      obtain ⟨xs, m, rfl, rfl, hlen, hsz, hf⟩ := DataW.trod_struct hu hx
      cases hF : flatF P false d 0 fs.toList with
      | none => rw [hF] at h; cases h
      | some ks' =>
        rw [hF] at h
        cases hb : Nat.beq (llen ks') (P.cellsOf t) with
        | false => simp only [hb, cond_false] at h; cases h
        | true =>
          simp only [hb, cond_true] at h
          cases h
          have hb' := nbeq hb
          obtain ⟨⟨is, his⟩, hp⟩ := flatF_open d (o := 0) (xs := xs) (cs := cs) (n := m) hF (by simp [hsz]) (fun i f hi => hf i f (by simpa using hi))
          refine ⟨⟨is, ?_⟩, ?_⟩
          · rw [List.drop_zero, List.take_of_length_le (by rw [hlen, ← hb', llen_eq]; exact Nat.le_refl _)] at his
            exact his
          · simp only [List.flatMap_eq_nil_iff]
            exact hp
    · cases h
    · cases h
    · cases h
theorem flatF_open : ∀ (d : Nat) {o : Nat} {fs : List Field} {ks : List CK} {n : Nat} {cs : List Value} {xs : List (DataW H × List MemPlace)}, flatF P false d o fs = some ks → xs.length = fs.length →
    (∀ (i : Nat) (f : Field), fs[i]? = some f → DataW.trod enc P w base sp held n f.type ((cs.drop f.offset).take (P.cellsOf f.type)) = xs[i]?) → (∃ is, KRep ks is ((cs.drop o).take ks.length)) ∧ ∀ x ∈ xs, x.2 = []
  | 0, o, fs, ks, n, cs, xs, h, _, _ => by simp [flatF] at h
  | d + 1, o, [], ks, n, cs, xs, h, hl, _ => by
    simp only [flatF] at h
    cases h
    have : xs = [] := by simpa using hl
    subst this
    exact ⟨⟨[], by simpa using KRep.nil⟩, fun x hx => by cases hx⟩
  | d + 1, o, f :: r, ks, n, cs, xs, h, hl, hf => by
    unfold flatF at h
    cases hK : flatK P false d f.type with
    | none => rw [hK] at h; cases h
    | some k1 =>
      rw [hK] at h
      cases hb : Nat.beq f.offset o with
      | false => simp only [hb, cond_false] at h; cases h
      | true =>
        simp only [hb, cond_true] at h
        cases hb2 : Nat.beq (llen k1) (P.cellsOf f.type) with
        | false => simp only [hb2, cond_false] at h; cases h
        | true =>
          simp only [hb2, cond_true] at h
          cases hF : flatF P false d (o + llen k1) r with
          | none => rw [hF] at h; cases h
          | some k2 =>
            rw [hF] at h
            simp only [omap, Option.some.injEq] at h
            subst h
            match xs, hl with
            | x :: xs, hl =>
              have h0 := hf 0 f rfl
              have e1 := nbeq hb
              have e2 := nbeq hb2
              obtain ⟨⟨i1, hi1⟩, hp1⟩ := flat_open d hK (by simpa using h0)
              obtain ⟨⟨i2, hi2⟩, hp2⟩ := flatF_open d (n := n) (cs := cs) (xs := xs) hF (by simpa using hl) (fun i f hi => by simpa using hf (i + 1) f (by simpa using hi))
              refine ⟨⟨i1 ++ i2, ?_⟩, ?_⟩
              · rw [lapp_eq, List.length_append]
                have : (cs.drop o).take (k1.length + k2.length) = ((cs.drop o).take k1.length) ++ ((cs.drop (o + k1.length)).take k2.length) := by
                  rw [List.take_add, List.drop_drop]
                rw [this]
                have h3 : KRep k1 i1 ((cs.drop o).take k1.length) := by
                  rw [← llen_eq, e2, ← e1]; exact hi1
                refine h3.app ?_
                rw [llen_eq] at hi2
                exact hi2
              · intro y hy
                rcases List.mem_cons.1 hy with rfl | hy
                · exact hp1
                · exact hp2 y hy
end
end
theorem bool_calls {P : Program} {G : Nat → Option (List AV)} {f : FuncId} {args : List AV} {pres : List Prop} {b : Bool} (h : SpecOK P G f args pres [.imm (.bool b)]) (hp : ∀ p, p ∈ pres → p) (w : World) (vals : Array Value) (hs : vals.size = args.length)
    (ha : ∀ (j : Nat) c, args[j]? = some c → ARep (zeroGh w (fun _ => False)) c (vals.getD j undef)) (hG : GOK G w (fun _ => False)) : Calls P f vals w fun e w' => e = .returned (.bool b) ∧ RowKit.Below w.heap.size w w' := by
  refine (h.calls hp w (fun _ => False) vals (fun _ h => h.elim) hs ha hG).mono ?_
  rintro e w' ⟨Vs, bs, rfl, hb, hr, _⟩
  refine ⟨?_, hb⟩
  cases hr with
  | one _ h1 _ h2 =>
    cases h2
    cases h1 with
    | imm h3 _ =>
      have := rep_bool h3
      subst this
      rfl
theorem post_of_below {H : Type} {enc : TypeId × Value → H} {P : Program} {f : Func} {s : ChangeSpec} {apart fresh handsOn again : Bool} {W W' : World} {args : Array Value} {v : Value} {ds gs : List (DataW H)} {before pa pv : List MemPlace}
    (hW : DataW.Whole enc P f.params.toList s.vars apart W args.toList ds gs before)
    (hres : ∀ (b : Nat) (sp : Nat → Bool) (hd : Bool), DataW.TrodAll enc P W' b sp hd f.resultTypes.toList (v.resultList f.resultTypes.size) (s.fn H (ds ++ gs)).results [])
    (hargs : ∀ sp : Nat → Bool, (∀ p ∈ before, sp p.block = true) → DataW.TrodAll enc P W' 0 sp true f.params.toList args.toList (s.fn H (ds ++ gs)).args pa)
    (hvars : ∀ sp : Nat → Bool, (∀ p ∈ before, sp p.block = true) → DataW.TrodVars enc P W' sp s.vars (s.fn H (ds ++ gs)).vars pv)
    (hps : before = pa ++ pv) (hb : Below W.heap.size W W')
    (hok : ∀ (j : Nat) (t : TypeId) (r : Value), f.resultTypes[j]? = some t → (v.resultList f.resultTypes.size)[j]? = some r → Value.okWide P W' .any 0 t r) :
    s.post enc P f apart fresh handsOn again W args v W' := by
  have hold : ∀ p ∈ before, (fun b => decide (b < W.heap.size)) p.block = true := fun p hp => by simpa using hW.lt p hp
  have hlt : ∀ p ∈ before, p.block < W.heap.size := fun p hp => hW.lt p hp
  refine ⟨ds, gs, before, [], pa, pv, hW, hres _ _ _, hargs _ hold, hvars _ hold, World.keptBut_mono (fun p hp => ⟨hp, ?_⟩) (hb.frame (· ∈ before)), fun _ => ?_⟩
  · rw [hps, List.mem_append] at hp
    exact Or.inr hp
  · obtain ⟨_, _, _, _, _, hz, hn⟩ := hW
    refine ⟨hok, _, _, ([] ++ pa) ++ pv, ⟨[] ++ pa, pv, trodAll_append (hargs _ (fun _ _ => rfl)) (hres _ _ _), hvars _ (fun _ _ => rfl), rfl, ?_, ?_⟩, ?_⟩
    · intro b off hp
      have hp' : MemPlace.cell b off ∈ before := by rw [hps]; simpa using hp
      rw [World.frozen?_of_block (hb.block _ (hlt _ hp'))]
      exact hz b off hp'
    · intro ha
      have := hn ha
      rw [hps] at this
      simpa using this
    · intro p hp _
      rw [hps]
      simpa using hp
section
variable {H : Type} {enc : TypeId × Value → H} {P : Program} {w : World}
theorem all_cons {base : Nat} {sp : Nat → Bool} {held : Bool} {t : TypeId} {ts : List TypeId} {vs : List Value} {ds : List (DataW H)} {ps : List MemPlace} (h : DataW.TrodAll enc P w base sp held (t :: ts) vs ds ps) :
    ∃ v vs' d ds' p q, vs = v :: vs' ∧ ds = d :: ds' ∧ DataW.Trod enc P w base sp held t v d p ∧ DataW.TrodAll enc P w base sp held ts vs' ds' q ∧ ps = p ++ q := by
  match vs, ds, h with
  | v :: vs', d :: ds', h =>
    obtain ⟨p, q, h1, h2, h3⟩ := h
    exact ⟨v, vs', d, ds', p, q, rfl, rfl, h1, h2, h3⟩
theorem all_nil {base : Nat} {sp : Nat → Bool} {held : Bool} {vs : List Value} {ds : List (DataW H)} {ps : List MemPlace} (h : DataW.TrodAll enc P w base sp held [] vs ds ps) : vs = [] ∧ ds = [] ∧ ps = [] := by
  match vs, ds, h with
  | [], [], h => exact ⟨rfl, rfl, h⟩
theorem open_flat {r : Reach} {b0 base : Nat} {sp : Nat → Bool} {held : Bool} {t : TypeId} {fs : Array Field} {ks : List CK} {v : Value} {d : DataW H} {ps : List MemPlace} (hu : P.underlying t = some (.struct fs)) (hk : flatK P false 40 t = some ks)
    (hval : Value.okWide P w r b0 t v) (hd : DataW.Trod enc P w base sp held t v d ps) : ∃ is l, v = .agg ⟨l⟩ ∧ KRep ks is l := by
  obtain ⟨⟨l⟩, rfl, _⟩ := okWide_struct hu hval
  obtain ⟨fuel, hf⟩ := hd
  obtain ⟨⟨is, h⟩, _⟩ := flat_open 40 hk hf
  exact ⟨is, l, rfl, h⟩
theorem KRep.arep {g : Gh} {ks : List CK} {is : List IV} {vs : List Value} (h : KRep ks is vs) : ARep g (.agg (lmap .imm is)) (.agg ⟨vs⟩) := by
  have hl := h.len
  have e : ∀ j, (⟨vs⟩ : Array Value).getD j undef = vs.getD j undef := fun j => by simp [Array.getD_eq_getD_getElem?, List.getD_eq_getElem?_getD]
  refine .agg (by rw [lmap_eq]; simp [hl]) (fun j c hc => ?_) (fun j hj => ?_)
  · rw [lmap_eq, List.getElem?_map] at hc
    cases hi : is[j]? with
    | none => rw [hi] at hc; cases hc
    | some i =>
      rw [hi] at hc
      cases hc
      rw [e]
      exact .imm (h.rep (w := g.w) (own := g.own) j i hi).1
  · have hj' : j < is.length := by simp at hj; omega
    rw [e]
    exact (h.rep (w := g.w) (own := g.own) j is[j] (List.getElem?_eq_getElem hj')).2
theorem row_post {f : Func} {s : ChangeSpec} {apart fresh handsOn again : Bool} {W W' : World} {args : Array Value} {ds : List (DataW H)} {before : List MemPlace} {tb : TypeId}
    (hW : DataW.Whole enc P f.params.toList s.vars apart W args.toList ds [] before) (hv : s.vars = []) (hl : laidOutB P = true) (hc : lall (fun t => bif P.readableRec t then decide (t < P.types.size) else false) f.params.toList = true)
    (hfn : s.fn H (ds ++ []) = { results := [.lit (.bool true)], args := ds }) (hr : f.resultTypes = #[tb]) (hu : P.underlying tb = some .bool) (hb : Below W.heap.size W W') : s.post enc P f apart fresh handsOn again W args (.bool true) W' := by
  have hW0 := hW
  obtain ⟨p, q, hA, hV, rfl, _, _⟩ := hW
  rw [hv] at hV
  obtain ⟨_, rfl⟩ := trodVars_none hV
  refine post_of_below (ds := ds) (gs := []) (pa := p) (pv := []) hW0 (fun b sp hd => ?_) (fun sp hsp => ?_) (fun sp hsp => ?_) rfl hb ?_
  · rw [hfn, hr]
    exact trodAll_mk1 (shut_bool hu true)
  · rw [hfn]
    exact args_stay hl hc hA (fun x hx => hb.same (hW0.lt x (by simp [hx]))) (fun x hx => hsp x (by simp [hx]))
  · rw [hfn, hv]
    rfl
  · intro j t r ht hr'
    rw [hr] at ht hr'
    cases j with
    | zero =>
      cases ht
      cases hr'
      exact okWide_bool_mk hu true
    | succ j => simp at ht
end
end Go.AE
namespace Go.AE
open Go.ChangeShapes Go.WideShapes Go.ChangeAt Go.RowKit
section
variable {H : Type} {enc : TypeId × Value → H} {P : Program} {w : World}
theorem open_slice {t e : TypeId} {ks : List CK} {b0 : Nat} {v : Value} {d : DataW H} {ps : List MemPlace} {r : Reach} {sp : Nat → Bool} {held : Bool} {base : Nat} (ht : P.underlying t = some (.slice e)) (hk : flatK P false 40 e = some ks) (hc : P.cellsOf e = ks.length) (hb : 1 ≤ P.bytesOf e)
    (hval : Value.okWide P w r b0 t v) (hd : DataW.Trod enc P w base sp held t v d ps) (hsz : ∀ el rs, d = .slice el rs → (el.length + rs.length) * P.bytesOf e ≤ reachBytes) :
    ∃ xs : List (List IV), (∀ x ∈ xs, ∃ vs, KRep ks x vs) ∧ xs.length ≤ 281474976710656 ∧ ∀ iv : IV, iv.isSl = true → iv.len = some xs.length → iv.esize = ks.length → (∀ i j c, iv.cellAt i j = some c → (xs[i]?).bind (·[j]?) = some c) → Rep w (fun _ => False) iv v := by
  obtain ⟨fuel, hf⟩ := hd
  rcases DataW.trod_slice ht hf with ⟨h0, _⟩ | ⟨a, len, cap, elems, rest, n, _, hcs, hx, _, hl, hm, hlen, hel, _⟩
  · refine ⟨[], ⟨(fun x hx => absurd hx (by simp)), by simp, fun iv h1 h2 _ _ => ?_⟩⟩
    obtain ⟨a', l', c', rfl⟩ := okWide_slice ht hval
    simp only [Value.cells, List.cons.injEq, and_true] at h0
    rw [h0]
    exact .nilSlice h1 h2
  · obtain ⟨a', l', c', rfl⟩ := okWide_slice ht hval
    simp only [Value.cells, List.cons.injEq, and_true] at hcs
    simp only [Value.slice.injEq] at hcs
    obtain ⟨rfl, rfl, rfl⟩ := hcs
    have hv : l' ≤ c' ∧ (c' : Int) ≤ IntKind.i64.max ∧ w.has P r b0 a e c' := by
      simpa [Value.okWide, Cell.okWide, Cell.ok, ht] using hval
    obtain ⟨_, hcap, _, _, row, cells, hsh, _⟩ := hv
    have hblk : a.block < w.heap.size := by
      unfold World.shape? at hsh
      cases hq : w.heap[a.block]? with
      | none => rw [hq] at hsh; cases hsh
      | some o => exact (Array.getElem?_eq_some_iff.1 hq).1
    have each : ∀ i (hi : i < elems.length), ∃ cs is, w.cells? base (a.add (i * P.cellsOf e)) (P.cellsOf e) = some cs ∧ KRep ks is cs := by
      intro i hi
      have h1 := hel i (by omega)
      rw [List.getElem?_eq_getElem hi, Option.bind_eq_some_iff] at h1
      obtain ⟨cs, hcs, hy⟩ := h1
      obtain ⟨⟨is, his⟩, _⟩ := flat_open 40 hk hy
      exact ⟨cs, is, hcs, his⟩
    have hcap' : c' ≤ 9223372036854775807 := by
      have h9 : IntKind.i64.max = 9223372036854775807 := rfl
      rw [h9] at hcap; omega
    have hch : ∃ F : Nat → List Value × List IV, ∀ i, i < elems.length → w.cells? base (a.add (i * P.cellsOf e)) (P.cellsOf e) = some (F i).1 ∧ KRep ks (F i).2 (F i).1 := by
      refine ⟨fun i => if hi : i < elems.length then ((each i hi).choose, (each i hi).choose_spec.choose) else ([], []), fun i hi => ?_⟩
      simp only [dif_pos hi]
      exact (each i hi).choose_spec.choose_spec
    obtain ⟨F, hF⟩ := hch
    have hlen2 : l' ≤ 281474976710656 := by
      have hxs := hsz (elems.map (·.1)) (rest.map (·.1)) (congrArg Prod.fst hx)
      simp only [List.length_map] at hxs
      have : elems.length + rest.length ≤ (elems.length + rest.length) * P.bytesOf e := Nat.le_mul_of_pos_right _ hb
      unfold reachBytes at hxs
      omega
    refine ⟨(List.range l').map fun i => (F i).2, fun x hx => ?_, by simpa using hlen2, fun iv h1 h2 h3 h4 => ?_⟩
    · obtain ⟨i, hi, rfl⟩ := List.mem_map.1 hx
      have := List.mem_range.1 hi
      exact ⟨_, (hF i (by omega)).2⟩
    · have key : ∀ i j c, iv.cellAt i j = some c → i < l' ∧ (F i).2[j]? = some c := by
        intro i j c hcc
        have h5 := h4 i j c hcc
        rw [List.getElem?_map] at h5
        cases hi : (List.range l')[i]? with
        | none => rw [hi] at h5; cases h5
        | some i' =>
          rw [hi] at h5
          obtain ⟨h6, h7⟩ := List.getElem?_eq_some_iff.1 hi
          simp only [List.length_range] at h6
          simp only [List.getElem_range] at h7
          subst h7
          exact ⟨h6, by simpa using h5⟩
      refine .slice (fun i j => (F i).1.getD j undef) h1 (by simpa using h2) hl hcap' hlen2 (fun h => h) hblk (fun i j c hcc => ?_) (fun i j c hcc => ?_)
      · obtain ⟨hi, hj⟩ := key i j c hcc
        obtain ⟨hc1, hk1⟩ := hF i (by omega)
        obtain ⟨_, hn1, hcell⟩ := World.cells?_some hc1
        have hj' : j < ks.length := by rw [← hk1.len.1]; exact (List.getElem?_eq_some_iff.1 hj).1
        have := hcell j (by rw [hc]; exact hj')
        rw [h3, ← hc]
        have e1 : (a.add (i * P.cellsOf e)).add j = a.add (i * P.cellsOf e + j) := by
          unfold Addr.add; split <;> split <;> simp_all <;> omega
        rw [e1] at this
        rw [this, List.getElem?_eq_getElem (by rw [hn1, hc]; exact hj')]
        simp [List.getD_eq_getElem?_getD, List.getElem?_eq_getElem (show j < (F i).1.length by rw [hn1, hc]; exact hj')]
      · obtain ⟨hi, hj⟩ := key i j c hcc
        obtain ⟨hc1, hk1⟩ := hF i (by omega)
        exact (hk1.rep j c hj).1
theorem open_byteslice {t e : TypeId} {b0 : Nat} {v : Value} {d : DataW H} {ps : List MemPlace} {r : Reach} {sp : Nat → Bool} {held : Bool} {base : Nat} (ht : P.underlying t = some (.slice e)) (hk : flatK P false 40 e = some [.int .u8]) (hc : P.cellsOf e = 1) (hb : 1 ≤ P.bytesOf e)
    (hval : Value.okWide P w r b0 t v) (hd : DataW.Trod enc P w base sp held t v d ps) (hsz : ∀ el rs, d = .slice el rs → (el.length + rs.length) * P.bytesOf e ≤ reachBytes) :
    ∃ l : List UInt8, l.length ≤ 281474976710656 ∧ Rep w (fun _ => False) (.bytes l) v := by
  obtain ⟨xs, h1, h2, h3⟩ := open_slice ht hk (by simpa using hc) hb hval hd hsz
  have key : ∀ xs : List (List IV), (∀ x ∈ xs, ∃ vs, KRep [.int .u8] x vs) → ∃ l : List UInt8, xs = l.map fun b => [.int .u8 (b.toNat : Int)] := by
    intro xs
    induction xs with
    | nil => exact fun _ => ⟨[], rfl⟩
    | cons x xs ih =>
      intro h
      obtain ⟨l, hl⟩ := ih fun y hy => h y (by simp [hy])
      obtain ⟨vs, hx⟩ := h x (by simp)
      obtain ⟨n, is, vs', rfl, rfl, hr, hx⟩ := hx.cons_int
      obtain ⟨rfl, rfl⟩ := hx.end
      have hr' : (0 : Int) ≤ n ∧ n ≤ 255 := hr
      refine ⟨UInt8.ofNat n.toNat :: l, ?_⟩
      rw [hl, List.map_cons]
      have : ((UInt8.ofNat n.toNat).toNat : Int) = n := by
        have : (UInt8.ofNat n.toNat).toNat = n.toNat % 256 := by simp
        omega
      rw [this]
  obtain ⟨l, rfl⟩ := key xs h1
  refine ⟨l, by simpa using h2, h3 _ rfl (by simp [IV.len]) rfl (fun i j c hcc => ?_)⟩
  cases j with
  | zero =>
    simp only [IV.cellAt] at hcc
    rw [List.getElem?_map]
    cases hi : l[i]? with
    | none => rw [hi] at hcc; cases hcc
    | some b => rw [hi] at hcc; simpa using hcc
  | succ j => simp [IV.cellAt] at hcc
theorem rep_at {W : World} {v : Value} {c : IV} {vs : List Value} {j : Nat} (hr : Rep W (fun _ => False) c v) (h : vs[j]? = some v) : ARep (zeroGh W (fun _ => False)) (.imm c) ((⟨vs⟩ : Array Value).getD j undef) := by
  have e : (⟨vs⟩ : Array Value).getD j undef = v := by simp [Array.getD_eq_getD_getElem?, h]
  rw [e]
  exact .imm (Rep.mono (w := W) (w' := W) (Nat.le_refl _) (fun b _ h => zero_own.1 h) (fun _ _ _ => rfl) hr)
end
end Go.AE
namespace Go.AE
open Go.ChangeShapes Go.WideShapes Go.ChangeAt Go.RowKit
inductive MK where
  | ck (c : CK)
  | sl (ks : List CK)
mutual
def mixK (P : Program) : Nat → TypeId → Option (List (TypeId × MK))
  | 0, _ => none
  | d + 1, t => match P.underlying t with
    | some (.int k) => some [(t, .ck (.int k))]
    | some .bool => some [(t, .ck .bool)]
    | some .string => some [(t, .ck .str)]
    | some (.slice e) => match flatK P false 40 e with
      | some ks => bif Nat.beq (P.cellsOf e) (llen ks) then (bif Nat.ble 1 (P.bytesOf e) then some [(t, .sl ks)] else none) else none
      | none => none
    | some (.struct fs) => match mixF P d 0 fs.toList with
      | some ks => bif Nat.beq (llen ks) (P.cellsOf t) then some ks else none
      | none => none
    | _ => none
def mixF (P : Program) : Nat → Nat → List Field → Option (List (TypeId × MK))
  | 0, _, _ => none
  | _ + 1, _, [] => some []
  | d + 1, o, f :: r => match mixK P d f.type with
    | some ks => bif Nat.beq f.offset o then (bif Nat.beq (llen ks) (P.cellsOf f.type) then omap (lapp ks) (mixF P d (o + llen ks) r) else none) else none
    | none => none
end
def MOk (w : World) : MK → Value → Prop
  | .ck (.int k), v => ∃ n, v = .int k n ∧ InR k n
  | .ck .bool, v => ∃ b, v = .bool b
  | .ck .str, v => ∃ s, v = .string s ∧ (bytesOf s).length ≤ 9223372036854775807
  | .ck .any, _ => False
  | .sl ks, v => ∃ xs : List (List IV), (∀ x ∈ xs, ∃ vs, KRep ks x vs) ∧ xs.length ≤ 281474976710656 ∧ ∀ iv : IV, iv.isSl = true → iv.len = some xs.length → iv.esize = ks.length → (∀ i j c, iv.cellAt i j = some c → (xs[i]?).bind (·[j]?) = some c) → Rep w (fun _ => False) iv v
def mall (w : World) : List (TypeId × MK) → List Value → Prop
  | [], [] => True
  | k :: ks, v :: vs => MOk w k.2 v ∧ mall w ks vs
  | _, _ => False
theorem mall_app {w : World} : ∀ {ks ks' : List (TypeId × MK)} {vs vs' : List Value}, mall w ks vs → mall w ks' vs' → mall w (ks ++ ks') (vs ++ vs')
  | [], _, [], _, _, h' => h'
  | _ :: _, _, _ :: _, _, h, h' => ⟨h.1, mall_app h.2 h'⟩
  | [], _, _ :: _, _, h, _ => h.elim
  | _ :: _, _, [], _, h, _ => h.elim
section
variable {H : Type} {enc : TypeId × Value → H} {P : Program} {w : World} {base b0 : Nat} {sp : Nat → Bool} {held : Bool} {r : Reach}
theorem all_weights_field {fs : List Field} {xs : List (DataW H × List MemPlace)} (h : (DataW.weightsEach P (fs.map (·.type)) (xs.map (·.1))).all (· ≤ reachBytes) = true) {i : Nat} {f : Field} {x : DataW H × List MemPlace} (hf : fs[i]? = some f) (hx : xs[i]? = some x) :
    (x.1.weights P f.type).all (· ≤ reachBytes) = true := by
  rw [List.all_eq_true] at h ⊢
  exact fun n hn => h n (DataW.weights_mem_each (j := i) (t := f.type) (d := x.1) (by simp [List.getElem?_map, hf]) (by simp [List.getElem?_map, hx]) n hn)
mutual
theorem mix_open : ∀ (d : Nat) {t : TypeId} {ks : List (TypeId × MK)} {n : Nat} {cs : List Value} {x : DataW H × List MemPlace}, mixK P d t = some ks → DataW.trod enc P w base sp held n t cs = some x → (x.1.weights P t).all (· ≤ reachBytes) = true →
    (∀ (j : Nat) v, cs[j]? = some v → ∃ u, (ks.map (·.1))[j]? = some u ∧ Cell.okWide P w r b0 u v) → mall w ks cs
  | 0, t, ks, n, cs, x, h, _, _, _ => by simp [mixK] at h
  | d + 1, t, ks, n, cs, x, h, hx, hz, hw => by
    unfold mixK at h
    split at h
    · rename_i k hu
      cases h
      obtain ⟨m, rfl, rfl, hm⟩ := DataW.trod_int hu hx
      exact ⟨⟨m, rfl, inR_wf hm⟩, trivial⟩
    · rename_i hu
      cases h
      obtain ⟨b, rfl, rfl⟩ := DataW.trod_bool hu hx
      exact ⟨⟨b, rfl⟩, trivial⟩
    · rename_i hu
      cases h
      obtain ⟨s, rfl, rfl, hs⟩ := DataW.trod_string hu hx
      exact ⟨⟨s, rfl, by rw [← size_bytes]; exact hs⟩, trivial⟩
    · rename_i e hu
      cases hk : flatK P false 40 e with
      | none => rw [hk] at h; cases h
      | some k1 =>
        rw [hk] at h
        cases hb : Nat.beq (P.cellsOf e) (llen k1) with
        | false => simp only [hb, cond_false] at h; cases h
        | true =>
          simp only [hb, cond_true] at h
          cases hb2 : Nat.ble 1 (P.bytesOf e) with
          | false => simp only [hb2, cond_false] at h; cases h
          | true =>
            simp only [hb2, cond_true] at h
            cases h
            have e1 : P.cellsOf e = k1.length := by rw [nbeq hb, llen_eq]
            have e2 : 1 ≤ P.bytesOf e := Nat.le_of_ble_eq_true hb2
            have hone : ∃ v, cs = [v] ∧ v.cells.toList = [v] := by
              rcases DataW.trod_slice hu hx with ⟨h0, _⟩ | ⟨a, len, cap, _, _, _, _, h0, _⟩
              · exact ⟨_, h0, rfl⟩
              · exact ⟨_, h0, rfl⟩
            obtain ⟨v, rfl, hv⟩ := hone
            obtain ⟨u, hu1, hu2⟩ := hw 0 v rfl
            simp only [List.map_cons, List.map_nil, List.getElem?_cons_zero, Option.some.injEq] at hu1
            subst hu1
            have hval : Value.okWide P w r b0 t v := by
              unfold Value.okWide
              rw [hu]
              exact hu2
            refine ⟨open_slice (ks := k1) hu hk e1 e2 hval (d := x.1) (ps := x.2) ⟨n, by rw [hv]; exact hx⟩ (fun el rs hd => ?_), trivial⟩
            rw [hd, List.all_eq_true] at hz
            have := hz ((el.length + rs.length) * P.bytesOf e) (by simp [DataW.weights, hu])
            simpa using this
    · rename_i fs hu
      obtain ⟨xs, m, rfl, rfl, hlen, hsz, hf⟩ := DataW.trod_struct hu hx
      cases hF : mixF P d 0 fs.toList with
      | none => rw [hF] at h; cases h
      | some ks' =>
        rw [hF] at h
        cases hb : Nat.beq (llen ks') (P.cellsOf t) with
        | false => simp only [hb, cond_false] at h; cases h
        | true =>
          simp only [hb, cond_true] at h
          cases h
          have hb' := nbeq hb
          have hz' : (DataW.weightsEach P (fs.toList.map (·.type)) (xs.map (·.1))).all (· ≤ reachBytes) = true := by
            have := hz
            simpa [DataW.weights, hu] using this
          have := mixF_open d (o := 0) (xs := xs) (cs := cs) (n := m) hF (by simp [hsz]) (fun i f hi => hf i f (by simpa using hi)) hz' (by simpa using hw)
          rw [List.drop_zero, List.take_of_length_le (by rw [hlen, ← hb', llen_eq]; exact Nat.le_refl _)] at this
          exact this
    · cases h
theorem mixF_open : ∀ (d : Nat) {o : Nat} {fs : List Field} {ks : List (TypeId × MK)} {n : Nat} {cs : List Value} {xs : List (DataW H × List MemPlace)}, mixF P d o fs = some ks → xs.length = fs.length →
    (∀ (i : Nat) (f : Field), fs[i]? = some f → DataW.trod enc P w base sp held n f.type ((cs.drop f.offset).take (P.cellsOf f.type)) = xs[i]?) → (DataW.weightsEach P (fs.map (·.type)) (xs.map (·.1))).all (· ≤ reachBytes) = true →
    (∀ (j : Nat) v, (cs.drop o)[j]? = some v → ∃ u, (ks.map (·.1))[j]? = some u ∧ Cell.okWide P w r b0 u v) → mall w ks ((cs.drop o).take ks.length)
  | 0, o, fs, ks, n, cs, xs, h, _, _, _, _ => by simp [mixF] at h
  | d + 1, o, [], ks, n, cs, xs, h, hl, _, _, _ => by
    simp only [mixF] at h
    cases h
    simp [mall]
  | d + 1, o, f :: q, ks, n, cs, xs, h, hl, hf, hz, hw => by
    unfold mixF at h
    cases hK : mixK P d f.type with
    | none => rw [hK] at h; cases h
    | some k1 =>
      rw [hK] at h
      cases hb : Nat.beq f.offset o with
      | false => simp only [hb, cond_false] at h; cases h
      | true =>
        simp only [hb, cond_true] at h
        cases hb2 : Nat.beq (llen k1) (P.cellsOf f.type) with
        | false => simp only [hb2, cond_false] at h; cases h
        | true =>
          simp only [hb2, cond_true] at h
          cases hF : mixF P d (o + llen k1) q with
          | none => rw [hF] at h; cases h
          | some k2 =>
            rw [hF] at h
            simp only [omap, Option.some.injEq] at h
            subst h
            match xs, hl with
            | x :: xs, hl =>
              have h0 := hf 0 f rfl
              have e1 := nbeq hb
              have e2 := nbeq hb2
              have e3 : llen k1 = k1.length := llen_eq k1
              rw [lapp_eq] at hw ⊢
              have w1 : ∀ (j : Nat) v, ((cs.drop f.offset).take (P.cellsOf f.type))[j]? = some v → ∃ u, (k1.map (·.1))[j]? = some u ∧ Cell.okWide P w r b0 u v := by
                intro j v hv
                rw [List.getElem?_take] at hv
                split at hv
                · rename_i hj
                  obtain ⟨u, hu1, hu2⟩ := hw j v (by rw [← e1]; exact hv)
                  refine ⟨u, ?_, hu2⟩
                  rw [List.map_append, List.getElem?_append_left (by simp; omega)] at hu1
                  exact hu1
                · cases hv
              have w2 : ∀ (j : Nat) v, (cs.drop (o + llen k1))[j]? = some v → ∃ u, (k2.map (·.1))[j]? = some u ∧ Cell.okWide P w r b0 u v := by
                intro j v hv
                obtain ⟨u, hu1, hu2⟩ := hw (k1.length + j) v (by rw [List.getElem?_drop] at hv ⊢; rw [← hv, e3]; congr 1; omega)
                refine ⟨u, ?_, hu2⟩
                rw [List.map_append, List.getElem?_append_right (by simp)] at hu1
                simpa using hu1
              have i1 := mix_open d hK (x := x) (by simpa using h0) (all_weights_field hz (i := 0) rfl rfl) w1
              have i2 := mixF_open d (n := n) (cs := cs) (xs := xs) hF (by simpa using hl) (fun i f hi => by simpa using hf (i + 1) f (by simpa using hi))
                (by
                  rw [List.all_eq_true] at hz ⊢
                  intro m hm
                  exact hz m (by simp only [List.map_cons, DataW.weightsEach, List.mem_append]; exact Or.inr hm)) w2
              rw [List.length_append]
              have : (cs.drop o).take (k1.length + k2.length) = ((cs.drop o).take k1.length) ++ ((cs.drop (o + k1.length)).take k2.length) := by
                rw [List.take_add, List.drop_drop]
              rw [this]
              have h3 : mall w k1 ((cs.drop o).take k1.length) := by
                rw [← llen_eq, e2, ← e1]; exact i1
              refine mall_app h3 ?_
              rw [llen_eq] at i2
              exact i2
end
end
def MIs (w : World) : List IV → List Value → Prop
  | [], [] => True
  | i :: is, v :: vs => Rep w (fun _ => False) i v ∧ MIs w is vs
  | _, _ => False
theorem MIs.get {w : World} : ∀ {is : List IV} {vs : List Value}, MIs w is vs → is.length = vs.length ∧ ∀ (j : Nat) i, is[j]? = some i → Rep w (fun _ => False) i (vs.getD j undef)
  | [], [], _ => ⟨rfl, fun j i h => by simp at h⟩
  | i :: is, v :: vs, h => ⟨by simp [(MIs.get h.2).1], fun j c hj => by
      cases j with
      | zero => simp only [List.getElem?_cons_zero, Option.some.injEq] at hj; subst hj; exact h.1
      | succ j => exact (MIs.get h.2).2 j c (by simpa using hj)⟩
  | [], _ :: _, h => h.elim
  | _ :: _, [], h => h.elim
theorem MIs.arep {w : World} {is : List IV} {vs : List Value} (h : MIs w is vs) : ARep (zeroGh w (fun _ => False)) (.agg (lmap .imm is)) (.agg ⟨vs⟩) := by
  obtain ⟨hl, hr⟩ := h.get
  have e : ∀ j, (⟨vs⟩ : Array Value).getD j undef = vs.getD j undef := fun j => by simp [Array.getD_eq_getD_getElem?, List.getD_eq_getElem?_getD]
  refine .agg (by rw [lmap_eq]; simp [hl]) (fun j c hc => ?_) (fun j hj => ?_)
  · rw [lmap_eq, List.getElem?_map] at hc
    cases hi : is[j]? with
    | none => rw [hi] at hc; cases hc
    | some i =>
      rw [hi] at hc
      cases hc
      rw [e]
      exact .imm (Rep.mono (w := w) (w' := w) (Nat.le_refl _) (fun b _ h => zero_own.1 h) (fun _ _ _ => rfl) (hr j i hi))
  · have hj' : j < is.length := by simp at hj; omega
    rw [e]
    exact (hr j is[j] (List.getElem?_eq_getElem hj')).oneCell
theorem MIs.cell {w : World} {is : List IV} {vs : List Value} (h : MIs w is vs) {v : Value} (hv : v = .agg ⟨vs⟩) {arr : Array Value} {j : Nat} (ha : arr.getD j undef = v) : ARep (zeroGh w (fun _ => False)) (.agg (lmap .imm is)) (arr.getD j undef) := by
  rw [ha, hv]; exact h.arep
theorem MOk.bytes {w : World} {v : Value} (h : MOk w (.sl [.int .u8]) v) : ∃ l : List UInt8, l.length ≤ 281474976710656 ∧ Rep w (fun _ => False) (.bytes l) v := by
  obtain ⟨xs, h1, h2, h3⟩ := h
  have key : ∀ xs : List (List IV), (∀ x ∈ xs, ∃ vs, KRep [.int .u8] x vs) → ∃ l : List UInt8, xs = l.map fun b => [.int .u8 (b.toNat : Int)] := by
    intro xs
    induction xs with
    | nil => exact fun _ => ⟨[], rfl⟩
    | cons x xs ih =>
      intro h
      obtain ⟨l, hl⟩ := ih fun y hy => h y (by simp [hy])
      obtain ⟨vs, hx⟩ := h x (by simp)
      obtain ⟨n, is, vs', rfl, rfl, hr, hx⟩ := hx.cons_int
      obtain ⟨rfl, rfl⟩ := hx.end
      have hr' : (0 : Int) ≤ n ∧ n ≤ 255 := hr
      refine ⟨UInt8.ofNat n.toNat :: l, ?_⟩
      rw [hl, List.map_cons]
      have : ((UInt8.ofNat n.toNat).toNat : Int) = n := by
        have : (UInt8.ofNat n.toNat).toNat = n.toNat % 256 := by simp
        omega
      rw [this]
  obtain ⟨l, rfl⟩ := key xs h1
  refine ⟨l, by simpa using h2, h3 _ rfl (by simp [IV.len]) rfl (fun i j c hcc => ?_)⟩
  cases j with
  | zero =>
    simp only [IV.cellAt] at hcc
    rw [List.getElem?_map]
    cases hi : l[i]? with
    | none => rw [hi] at hcc; cases hcc
    | some b => rw [hi] at hcc; simpa using hcc
  | succ j => simp [IV.cellAt] at hcc
theorem MOk.ints {w : World} {v : Value} {k : IntKind} (h : MOk w (.sl [.int k]) v) : ∃ l : List Int, (∀ n ∈ l, InR k n) ∧ l.length ≤ 281474976710656 ∧ Rep w (fun _ => False) (.ints k l) v := by
  obtain ⟨xs, h1, h2, h3⟩ := h
  have key : ∀ xs : List (List IV), (∀ x ∈ xs, ∃ vs, KRep [.int k] x vs) → ∃ l : List Int, (∀ n ∈ l, InR k n) ∧ xs = l.map fun b => [.int k b] := by
    intro xs
    induction xs with
    | nil => exact fun _ => ⟨[], fun n h => by simp at h, rfl⟩
    | cons x xs ih =>
      intro h
      obtain ⟨l, hl1, hl⟩ := ih fun y hy => h y (by simp [hy])
      obtain ⟨vs, hx⟩ := h x (by simp)
      obtain ⟨n, is, vs', rfl, rfl, hr, hx⟩ := hx.cons_int
      obtain ⟨rfl, rfl⟩ := hx.end
      refine ⟨n :: l, fun m hm => ?_, by rw [hl, List.map_cons]⟩
      rcases List.mem_cons.1 hm with rfl | hm
      · exact hr
      · exact hl1 m hm
  obtain ⟨l, hl, rfl⟩ := key xs h1
  refine ⟨l, hl, by simpa using h2, h3 _ rfl (by simp [IV.len]) rfl (fun i j c hcc => ?_)⟩
  cases j with
  | zero =>
    simp only [IV.cellAt] at hcc
    rw [List.getElem?_map]
    cases hi : l[i]? with
    | none => rw [hi] at hcc; cases hcc
    | some b => rw [hi] at hcc; simpa using hcc
  | succ j => simp [IV.cellAt] at hcc
theorem MOk.bools {w : World} {v : Value} (h : MOk w (.sl [.bool]) v) : ∃ l : List Bool, l.length ≤ 281474976710656 ∧ Rep w (fun _ => False) (.bools l) v := by
  obtain ⟨xs, h1, h2, h3⟩ := h
  have key : ∀ xs : List (List IV), (∀ x ∈ xs, ∃ vs, KRep [.bool] x vs) → ∃ l : List Bool, xs = l.map fun b => [.bool b] := by
    intro xs
    induction xs with
    | nil => exact fun _ => ⟨[], rfl⟩
    | cons x xs ih =>
      intro h
      obtain ⟨l, hl⟩ := ih fun y hy => h y (by simp [hy])
      obtain ⟨vs, hx⟩ := h x (by simp)
      obtain ⟨n, is, vs', rfl, rfl, hx2⟩ := hx.cons_bool
      obtain ⟨rfl, rfl⟩ := hx2.end
      exact ⟨n :: l, by rw [hl, List.map_cons]⟩
  obtain ⟨l, rfl⟩ := key xs h1
  refine ⟨l, by simpa using h2, h3 _ rfl (by simp [IV.len]) rfl (fun i j c hcc => ?_)⟩
  cases j with
  | zero =>
    simp only [IV.cellAt] at hcc
    rw [List.getElem?_map]
    cases hi : l[i]? with
    | none => rw [hi] at hcc; cases hcc
    | some b => rw [hi] at hcc; simpa using hcc
  | succ j => simp [IV.cellAt] at hcc
theorem MOk.int {w : World} {v : Value} {k : IntKind} (h : MOk w (.ck (.int k)) v) : ∃ n, InR k n ∧ Rep w (fun _ => False) (.int k n) v := by
  obtain ⟨n, rfl, hr⟩ := h
  exact ⟨n, hr, .int hr⟩
theorem MOk.bool {w : World} {v : Value} (h : MOk w (.ck .bool) v) : ∃ b, Rep w (fun _ => False) (.bool b) v := by
  obtain ⟨b, rfl⟩ := h
  exact ⟨b, .bool⟩
theorem MOk.str {w : World} {v : Value} (h : MOk w (.ck .str) v) : ∃ l : List UInt8, l.length ≤ 9223372036854775807 ∧ Rep w (fun _ => False) (.str l) v := by
  obtain ⟨s, rfl, hr⟩ := h
  exact ⟨_, hr, .str rfl hr⟩
end Go.AE
namespace Y27
open Go Go.AE Go.Proofs E6
theorem vs : Tryz.prog.globalNamed "zoneinfo/header.versions" = some 0 := by kernel_rfl
theorem fl : Tryz.prog.globalNamed "zoneinfo/indicators.flags" = some 1 := by kernel_rfl
theorem et : Tryz.prog.globalNamed "errors.errorType" = some 3 := by kernel_rfl
theorem rt : (Tryz.prog.cutTypes.find? (·.1 == "internal/reflectlite.rtype")).map (·.2) = some 215 := by kernel_rfl
theorem tsize : Tryz.prog.types.size = 257 := by kernel_rfl
theorem oneRow : ((List.range 257).filter fun t => Tryz.prog.rowNamed t [101, 114, 114, 111, 114]) = [170] := by kernel_rfl
def rowLaid {H : Type} : List (String × DataW H) := [("zoneinfo/header.versions", YthdioiodfodlpaaGreatDoor.Rows.laid_zoneinfo_header_versions), ("zoneinfo/indicators.flags", YthdioiodfodlpaaGreatDoor.Rows.laid_zoneinfo_indicators_flags)]
theorem parts {W : World} (h : laidMetH Tryz.prog YthdioiodfodlpaaGreatDoor.Rows.costMatchesReferenceRow.laid W) : laidMet Tryz.prog rowLaid W ∧ handlesMet Tryz.prog [("errors.errorType", YthdioiodfodlpaaGreatDoor.Rows.laid_errors_errorType)] W := h
theorem var_of_laid {W : World} (h : laidMetH Tryz.prog YthdioiodfodlpaaGreatDoor.Rows.costMatchesReferenceRow.laid W) : W.var? Tryz.prog "errors.errorType" = some #[errT] := by
  obtain ⟨name, u, ty, e1, e2, e3, e4, e5⟩ := (parts h).2 _ (List.mem_singleton.2 rfl)
  have en : name = [101, 114, 114, 111, 114] := (Option.some.inj e1).symm
  subst en
  obtain rfl := Option.some.inj (rt.symm.trans e2)
  have hm : ty ∈ (List.range 257).filter fun t => Tryz.prog.rowNamed t [101, 114, 114, 111, 114] := List.mem_filter.2 ⟨List.mem_range.2 (by rw [← tsize]; exact e3), e4⟩
  rw [oneRow] at hm
  obtain rfl := List.mem_singleton.1 hm
  have hh : typeHandle Tryz.prog 170 = .pointer (some ⟨4, 170, none⟩) := by kernel_rfl
  rw [hh] at e5
  exact e5
theorem list_two {α : Type} {l : List α} (h : l.length = 2) : ∃ a b, l = [a, b] := by
  match l, h with
  | [a, b], _ => exact ⟨a, b, rfl⟩
theorem list_five {α : Type} {l : List α} (h : l.length = 5) : ∃ a b c d e, l = [a, b, c, d, e] := by
  match l, h with
  | [a, b, c, d, e], _ => exact ⟨a, b, c, d, e, rfl⟩
theorem versions_of_laid {W : World} (h : laidMetH Tryz.prog YthdioiodfodlpaaGreatDoor.Rows.costMatchesReferenceRow.laid W) : W.var? Tryz.prog "zoneinfo/header.versions" = some #[.int .u8 0, .int .u8 0, .int .u8 50, .int .u8 51, .int .u8 52] := by
  obtain ⟨ps, ⟨g, t, cs, fuel, p, q, hg, ht, hv, hd, _, _⟩, _⟩ := (parts h).1
  obtain rfl := Option.some.inj (vs.symm.trans hg)
  have ht' : (Tryz.prog.globals[0]?).map (·.type) = some 166 := by kernel_rfl
  obtain rfl := Option.some.inj (ht'.symm.trans ht)
  obtain ⟨xs, m, rfl, hx, hl, hn, hi⟩ := DataW.trod_array (n := 5) (e := 5) (by kernel_rfl) hd
  have hc5 : Tryz.prog.cellsOf 5 = 1 := by kernel_rfl
  have hc166 : Tryz.prog.cellsOf 166 = 5 := by kernel_rfl
  have hu5 : Tryz.prog.underlying 5 = some (.int .u8) := by kernel_rfl
  rw [hc166] at hl
  rw [hv]
  obtain ⟨cs⟩ := cs
  obtain ⟨a, b, c, d, e, rfl⟩ := list_five hl
  obtain ⟨x, y, z, u, w, rfl⟩ := list_five hn
  have h0 := hi 0 (by omega)
  have h1 := hi 1 (by omega)
  have h2 := hi 2 (by omega)
  have h3 := hi 3 (by omega)
  have h4 := hi 4 (by omega)
  rw [hc5] at h0 h1 h2 h3 h4
  have h0' : DataW.trod (fun _ => ()) Tryz.prog W 0 (fun _ => true) false m 5 [a] = some x := h0
  have h1' : DataW.trod (fun _ => ()) Tryz.prog W 0 (fun _ => true) false m 5 [b] = some y := h1
  have h2' : DataW.trod (fun _ => ()) Tryz.prog W 0 (fun _ => true) false m 5 [c] = some z := h2
  have h3' : DataW.trod (fun _ => ()) Tryz.prog W 0 (fun _ => true) false m 5 [d] = some u := h3
  have h4' : DataW.trod (fun _ => ()) Tryz.prog W 0 (fun _ => true) false m 5 [e] = some w := h4
  obtain ⟨b0, e0, f0, _⟩ := DataW.trod_int hu5 h0'
  obtain ⟨b1, e1, f1, _⟩ := DataW.trod_int hu5 h1'
  obtain ⟨b2, e2, f2, _⟩ := DataW.trod_int hu5 h2'
  obtain ⟨b3, e3, f3, _⟩ := DataW.trod_int hu5 h3'
  obtain ⟨b4, e4, f4, _⟩ := DataW.trod_int hu5 h4'
  have hx1 := congrArg Prod.fst hx
  have hx2 : (DataW.agg [.lit (.int .u8 0), .lit (.int .u8 0), .lit (.int .u8 50), .lit (.int .u8 51), .lit (.int .u8 52)] : DataW Unit) = .agg [x.1, y.1, z.1, u.1, w.1] := hx1
  rw [f0, f1, f2, f3, f4] at hx2
  simp only [DataW.agg.injEq, List.cons.injEq, DataW.lit.injEq, Lit.int.injEq, true_and, and_true] at hx2
  simp only [List.cons.injEq, and_true] at e0 e1 e2 e3 e4
  obtain ⟨q0, q1, q2, q3, q4⟩ := hx2
  rw [e0, e1, e2, e3, e4, ← q0, ← q1, ← q2, ← q3, ← q4]
theorem flags_of_laid {W : World} (h : laidMetH Tryz.prog YthdioiodfodlpaaGreatDoor.Rows.costMatchesReferenceRow.laid W) : W.var? Tryz.prog "zoneinfo/indicators.flags" = some #[.bool false, .bool true] := by
  obtain ⟨ps, ⟨g0, t0, cs0, fuel0, p0, q0, _, _, _, _, ⟨g, t, cs, fuel, p, q, hg, ht, hv, hd, _, _⟩, _⟩, _⟩ := (parts h).1
  obtain rfl := Option.some.inj (fl.symm.trans hg)
  have ht' : (Tryz.prog.globals[1]?).map (·.type) = some 176 := by kernel_rfl
  obtain rfl := Option.some.inj (ht'.symm.trans ht)
  obtain ⟨xs, m, rfl, hx, hl, hn, hi⟩ := DataW.trod_array (n := 2) (e := 4) (by kernel_rfl) hd
  have hc4 : Tryz.prog.cellsOf 4 = 1 := by kernel_rfl
  have hc176 : Tryz.prog.cellsOf 176 = 2 := by kernel_rfl
  have hu4 : Tryz.prog.underlying 4 = some .bool := by kernel_rfl
  rw [hc176] at hl
  rw [hv]
  obtain ⟨cs⟩ := cs
  obtain ⟨a, b, rfl⟩ := list_two hl
  obtain ⟨x, y, rfl⟩ := list_two hn
  have h0 := hi 0 (by omega)
  have h1 := hi 1 (by omega)
  rw [hc4] at h0 h1
  have h0' : DataW.trod (fun _ => ()) Tryz.prog W 0 (fun _ => true) false m 4 [a] = some x := h0
  have h1' : DataW.trod (fun _ => ()) Tryz.prog W 0 (fun _ => true) false m 4 [b] = some y := h1
  obtain ⟨b0, e0, f0⟩ := DataW.trod_bool hu4 h0'
  obtain ⟨b1, e1, f1⟩ := DataW.trod_bool hu4 h1'
  have hx1 := congrArg Prod.fst hx
  have hx2 : (DataW.agg [.lit (.bool false), .lit (.bool true)] : DataW Unit) = .agg [x.1, y.1] := hx1
  rw [f0, f1] at hx2
  simp only [DataW.agg.injEq, List.cons.injEq, DataW.lit.injEq, Lit.bool.injEq, and_true] at hx2
  simp only [List.cons.injEq, and_true] at e0 e1
  rw [e0, e1, ← hx2.1, ← hx2.2]
theorem gok_of_laid {W : World} (h : laidMetH Tryz.prog YthdioiodfodlpaaGreatDoor.Rows.costMatchesReferenceRow.laid W) : GOK G16 W (fun _ => False) := by
  have ht := var_of_laid h
  have hf := flags_of_laid h
  have hq := versions_of_laid h
  unfold World.var? at ht hf hq
  rw [et] at ht
  rw [fl] at hf
  rw [vs] at hq
  simp only [Option.bind_some] at ht hf hq
  have ir : ∀ n : Int, 0 ≤ n → n ≤ 255 → InR .u8 n := fun n h1 h2 => ⟨h1, h2⟩
  intro n l hl
  unfold G16 at hl
  cases hn : Nat.beq n 0 with
  | true =>
    rw [hn, cond_true] at hl
    cases hl
    have := nbeq hn
    subst this
    refine ⟨fun h => h, ?_⟩
    split at hq
    case h_2 => cases hq
    rename_i cs T fr hc
    simp only [Option.some.injEq] at hq
    refine ⟨cs, T, fr, hc, by rw [hq]; rfl, fun j v hv => ?_, fun j hj => ?_⟩
    · rw [hq]
      match j with
      | 0 => simp only [List.getElem?_cons_zero, Option.some.injEq] at hv; subst hv; exact .int (ir _ (by decide) (by decide))
      | 1 => simp only [List.getElem?_cons_succ, List.getElem?_cons_zero, Option.some.injEq] at hv; subst hv; exact .int (ir _ (by decide) (by decide))
      | 2 => simp only [List.getElem?_cons_succ, List.getElem?_cons_zero, Option.some.injEq] at hv; subst hv; exact .int (ir _ (by decide) (by decide))
      | 3 => simp only [List.getElem?_cons_succ, List.getElem?_cons_zero, Option.some.injEq] at hv; subst hv; exact .int (ir _ (by decide) (by decide))
      | 4 => simp only [List.getElem?_cons_succ, List.getElem?_cons_zero, Option.some.injEq] at hv; subst hv; exact .int (ir _ (by decide) (by decide))
      | j + 5 => simp at hv
    · rw [hq] at hj ⊢
      match j, hj with
      | 0, _ => rfl
      | 1, _ => rfl
      | 2, _ => rfl
      | 3, _ => rfl
      | 4, _ => rfl
      | j + 5, hj => exact absurd hj (by simp)
  | false =>
    rw [hn, cond_false] at hl
    cases hn1 : Nat.beq n 1 with
    | true =>
      rw [hn1, cond_true] at hl
      cases hl
      have := nbeq hn1
      subst this
      refine ⟨fun h => h, ?_⟩
      split at hf
      case h_2 => cases hf
      rename_i cs T fr hc
      simp only [Option.some.injEq] at hf
      refine ⟨cs, T, fr, hc, by rw [hf]; rfl, fun j v hv => ?_, fun j hj => ?_⟩
      · match j with
        | 0 =>
          simp only [List.getElem?_cons_zero, Option.some.injEq] at hv
          subst hv
          rw [hf]
          exact .bool
        | 1 =>
          simp only [List.getElem?_cons_succ, List.getElem?_cons_zero, Option.some.injEq] at hv
          subst hv
          rw [hf]
          exact .bool
        | j + 2 => simp at hv
      · rw [hf] at hj ⊢
        match j, hj with
        | 0, _ => rfl
        | 1, _ => rfl
        | j + 2, hj => exact absurd hj (by simp)
    | false =>
      rw [hn1, cond_false] at hl
      cases hn3 : Nat.beq n 3 with
      | false => rw [hn3] at hl; cases hl
      | true =>
        rw [hn3, cond_true] at hl
        cases hl
        have := nbeq hn3
        subst this
        refine ⟨fun h => h, ?_⟩
        split at ht
        case h_2 => cases ht
        rename_i cs T fr hc
        simp only [Option.some.injEq] at ht
        refine ⟨cs, T, fr, hc, by rw [ht]; rfl, fun j v hv => ?_, fun j hj => ?_⟩
        · cases j with
          | zero =>
            simp only [List.getElem?_cons_zero, Option.some.injEq] at hv
            subst hv
            rw [ht]
            exact .val rfl
          | succ j => simp at hv
        · rw [ht] at hj ⊢
          have : j = 0 := by simpa using hj
          subst this
          rfl
noncomputable def laidWorld (os : Os) : World :=
  let w0 := World.holding Tryz.prog os ⟨#[], #[], []⟩
  { w0 with heap := ((w0.heap.modify 0 fun
      | .cells _ t frozen => .cells #[.int .u8 0, .int .u8 0, .int .u8 50, .int .u8 51, .int .u8 52] t frozen
      | o => o).modify 1 fun
      | .cells _ t frozen => .cells #[.bool false, .bool true] t frozen
      | o => o).modify 3 fun
      | .cells _ t frozen => .cells #[errT] t frozen
      | o => o }
theorem door_met (os : Os) (args : Array Value) : laidMetH Tryz.prog YthdioiodfodlpaaGreatDoor.Rows.costMatchesReferenceRow.laid ((laidWorld os).forCall (fun _ _ => 0) ⟨#[], args, []⟩).memory :=
  laidMetH_of_parts (laidMet_of_run' 8 (by kernel_rfl) (by kernel_rfl)) (by kernel_rfl)
theorem u32_of {n : Int} (h : InR .u32 n) : U32 n := by
  have h' : (0 : Int) ≤ n ∧ n ≤ 4294967295 := h
  exact ⟨h'.1, h'.2⟩
end Y27
set_option maxRecDepth 100000
namespace Y27
open Go Go.AE Go.Proofs E6
attribute [local irreducible] loopK evCode evSpec loopB norm
theorem f5_in (v : Int) (iu : Int) (is : Int) (l : Int) (t : Int) (ty : Int) (c : Int) (b : List UInt8) (w : Int) (K : List AV → Prop) : evSpec M5 Tryz.f5 [hdAV v iu is l t ty c, by' b, .imm (.int .u8 w)] K = (let Q1 : List UInt8 := (hdB (Hd.mk v iu is l (4294967295 : Int) ty c)); let Q2 : List UInt8 := (hdB (Hd.mk (2 : Int) (0 : Int) (0 : Int) (0 : Int) (0 : Int) (1 : Int) (1 : Int))); let Q3 : List UInt8 := (encB [] [] (tys [[IV.int IntKind.i32 (0 : Int), IV.bool false, IV.int .u8 0]]) (List.map u8 [(0 : Int)]) (lps []) [] [] (4 : Int).toNat); let Q4 : List UInt8 := (hdB (Hd.mk v iu is l t ty (4294967295 : Int))); let Q5 : List UInt8 := (hdB (Hd.mk v iu is (4294967295 : Int) t ty c)); let Q6 : List UInt8 := (hdB (Hd.mk v (0 : Int) (0 : Int) l t (4294967295 : Int) c)); let Q7 : List UInt8 := (hdB (Hd.mk v iu is l t ty c)); let Q8 : Int × Int := (measU (Q1 ++ b)); let Q9 : Int × Int := (measU (Q2 ++ Q3 ++ (Q1 ++ b))); let Q10 : Int × Int := (measU (Q4 ++ b)); let Q11 : Int × Int := (measU (Q2 ++ Q3 ++ (Q4 ++ b))); let Q12 : Int × Int := (measU (Q5 ++ b)); let Q13 : Int × Int := (measU (Q2 ++ Q3 ++ (Q5 ++ b))); let Q14 : Int × Int := (measU (Q6 ++ b)); let Q15 : Int × Int := (measU
 (Q2 ++ Q3 ++ (Q6 ++ b))); let Q16 : Int × Int := (measU (Q7 ++ b)); let Q17 : Int × Int := (measU (Q2 ++ Q3 ++ (Q7 ++ b))); let E1 : Prop := ((sm (St.mk (lapp [.agg [.imm (.int .i64 v), .imm (.int IntKind.u32 iu), .imm (.int IntKind.u32 is), .imm (.int IntKind.u32 l), .imm (.int IntKind.u32 t), .imm (.int IntKind.u32 ty), .imm (.int IntKind.u32 c)], .imm (.bytes b), .imm (.int .u8 w), .ptr 0 0, .dead, .dead, .imm (.bool false), AV.row (1 : Nat) (0 : Nat), .ptr 2 0, AV.row (3 : Nat) (0 : Nat), .imm (.bool true), .imm (.bool false), .imm (.bool false), .opt [((12 : Nat), false)] (.ptr 0 0), .opt [((12 : Nat), false)] (.imm (.int .i64 v)), .opt [((12 : Nat), false)] (.imm (.bool (decide (v < 1)))), .imm (.bool (!true || decide (v < 1))), .imm (.bool (!true || decide (v < 1))), .opt [((17 : Nat), false)] (.ptr 0 0), .opt [((17 : Nat), false)] (.imm (.int .i64 v)), .opt [((17 : Nat), false)] (.imm (.bool (decide (v > 4)))), .imm (.bool (!true || decide (v < 1) || decide (v > 4))), .imm (.bool (!true || decide (v < 1) || decide (v > 4))), .opt [((22 : Nat), false)] (.imm (.bytes b)), .opt [((22 : Nat), false)] (.imm (.int .i64 (b.length : Int))), .opt [((22 : Nat), false)] (.imm (.bool
 (decide ((b.length : Int) > 1000)))), .imm (.bool (!true || decide (v < 1) || decide (v > 4) || decide ((b.length : Int) > 1000))), .dead, .imm (.int .u8 w), .imm (.int .u8 (Int.tmod w (4 : Int)))] (lapp (dN 24) (lapp [.agg [.imm (.int .i64 2), .imm (.int IntKind.u32 (0 : Int)), .imm (.int IntKind.u32 (0 : Int)), .imm (.int IntKind.u32 (0 : Int)), .imm (.int IntKind.u32 (0 : Int)), .imm (.int IntKind.u32 (1 : Int)), .imm (.int IntKind.u32 (1 : Int))], .dead, .agg [.imm (.val (Value.slice none (0 : Nat) (0 : Nat))), .imm (.val (Value.slice none (0 : Nat) (0 : Nat))), AV.row (4 : Nat) (0 : Nat), .full (IV.bytes (List.map u8 [(0 : Int)])), .imm (.val (Value.slice none (0 : Nat) (0 : Nat))), .imm (.val (Value.slice none (0 : Nat) (0 : Nat))), .imm (.val (Value.slice none (0 : Nat) (0 : Nat)))], AV.row (5 : Nat) (0 : Nat), AV.row (3 : Nat) (0 : Nat)] (dN 12)))) [(0, Ob.mk true 0 (AObj.cells [.imm (.int .i64 v), .imm (.int IntKind.u32 iu), .imm (.int IntKind.u32 is), .imm (.int IntKind.u32 l), .imm (.int IntKind.u32 (4294967295 : Int)), .imm (.int IntKind.u32 ty), .imm (.int IntKind.u32 c)])), (1, Ob.mk true 0 (AObj.row (IV.bytes (Q1 ++ b)))), (2, Ob.mk true 0 (AObj.cells [.imm (.val
 (Value.slice none (0 : Nat) (0 : Nat))), .imm (.val (Value.slice none (0 : Nat) (0 : Nat))), AV.row (4 : Nat) (0 : Nat), .full (IV.bytes (List.map u8 [(0 : Int)])), .imm (.val (Value.slice none (0 : Nat) (0 : Nat))), .imm (.val (Value.slice none (0 : Nat) (0 : Nat))), .imm (.val (Value.slice none (0 : Nat) (0 : Nat)))])), (3, Ob.mk true 0 (AObj.row (IV.bytes (Q2 ++ Q3)))), (4, Ob.mk false 0 (AObj.row (IV.sl (3 : Nat) [[IV.int IntKind.i32 (0 : Int), IV.bool false, IV.int .u8 0]]))), (5, Ob.mk true 0 (AObj.row (IV.bytes Q3)))] (6 : Nat) []))); let E2 : Prop := ((sm (St.mk (lapp [.agg [.imm (.int .i64 v), .imm (.int IntKind.u32 iu), .imm (.int IntKind.u32 is), .imm (.int IntKind.u32 l), .imm (.int IntKind.u32 t), .imm (.int IntKind.u32 ty), .imm (.int IntKind.u32 c)], .imm (.bytes b), .imm (.int .u8 w), .ptr 0 0, .dead, .dead, .imm (.bool false), AV.row (1 : Nat) (0 : Nat), .ptr 2 0, AV.row (3 : Nat) (0 : Nat), .imm (.bool true), .imm (.bool false), .imm (.bool false), .opt [((12 : Nat), false)] (.ptr 0 0), .opt [((12 : Nat), false)] (.imm (.int .i64 v)), .opt [((12 : Nat), false)] (.imm (.bool (decide (v < 1)))), .imm (.bool (!true || decide (v < 1))), .imm (.bool (!true || decide (v
 < 1))), .opt [((17 : Nat), false)] (.ptr 0 0), .opt [((17 : Nat), false)] (.imm (.int .i64 v)), .opt [((17 : Nat), false)] (.imm (.bool (decide (v > 4)))), .imm (.bool (!true || decide (v < 1) || decide (v > 4))), .imm (.bool (!true || decide (v < 1) || decide (v > 4))), .opt [((22 : Nat), false)] (.imm (.bytes b)), .opt [((22 : Nat), false)] (.imm (.int .i64 (b.length : Int))), .opt [((22 : Nat), false)] (.imm (.bool (decide ((b.length : Int) > 1000)))), .imm (.bool (!true || decide (v < 1) || decide (v > 4) || decide ((b.length : Int) > 1000))), .dead, .imm (.int .u8 w), .imm (.int .u8 (Int.tmod w (4 : Int)))] (lapp (dN 24) (lapp [.agg [.imm (.int .i64 2), .imm (.int IntKind.u32 (0 : Int)), .imm (.int IntKind.u32 (0 : Int)), .imm (.int IntKind.u32 (0 : Int)), .imm (.int IntKind.u32 (0 : Int)), .imm (.int IntKind.u32 (1 : Int)), .imm (.int IntKind.u32 (1 : Int))], .dead, .agg [.imm (.val (Value.slice none (0 : Nat) (0 : Nat))), .imm (.val (Value.slice none (0 : Nat) (0 : Nat))), AV.row (4 : Nat) (0 : Nat), .full (IV.bytes (List.map u8 [(0 : Int)])), .imm (.val (Value.slice none (0 : Nat) (0 : Nat))), .imm (.val (Value.slice none (0 : Nat) (0 : Nat))), .imm (.val (Value.slice none
 (0 : Nat) (0 : Nat)))], AV.row (5 : Nat) (0 : Nat), AV.row (3 : Nat) (0 : Nat)] (dN 12)))) [(0, Ob.mk true 0 (AObj.cells [.imm (.int .i64 v), .imm (.int IntKind.u32 iu), .imm (.int IntKind.u32 is), .imm (.int IntKind.u32 l), .imm (.int IntKind.u32 t), .imm (.int IntKind.u32 ty), .imm (.int IntKind.u32 (4294967295 : Int))])), (1, Ob.mk true 0 (AObj.row (IV.bytes (Q4 ++ b)))), (2, Ob.mk true 0 (AObj.cells [.imm (.val (Value.slice none (0 : Nat) (0 : Nat))), .imm (.val (Value.slice none (0 : Nat) (0 : Nat))), AV.row (4 : Nat) (0 : Nat), .full (IV.bytes (List.map u8 [(0 : Int)])), .imm (.val (Value.slice none (0 : Nat) (0 : Nat))), .imm (.val (Value.slice none (0 : Nat) (0 : Nat))), .imm (.val (Value.slice none (0 : Nat) (0 : Nat)))])), (3, Ob.mk true 0 (AObj.row (IV.bytes (Q2 ++ Q3)))), (4, Ob.mk false 0 (AObj.row (IV.sl (3 : Nat) [[IV.int IntKind.i32 (0 : Int), IV.bool false, IV.int .u8 0]]))), (5, Ob.mk true 0 (AObj.row (IV.bytes Q3)))] (6 : Nat) []))); let E3 : Prop := ((sm (St.mk (lapp [.agg [.imm (.int .i64 v), .imm (.int IntKind.u32 iu), .imm (.int IntKind.u32 is), .imm (.int IntKind.u32 l), .imm (.int IntKind.u32 t), .imm (.int IntKind.u32 ty), .imm (.int IntKind.u32 c)], .imm
 (.bytes b), .imm (.int .u8 w), .ptr 0 0, .dead, .dead, .imm (.bool false), AV.row (1 : Nat) (0 : Nat), .ptr 2 0, AV.row (3 : Nat) (0 : Nat), .imm (.bool true), .imm (.bool false), .imm (.bool false), .opt [((12 : Nat), false)] (.ptr 0 0), .opt [((12 : Nat), false)] (.imm (.int .i64 v)), .opt [((12 : Nat), false)] (.imm (.bool (decide (v < 1)))), .imm (.bool (!true || decide (v < 1))), .imm (.bool (!true || decide (v < 1))), .opt [((17 : Nat), false)] (.ptr 0 0), .opt [((17 : Nat), false)] (.imm (.int .i64 v)), .opt [((17 : Nat), false)] (.imm (.bool (decide (v > 4)))), .imm (.bool (!true || decide (v < 1) || decide (v > 4))), .imm (.bool (!true || decide (v < 1) || decide (v > 4))), .opt [((22 : Nat), false)] (.imm (.bytes b)), .opt [((22 : Nat), false)] (.imm (.int .i64 (b.length : Int))), .opt [((22 : Nat), false)] (.imm (.bool (decide ((b.length : Int) > 1000)))), .imm (.bool (!true || decide (v < 1) || decide (v > 4) || decide ((b.length : Int) > 1000))), .dead, .imm (.int .u8 w), .imm (.int .u8 (Int.tmod w (4 : Int)))] (lapp (dN 24) (lapp [.agg [.imm (.int .i64 2), .imm (.int IntKind.u32 (0 : Int)), .imm (.int IntKind.u32 (0 : Int)), .imm (.int IntKind.u32 (0 : Int)), .imm
 (.int IntKind.u32 (0 : Int)), .imm (.int IntKind.u32 (1 : Int)), .imm (.int IntKind.u32 (1 : Int))], .dead, .agg [.imm (.val (Value.slice none (0 : Nat) (0 : Nat))), .imm (.val (Value.slice none (0 : Nat) (0 : Nat))), AV.row (4 : Nat) (0 : Nat), .full (IV.bytes (List.map u8 [(0 : Int)])), .imm (.val (Value.slice none (0 : Nat) (0 : Nat))), .imm (.val (Value.slice none (0 : Nat) (0 : Nat))), .imm (.val (Value.slice none (0 : Nat) (0 : Nat)))], AV.row (5 : Nat) (0 : Nat), AV.row (3 : Nat) (0 : Nat)] (dN 12)))) [(0, Ob.mk true 0 (AObj.cells [.imm (.int .i64 v), .imm (.int IntKind.u32 iu), .imm (.int IntKind.u32 is), .imm (.int IntKind.u32 (4294967295 : Int)), .imm (.int IntKind.u32 t), .imm (.int IntKind.u32 ty), .imm (.int IntKind.u32 c)])), (1, Ob.mk true 0 (AObj.row (IV.bytes (Q5 ++ b)))), (2, Ob.mk true 0 (AObj.cells [.imm (.val (Value.slice none (0 : Nat) (0 : Nat))), .imm (.val (Value.slice none (0 : Nat) (0 : Nat))), AV.row (4 : Nat) (0 : Nat), .full (IV.bytes (List.map u8 [(0 : Int)])), .imm (.val (Value.slice none (0 : Nat) (0 : Nat))), .imm (.val (Value.slice none (0 : Nat) (0 : Nat))), .imm (.val (Value.slice none (0 : Nat) (0 : Nat)))])), (3, Ob.mk true 0 (AObj.row
 (IV.bytes (Q2 ++ Q3)))), (4, Ob.mk false 0 (AObj.row (IV.sl (3 : Nat) [[IV.int IntKind.i32 (0 : Int), IV.bool false, IV.int .u8 0]]))), (5, Ob.mk true 0 (AObj.row (IV.bytes Q3)))] (6 : Nat) []))); let E4 : Prop := ((sm (St.mk (lapp [.agg [.imm (.int .i64 v), .imm (.int IntKind.u32 iu), .imm (.int IntKind.u32 is), .imm (.int IntKind.u32 l), .imm (.int IntKind.u32 t), .imm (.int IntKind.u32 ty), .imm (.int IntKind.u32 c)], .imm (.bytes b), .imm (.int .u8 w), .ptr 0 0, .dead, .dead, .imm (.bool false), AV.row (1 : Nat) (0 : Nat), .ptr 2 0, AV.row (3 : Nat) (0 : Nat), .imm (.bool true), .imm (.bool false), .imm (.bool false), .opt [((12 : Nat), false)] (.ptr 0 0), .opt [((12 : Nat), false)] (.imm (.int .i64 v)), .opt [((12 : Nat), false)] (.imm (.bool (decide (v < 1)))), .imm (.bool (!true || decide (v < 1))), .imm (.bool (!true || decide (v < 1))), .opt [((17 : Nat), false)] (.ptr 0 0), .opt [((17 : Nat), false)] (.imm (.int .i64 v)), .opt [((17 : Nat), false)] (.imm (.bool (decide (v > 4)))), .imm (.bool (!true || decide (v < 1) || decide (v > 4))), .imm (.bool (!true || decide (v < 1) || decide (v > 4))), .opt [((22 : Nat), false)] (.imm (.bytes b)), .opt [((22 : Nat), false)] (.imm
 (.int .i64 (b.length : Int))), .opt [((22 : Nat), false)] (.imm (.bool (decide ((b.length : Int) > 1000)))), .imm (.bool (!true || decide (v < 1) || decide (v > 4) || decide ((b.length : Int) > 1000))), .dead, .imm (.int .u8 w), .imm (.int .u8 (Int.tmod w (4 : Int)))] (lapp (dN 24) (lapp [.agg [.imm (.int .i64 2), .imm (.int IntKind.u32 (0 : Int)), .imm (.int IntKind.u32 (0 : Int)), .imm (.int IntKind.u32 (0 : Int)), .imm (.int IntKind.u32 (0 : Int)), .imm (.int IntKind.u32 (1 : Int)), .imm (.int IntKind.u32 (1 : Int))], .dead, .agg [.imm (.val (Value.slice none (0 : Nat) (0 : Nat))), .imm (.val (Value.slice none (0 : Nat) (0 : Nat))), AV.row (4 : Nat) (0 : Nat), .full (IV.bytes (List.map u8 [(0 : Int)])), .imm (.val (Value.slice none (0 : Nat) (0 : Nat))), .imm (.val (Value.slice none (0 : Nat) (0 : Nat))), .imm (.val (Value.slice none (0 : Nat) (0 : Nat)))], AV.row (5 : Nat) (0 : Nat), AV.row (3 : Nat) (0 : Nat)] (dN 12)))) [(0, Ob.mk true 0 (AObj.cells [.imm (.int .i64 v), .imm (.int IntKind.u32 (0 : Int)), .imm (.int IntKind.u32 (0 : Int)), .imm (.int IntKind.u32 l), .imm (.int IntKind.u32 t), .imm (.int IntKind.u32 (4294967295 : Int)), .imm (.int IntKind.u32 c)])), (1, Ob.mk
 true 0 (AObj.row (IV.bytes (Q6 ++ b)))), (2, Ob.mk true 0 (AObj.cells [.imm (.val (Value.slice none (0 : Nat) (0 : Nat))), .imm (.val (Value.slice none (0 : Nat) (0 : Nat))), AV.row (4 : Nat) (0 : Nat), .full (IV.bytes (List.map u8 [(0 : Int)])), .imm (.val (Value.slice none (0 : Nat) (0 : Nat))), .imm (.val (Value.slice none (0 : Nat) (0 : Nat))), .imm (.val (Value.slice none (0 : Nat) (0 : Nat)))])), (3, Ob.mk true 0 (AObj.row (IV.bytes (Q2 ++ Q3)))), (4, Ob.mk false 0 (AObj.row (IV.sl (3 : Nat) [[IV.int IntKind.i32 (0 : Int), IV.bool false, IV.int .u8 0]]))), (5, Ob.mk true 0 (AObj.row (IV.bytes Q3)))] (6 : Nat) []))); let E5 : Prop := ((sm (St.mk (lapp [.agg [.imm (.int .i64 v), .imm (.int IntKind.u32 iu), .imm (.int IntKind.u32 is), .imm (.int IntKind.u32 l), .imm (.int IntKind.u32 t), .imm (.int IntKind.u32 ty), .imm (.int IntKind.u32 c)], .imm (.bytes b), .imm (.int .u8 w), .ptr 0 0, .dead, .dead, .imm (.bool false), AV.row (1 : Nat) (0 : Nat), .ptr 2 0, AV.row (3 : Nat) (0 : Nat), .imm (.bool true), .imm (.bool false), .imm (.bool false), .opt [((12 : Nat), false)] (.ptr 0 0), .opt [((12 : Nat), false)] (.imm (.int .i64 v)), .opt [((12 : Nat), false)] (.imm (.bool (decide (v
 < 1)))), .imm (.bool (!true || decide (v < 1))), .imm (.bool (!true || decide (v < 1))), .opt [((17 : Nat), false)] (.ptr 0 0), .opt [((17 : Nat), false)] (.imm (.int .i64 v)), .opt [((17 : Nat), false)] (.imm (.bool (decide (v > 4)))), .imm (.bool (!true || decide (v < 1) || decide (v > 4))), .imm (.bool (!true || decide (v < 1) || decide (v > 4))), .opt [((22 : Nat), false)] (.imm (.bytes b)), .opt [((22 : Nat), false)] (.imm (.int .i64 (b.length : Int))), .opt [((22 : Nat), false)] (.imm (.bool (decide ((b.length : Int) > 1000)))), .imm (.bool (!true || decide (v < 1) || decide (v > 4) || decide ((b.length : Int) > 1000))), .dead, .imm (.int .u8 w), .imm (.int .u8 (Int.tmod w (4 : Int)))] (lapp (dN 24) (lapp [.agg [.imm (.int .i64 2), .imm (.int IntKind.u32 (0 : Int)), .imm (.int IntKind.u32 (0 : Int)), .imm (.int IntKind.u32 (0 : Int)), .imm (.int IntKind.u32 (0 : Int)), .imm (.int IntKind.u32 (1 : Int)), .imm (.int IntKind.u32 (1 : Int))], .dead, .agg [.imm (.val (Value.slice none (0 : Nat) (0 : Nat))), .imm (.val (Value.slice none (0 : Nat) (0 : Nat))), AV.row (4 : Nat) (0 : Nat), .full (IV.bytes (List.map u8 [(0 : Int)])), .imm (.val (Value.slice none (0 : Nat) (0 : Nat))),
 .imm (.val (Value.slice none (0 : Nat) (0 : Nat))), .imm (.val (Value.slice none (0 : Nat) (0 : Nat)))], AV.row (5 : Nat) (0 : Nat), AV.row (3 : Nat) (0 : Nat)] (dN 12)))) [(0, Ob.mk true 0 (AObj.cells [.imm (.int .i64 v), .imm (.int IntKind.u32 iu), .imm (.int IntKind.u32 is), .imm (.int IntKind.u32 l), .imm (.int IntKind.u32 t), .imm (.int IntKind.u32 ty), .imm (.int IntKind.u32 c)])), (1, Ob.mk true 0 (AObj.row (IV.bytes (Q7 ++ b)))), (2, Ob.mk true 0 (AObj.cells [.imm (.val (Value.slice none (0 : Nat) (0 : Nat))), .imm (.val (Value.slice none (0 : Nat) (0 : Nat))), AV.row (4 : Nat) (0 : Nat), .full (IV.bytes (List.map u8 [(0 : Int)])), .imm (.val (Value.slice none (0 : Nat) (0 : Nat))), .imm (.val (Value.slice none (0 : Nat) (0 : Nat))), .imm (.val (Value.slice none (0 : Nat) (0 : Nat)))])), (3, Ob.mk true 0 (AObj.row (IV.bytes (Q2 ++ Q3)))), (4, Ob.mk false 0 (AObj.row (IV.sl (3 : Nat) [[IV.int IntKind.i32 (0 : Int), IV.bool false, IV.int .u8 0]]))), (5, Ob.mk true 0 (AObj.row (IV.bytes Q3)))] (6 : Nat) []))); brn (!true || decide (v < 1) || decide (v > 4) || decide ((b.length : Int) > 1000)) (K [.imm (.bool true)]) ((4 : Int) ≠ 0 ∧ brn (Int.tmod w (4 : Int) == 0) (brn (!consH
 (Hd.mk v iu is l (4294967295 : Int) ty c)) (K [.imm (.bool true)]) ((1 : Int) ≤ v ∧ v ≤ 4 ∧ okH (Hd.mk v iu is l (4294967295 : Int) ty c) ∧ (List.length Q1 + b.length) * 1 ≤ 140737488355328 ∧ List.length Q1 + b.length ≤ 140737488355328 ∧ (0 : Int) ≤ 1 ∧ (1 : Int) ≤ 1 ∧ (↑(8 : Nat) : Int) * 1 ≤ 140737488355328 ∧ (1 : Int) ≤ 140737488355328 ∧ ((1 : Int) ≤ 2 ∧ (2 : Int) ≤ 4 ∧ okH (Hd.mk (2 : Int) (0 : Int) (0 : Int) (0 : Int) (0 : Int) (1 : Int) (1 : Int)) ∧ Y27.okE [] [] [[IV.int IntKind.i32 (0 : Int), IV.bool false, IV.int .u8 0]] (List.map u8 [(0 : Int)]) [] [] [] ∧ sz48 (4 : Int) ∧ (List.length Q2 + List.length Q3) * 1 ≤ 140737488355328 ∧ List.length Q2 + List.length Q3 ≤ 140737488355328 ∧ E1) ∧ (↑(Q1 ++ b).length : Int) ≤ big' ∧ brn (condB [((63 : Nat), Prod.fst Q8 == 0 && (Prod.snd Q8 == 6 && true)), ((62 : Nat), Prod.fst Q8 == 0 && (Prod.snd Q8 == 6 && true))] [((63 : Nat), true)]) (((Q2 ++ Q3).length + (Q1 ++ b).length) * 1 ≤ 140737488355328 ∧ (Q2 ++ Q3).length + (Q1 ++ b).length ≤ 140737488355328 ∧ ((Prod.fst Q8 == 0 && (Prod.snd Q8 == 6 && true)) = true → (↑(Q2 ++ Q3 ++ (Q1 ++ b)).length : Int) ≤ big') ∧ K [.imm (.bool (Prod.fst Q8 == 0 && (Prod.snd Q8 == 6 && true) &&
 (Prod.fst Q9 == 2 && (Prod.snd Q9 == 14 && true))))]) (brn (condB [((66 : Nat), false), ((63 : Nat), Prod.fst Q8 == 0 && (Prod.snd Q8 == 6 && true)), ((62 : Nat), Prod.fst Q8 == 0 && (Prod.snd Q8 == 6 && true))] [((63 : Nat), true)]) False False))) (brn (Int.tmod w (4 : Int) == 1) (brn (!consH (Hd.mk v iu is l t ty (4294967295 : Int))) (K [.imm (.bool true)]) ((1 : Int) ≤ v ∧ v ≤ 4 ∧ okH (Hd.mk v iu is l t ty (4294967295 : Int)) ∧ (List.length Q4 + b.length) * 1 ≤ 140737488355328 ∧ List.length Q4 + b.length ≤ 140737488355328 ∧ (0 : Int) ≤ 1 ∧ (1 : Int) ≤ 1 ∧ (↑(8 : Nat) : Int) * 1 ≤ 140737488355328 ∧ (1 : Int) ≤ 140737488355328 ∧ ((1 : Int) ≤ 2 ∧ (2 : Int) ≤ 4 ∧ okH (Hd.mk (2 : Int) (0 : Int) (0 : Int) (0 : Int) (0 : Int) (1 : Int) (1 : Int)) ∧ Y27.okE [] [] [[IV.int IntKind.i32 (0 : Int), IV.bool false, IV.int .u8 0]] (List.map u8 [(0 : Int)]) [] [] [] ∧ sz48 (4 : Int) ∧ (List.length Q2 + List.length Q3) * 1 ≤ 140737488355328 ∧ List.length Q2 + List.length Q3 ≤ 140737488355328 ∧ E2) ∧ (↑(Q4 ++ b).length : Int) ≤ big' ∧ brn (condB [((63 : Nat), Prod.fst Q10 == 0 && (Prod.snd Q10 == 6 && true)), ((62 : Nat), Prod.fst Q10 == 0 && (Prod.snd Q10 == 6 && true))] [((63 : Nat), true)])
 (((Q2 ++ Q3).length + (Q4 ++ b).length) * 1 ≤ 140737488355328 ∧ (Q2 ++ Q3).length + (Q4 ++ b).length ≤ 140737488355328 ∧ ((Prod.fst Q10 == 0 && (Prod.snd Q10 == 6 && true)) = true → (↑(Q2 ++ Q3 ++ (Q4 ++ b)).length : Int) ≤ big') ∧ K [.imm (.bool (Prod.fst Q10 == 0 && (Prod.snd Q10 == 6 && true) && (Prod.fst Q11 == 2 && (Prod.snd Q11 == 14 && true))))]) (brn (condB [((66 : Nat), false), ((63 : Nat), Prod.fst Q10 == 0 && (Prod.snd Q10 == 6 && true)), ((62 : Nat), Prod.fst Q10 == 0 && (Prod.snd Q10 == 6 && true))] [((63 : Nat), true)]) False False))) (brn (Int.tmod w (4 : Int) == 2) (brn (!consH (Hd.mk v iu is (4294967295 : Int) t ty c)) (K [.imm (.bool true)]) ((1 : Int) ≤ v ∧ v ≤ 4 ∧ okH (Hd.mk v iu is (4294967295 : Int) t ty c) ∧ (List.length Q5 + b.length) * 1 ≤ 140737488355328 ∧ List.length Q5 + b.length ≤ 140737488355328 ∧ (0 : Int) ≤ 1 ∧ (1 : Int) ≤ 1 ∧ (↑(8 : Nat) : Int) * 1 ≤ 140737488355328 ∧ (1 : Int) ≤ 140737488355328 ∧ ((1 : Int) ≤ 2 ∧ (2 : Int) ≤ 4 ∧ okH (Hd.mk (2 : Int) (0 : Int) (0 : Int) (0 : Int) (0 : Int) (1 : Int) (1 : Int)) ∧ Y27.okE [] [] [[IV.int IntKind.i32 (0 : Int), IV.bool false, IV.int .u8 0]] (List.map u8 [(0 : Int)]) [] [] [] ∧ sz48 (4 : Int) ∧
 (List.length Q2 + List.length Q3) * 1 ≤ 140737488355328 ∧ List.length Q2 + List.length Q3 ≤ 140737488355328 ∧ E3) ∧ (↑(Q5 ++ b).length : Int) ≤ big' ∧ brn (condB [((63 : Nat), Prod.fst Q12 == 0 && (Prod.snd Q12 == 6 && true)), ((62 : Nat), Prod.fst Q12 == 0 && (Prod.snd Q12 == 6 && true))] [((63 : Nat), true)]) (((Q2 ++ Q3).length + (Q5 ++ b).length) * 1 ≤ 140737488355328 ∧ (Q2 ++ Q3).length + (Q5 ++ b).length ≤ 140737488355328 ∧ ((Prod.fst Q12 == 0 && (Prod.snd Q12 == 6 && true)) = true → (↑(Q2 ++ Q3 ++ (Q5 ++ b)).length : Int) ≤ big') ∧ K [.imm (.bool (Prod.fst Q12 == 0 && (Prod.snd Q12 == 6 && true) && (Prod.fst Q13 == 2 && (Prod.snd Q13 == 14 && true))))]) (brn (condB [((66 : Nat), false), ((63 : Nat), Prod.fst Q12 == 0 && (Prod.snd Q12 == 6 && true)), ((62 : Nat), Prod.fst Q12 == 0 && (Prod.snd Q12 == 6 && true))] [((63 : Nat), true)]) False False))) (brn (Int.tmod w (4 : Int) == 3) (brn (!consH (Hd.mk v (0 : Int) (0 : Int) l t (4294967295 : Int) c)) (K [.imm (.bool true)]) ((1 : Int) ≤ v ∧ v ≤ 4 ∧ okH (Hd.mk v (0 : Int) (0 : Int) l t (4294967295 : Int) c) ∧ (List.length Q6 + b.length) * 1 ≤ 140737488355328 ∧ List.length Q6 + b.length ≤ 140737488355328 ∧ (0 : Int) ≤ 1 ∧ (1 :
 Int) ≤ 1 ∧ (↑(8 : Nat) : Int) * 1 ≤ 140737488355328 ∧ (1 : Int) ≤ 140737488355328 ∧ ((1 : Int) ≤ 2 ∧ (2 : Int) ≤ 4 ∧ okH (Hd.mk (2 : Int) (0 : Int) (0 : Int) (0 : Int) (0 : Int) (1 : Int) (1 : Int)) ∧ Y27.okE [] [] [[IV.int IntKind.i32 (0 : Int), IV.bool false, IV.int .u8 0]] (List.map u8 [(0 : Int)]) [] [] [] ∧ sz48 (4 : Int) ∧ (List.length Q2 + List.length Q3) * 1 ≤ 140737488355328 ∧ List.length Q2 + List.length Q3 ≤ 140737488355328 ∧ E4) ∧ (↑(Q6 ++ b).length : Int) ≤ big' ∧ brn (condB [((63 : Nat), Prod.fst Q14 == 0 && (Prod.snd Q14 == 6 && true)), ((62 : Nat), Prod.fst Q14 == 0 && (Prod.snd Q14 == 6 && true))] [((63 : Nat), true)]) (((Q2 ++ Q3).length + (Q6 ++ b).length) * 1 ≤ 140737488355328 ∧ (Q2 ++ Q3).length + (Q6 ++ b).length ≤ 140737488355328 ∧ ((Prod.fst Q14 == 0 && (Prod.snd Q14 == 6 && true)) = true → (↑(Q2 ++ Q3 ++ (Q6 ++ b)).length : Int) ≤ big') ∧ K [.imm (.bool (Prod.fst Q14 == 0 && (Prod.snd Q14 == 6 && true) && (Prod.fst Q15 == 2 && (Prod.snd Q15 == 14 && true))))]) (brn (condB [((66 : Nat), false), ((63 : Nat), Prod.fst Q14 == 0 && (Prod.snd Q14 == 6 && true)), ((62 : Nat), Prod.fst Q14 == 0 && (Prod.snd Q14 == 6 && true))] [((63 : Nat), true)]) False False)))
 (brn (!consH (Hd.mk v iu is l t ty c)) (K [.imm (.bool true)]) ((1 : Int) ≤ v ∧ v ≤ 4 ∧ okH (Hd.mk v iu is l t ty c) ∧ (List.length Q7 + b.length) * 1 ≤ 140737488355328 ∧ List.length Q7 + b.length ≤ 140737488355328 ∧ (0 : Int) ≤ 1 ∧ (1 : Int) ≤ 1 ∧ (↑(8 : Nat) : Int) * 1 ≤ 140737488355328 ∧ (1 : Int) ≤ 140737488355328 ∧ ((1 : Int) ≤ 2 ∧ (2 : Int) ≤ 4 ∧ okH (Hd.mk (2 : Int) (0 : Int) (0 : Int) (0 : Int) (0 : Int) (1 : Int) (1 : Int)) ∧ Y27.okE [] [] [[IV.int IntKind.i32 (0 : Int), IV.bool false, IV.int .u8 0]] (List.map u8 [(0 : Int)]) [] [] [] ∧ sz48 (4 : Int) ∧ (List.length Q2 + List.length Q3) * 1 ≤ 140737488355328 ∧ List.length Q2 + List.length Q3 ≤ 140737488355328 ∧ E5) ∧ (↑(Q7 ++ b).length : Int) ≤ big' ∧ brn (condB [((63 : Nat), Prod.fst Q16 == 0 && (Prod.snd Q16 == 6 && true)), ((62 : Nat), Prod.fst Q16 == 0 && (Prod.snd Q16 == 6 && true))] [((63 : Nat), true)]) (((Q2 ++ Q3).length + (Q7 ++ b).length) * 1 ≤ 140737488355328 ∧ (Q2 ++ Q3).length + (Q7 ++ b).length ≤ 140737488355328 ∧ ((Prod.fst Q16 == 0 && (Prod.snd Q16 == 6 && true)) = true → (↑(Q2 ++ Q3 ++ (Q7 ++ b)).length : Int) ≤ big') ∧ K [.imm (.bool (Prod.fst Q16 == 0 && (Prod.snd Q16 == 6 && true) && (Prod.fst Q17 == 2
 && (Prod.snd Q17 == 14 && true))))]) (brn (condB [((66 : Nat), false), ((63 : Nat), Prod.fst Q16 == 0 && (Prod.snd Q16 == 6 && true)), ((62 : Nat), Prod.fst Q16 == 0 && (Prod.snd Q16 == 6 && true))] [((63 : Nat), true)]) False False)))))))) := by kernel_rfl
end Y27
set_option maxRecDepth 100000
namespace Y27
open Go Go.AE Go.Proofs E6
def ext (c : Cu) (t : List UInt8) : Cu := ⟨c.d ++ t, c.p, c.e, c.a⟩
theorem adv_ext {c : Cu} {n : Int} (t : List UInt8) (h : (advU c n).e = 0) : advU (ext c t) n = ext (advU c n) t := by
  obtain ⟨a1, a2, a3, a4⟩ := adv_e0 h
  rw [restU_of a1] at a3
  rw [a4]
  have hr : n ≤ restU (ext c t) := by
    rw [restU_of (c := ext c t) a1]
    show n ≤ ((c.d ++ t).length : Int) - c.p
    rw [List.length_append]; omega
  unfold advU
  rw [if_pos (show (ext c t).e = 0 from a1), if_pos ⟨a2, hr⟩]
  rfl
theorem drop_ext {d t : List UInt8} {p n : Nat} (h : p + n ≤ d.length) : ((d ++ t).drop p).take n = (d.drop p).take n := by
  rw [List.drop_append_of_le_length (by omega), List.take_append_of_le_length (by rw [List.length_drop]; omega)]
theorem advOk_iff {c : Cu} {n : Int} : advOk c n = true ↔ (advU c n).e = 0 := by
  constructor
  · intro h
    have h' := of_decide_eq_true h
    unfold advU
    rw [if_pos h'.1, if_pos h'.2]
  · intro h
    obtain ⟨a1, a2, a3, _⟩ := adv_e0 h
    exact decide_eq_true ⟨a1, a2, a3⟩
theorem take_ext {c : Cu} {n : Int} (t : List UInt8) (hc : 0 ≤ c.p) (h : (advU c n).e = 0) : takeU (ext c t) n = takeU c n := by
  obtain ⟨a1, a2, a3, a4⟩ := adv_e0 h
  rw [restU_of a1] at a3
  have h1 : advOk (ext c t) n = true := advOk_iff.2 (by rw [adv_ext t h]; exact h)
  unfold takeU
  rw [if_pos h1, if_pos (advOk_iff.2 h)]
  show ((c.d ++ t).drop c.p.toNat).take n.toNat = _
  exact drop_ext (by omega)
theorem misI_congr {d d' w : List UInt8} (h : ∀ i, i < w.length → d.getD i 0 = d'.getD i 0) : misI d w = misI d' w := by
  cases hm : misI d' w with
  | none =>
    refine misI_none (fun j hj => ?_)
    unfold misI at hm
    rw [List.find?_eq_none] at hm
    have := hm j (List.mem_range.2 hj)
    rw [h j hj]
    simpa using this
  | some i =>
    unfold misI at hm
    rw [List.find?_range_eq_some] at hm
    obtain ⟨h1, h2, h3⟩ := hm
    have hi : i < w.length := by simpa using h2
    refine misI_some hi (fun j hj => ?_) ?_
    · rw [h j (by omega)]
      simpa using h3 j hj
    · rw [h i hi]
      simpa using h1
theorem getD_app {d t : List UInt8} {i : Nat} (h : i < d.length) : (d ++ t).getD i 0 = d.getD i 0 := by
  rw [List.getD_eq_getElem?_getD, List.getD_eq_getElem?_getD, List.getElem?_append_left h]
theorem exp_ext {c : Cu} {w : List UInt8} {y : Int} (t : List UInt8) (hc : 0 ≤ c.p) (hy : y ≠ 0) (h : (expU c w y).e = 0) : expU (ext c t) w y = ext (expU c w y) t := by
  obtain ⟨a1, a2, a3, a4⟩ := exp_e0 hy h
  have ha : (advU c w.length).e = 0 := by
    unfold advU
    rw [if_pos a1, if_pos ⟨by omega, a2⟩]
  rw [restU_of a1] at a2
  have hm : misI ((ext c t).d.drop (ext c t).p.toNat) w = none := by
    show misI ((c.d ++ t).drop c.p.toNat) w = none
    rw [← a3]
    refine misI_congr (fun i hi => ?_)
    rw [getD_drop, getD_drop]
    exact getD_app (by show c.p.toNat + i < c.d.length; omega)
  rw [a4]
  unfold expU
  rw [if_pos (advOk_iff.2 (by rw [adv_ext t ha]; exact ha)), hm]
  show advU (ext c t) w.length = _
  rw [adv_ext t ha, (adv_e0 ha).2.2.2]
theorem ver_ext {c : Cu} (t : List UInt8) (hc : 0 ≤ c.p) (h : (verU c).2.e = 0) : verU (ext c t) = ((verU c).1, ext (verU c).2 t) := by
  obtain ⟨a1, a2, a3, a4⟩ := ver_e0 h
  have ha : (advU c 1).e = 0 := by
    unfold advU
    rw [if_pos a1, if_pos ⟨by decide, a2⟩]
  rw [a4]
  unfold verU
  rw [adv_ext t ha, take_ext t hc ha, if_neg (show ¬ (ext (advU c 1) t).e ≠ 0 from fun x => x ha), if_neg a3, (adv_e0 ha).2.2.2]
theorem num4_ext {c : Cu} (t : List UInt8) (hc : 0 ≤ c.p) (h : (advU c 4).e = 0) : num4 (ext c t) = num4 c := by
  unfold num4
  rw [take_ext t hc h]
theorem hd_ext {c : Cu} (t : List UInt8) (hc : okU c) (h : (hdU c).2.e = 0) : hdU (ext c t) = ((hdU c).1, ext (hdU c).2 t) := by
  obtain ⟨h9, hcons, heq⟩ := hd_e c h
  have a8 := (adv_e0 (c := hq8 c) h9).1
  have a7 := (adv_e0 (c := hq7 c) a8).1
  have a6 := (adv_e0 (c := hq6 c) a7).1
  have a5 := (adv_e0 (c := hq5 c) a6).1
  have a4 := (adv_e0 (c := hq4 c) a5).1
  have a3 := (adv_e0 (c := hq3 c) a4).1
  have a2 := (exp_e0 (c := (hq2 c).2) (by decide) a3).1
  have a1 := (ver_e0 (c := hq1 c) a2).1
  have o1 : okU (hq1 c) := okU_exp hc
  have o2 : okU (hq2 c).2 := okU_ver o1
  have o3 : okU (hq3 c) := okU_exp o2
  have o4 : okU (hq4 c) := okU_adv o3
  have o5 : okU (hq5 c) := okU_adv o4
  have o6 : okU (hq6 c) := okU_adv o5
  have o7 : okU (hq7 c) := okU_adv o6
  have o8 : okU (hq8 c) := okU_adv o7
  have e1 : hq1 (ext c t) = ext (hq1 c) t := exp_ext t hc.1 (by decide) a1
  have e2 : hq2 (ext c t) = ((hq2 c).1, ext (hq2 c).2 t) := by
    show verU (hq1 (ext c t)) = _
    rw [e1]
    exact ver_ext t o1.1 a2
  have e3 : hq3 (ext c t) = ext (hq3 c) t := by
    show expU (hq2 (ext c t)).2 z15 5 = _
    rw [e2]
    exact exp_ext t o2.1 (by decide) a3
  have e4 : hq4 (ext c t) = ext (hq4 c) t := by
    show advU (hq3 (ext c t)) 4 = _
    rw [e3]; exact adv_ext t a4
  have e5 : hq5 (ext c t) = ext (hq5 c) t := by
    show advU (hq4 (ext c t)) 4 = _
    rw [e4]; exact adv_ext t a5
  have e6 : hq6 (ext c t) = ext (hq6 c) t := by
    show advU (hq5 (ext c t)) 4 = _
    rw [e5]; exact adv_ext t a6
  have e7 : hq7 (ext c t) = ext (hq7 c) t := by
    show advU (hq6 (ext c t)) 4 = _
    rw [e6]; exact adv_ext t a7
  have e8 : hq8 (ext c t) = ext (hq8 c) t := by
    show advU (hq7 (ext c t)) 4 = _
    rw [e7]; exact adv_ext t a8
  have e9 : hq9 (ext c t) = ext (hq9 c) t := by
    show advU (hq8 (ext c t)) 4 = _
    rw [e8]; exact adv_ext t h9
  have eH : hdRd (ext c t) = hdRd c := by
    unfold hdRd
    rw [e2, e3, e4, e5, e6, e7, e8, num4_ext t o3.1 a4, num4_ext t o4.1 a5, num4_ext t o5.1 a6, num4_ext t o6.1 a7, num4_ext t o7.1 a8, num4_ext t o8.1 h9]
  rw [heq]
  unfold hdU
  rw [if_pos (show (hq9 (ext c t)).e = 0 by rw [e9]; exact h9), eH, if_pos hcons, e9]
theorem pt_ext {d t : List UInt8} {o n : Int} (o0 : 0 ≤ o) (n0 : 0 ≤ n) (h : o + n ≤ (d.length : Int)) : pt (d ++ t) o n = pt d o n := by
  unfold pt
  exact drop_ext (by omega)
theorem dec_ext {k : Cu} {h : Hd} {s a : Int} (t : List UInt8) (hk : okU k) (hh : okH h) (hs : sz48 s) (he : (decU k h s a).2.e = 0) : decU (ext k t) h s a = ((decU k h s a).1, ext (decU k h s a).2 t) := by
  obtain ⟨d1, d2, d3, d4⟩ := dec_e0 he
  obtain ⟨q0, q1, q2, q3, q4, q5, q6, q7⟩ := sum_pos hh hs
  rw [restU_of d1] at d2
  obtain ⟨k1, k2, k3⟩ := hk
  have hl : (((k.d.drop k.p.toNat).length : Nat) : Int) = (k.d.length : Int) - k.p := by rw [List.length_drop]; omega
  have hdr : (ext k t).d.drop (ext k t).p.toNat = k.d.drop k.p.toNat ++ t := by
    show (k.d ++ t).drop k.p.toNat = _
    exact List.drop_append_of_le_length (by omega)
  have hsum : sumU h s = l0 h s + l1 h + l2 h + l3 h + l4 h s + l5 h + l6 h := rfl
  have hb0 : b0 (k.d.drop k.p.toNat ++ t) h s = b0 (k.d.drop k.p.toNat) h s := pt_ext (by decide) q0 (by omega)
  have hb1 : b1 (k.d.drop k.p.toNat ++ t) h s = b1 (k.d.drop k.p.toNat) h s := pt_ext (by unfold o1; omega) q1 (by unfold o1; omega)
  have hb2 : b2 (k.d.drop k.p.toNat ++ t) h s = b2 (k.d.drop k.p.toNat) h s := pt_ext (by unfold o2 o1; omega) q2 (by unfold o2 o1; omega)
  have hb3 : b3 (k.d.drop k.p.toNat ++ t) h s = b3 (k.d.drop k.p.toNat) h s := pt_ext (by unfold o3 o2 o1; omega) q3 (by unfold o3 o2 o1; omega)
  have hb4 : b4 (k.d.drop k.p.toNat ++ t) h s = b4 (k.d.drop k.p.toNat) h s := pt_ext (by unfold o4 o3 o2 o1; omega) q4 (by unfold o4 o3 o2 o1; omega)
  have hb5 : b5 (k.d.drop k.p.toNat ++ t) h s = b5 (k.d.drop k.p.toNat) h s := pt_ext (by unfold o5 o4 o3 o2 o1; omega) q5 (by unfold o5 o4 o3 o2 o1; omega)
  have hb6 : b6 (k.d.drop k.p.toNat ++ t) h s = b6 (k.d.drop k.p.toNat) h s := pt_ext (by unfold o6 o5 o4 o3 o2 o1; omega) q6 (by unfold o6 o5 o4 o3 o2 o1; omega)
  have hok : okD (k.d.drop k.p.toNat ++ t) h s = okD (k.d.drop k.p.toNat) h s := by
    unfold okD
    rw [hb2, hb5, hb6]
  have hdec : decB (k.d.drop k.p.toNat ++ t) h s = decB (k.d.drop k.p.toNat) h s := by
    unfold decB
    rw [hb0, hb1, hb2, hb3, hb4, hb5, hb6]
  have hf : fitsD (ext k t) h s = true := by
    refine decide_eq_true ?_
    rw [restU_of (c := ext k t) d1]
    show sumU h s ≤ ((k.d ++ t).length : Int) - k.p
    rw [List.length_append]; omega
  rw [d4]
  unfold decU
  rw [if_pos (show (ext k t).e = 0 from d1), if_pos hf, hdr, hok, if_pos d3, hdec]
  rfl
theorem next_ext {c : Cu} {s : Int} (t : List UInt8) (hc : okU c) (hs : sz48 s) (he : (hdU c).2.e = 0) (hn : (nextP c s).e = 0) : nextP (ext c t) s = ext (nextP c s) t := by
  have hx := hd_ext t hc he
  unfold nextP at hn ⊢
  rw [hx]
  show (decU (ext (hdU c).2 t) (hdU c).1 s 0).2 = _
  rw [dec_ext t (okU_hd hc) (okH_hd c) hs hn]
end Y27
set_option maxRecDepth 100000
namespace E6
open Go Go.AE Go.Proofs
theorem ofNat_toNat (b : UInt8) : UInt8.ofNat b.toNat = b := by simp
theorem toNat_ofNat (n : Nat) : (UInt8.ofNat (n % 256)).toNat = n % 256 := by simp
theorem beN_be : ∀ (n v : Nat), beN (be n v) = v % 256 ^ n
  | 0, v => by simp [be, beN, Nat.mod_one]
  | n + 1, v => by
    rw [be, beN_app, beN_be n (v / 256), toNat_ofNat, Nat.pow_succ, Nat.mul_comm (256 ^ n) 256, Nat.mod_mul, Nat.mul_comm, Nat.add_comm]
end E6
set_option maxRecDepth 100000
namespace Y27
open Go Go.AE Go.Proofs E6
def At (c : Cu) (x : List UInt8) : Prop := c.e = 0 ∧ okU c ∧ c.d.drop c.p.toNat = x
def mv (c : Cu) (n : Nat) : Cu := ⟨c.d, c.p + n, 0, c.a⟩
theorem at_len {c : Cu} {x : List UInt8} (h : At c x) : (x.length : Int) = (c.d.length : Int) - c.p := by
  obtain ⟨h1, ⟨h2, h3, h4⟩, h5⟩ := h
  rw [← h5, List.length_drop]
  omega
theorem at_adv {c : Cu} {x y : List UInt8} (h : At c (x ++ y)) : advU c x.length = mv c x.length ∧ At (mv c x.length) y := by
  have hl := at_len h
  obtain ⟨h1, ⟨h2, h3, h4⟩, h5⟩ := h
  rw [List.length_append] at hl
  have hr : (x.length : Int) ≤ restU c := by rw [restU_of h1]; omega
  refine ⟨?_, rfl, ⟨by show 0 ≤ c.p + _; omega, by show c.p + _ ≤ (c.d.length : Int); omega, h4⟩, ?_⟩
  · unfold advU
    rw [if_pos h1, if_pos ⟨by omega, hr⟩]
    rfl
  · show c.d.drop (c.p + (x.length : Int)).toNat = y
    have e : (c.p + (x.length : Int)).toNat = c.p.toNat + x.length := by omega
    rw [e, ← List.drop_drop, h5, List.drop_left]
theorem at_take {c : Cu} {x y : List UInt8} (h : At c (x ++ y)) : takeU c x.length = x := by
  have ha := (at_adv h).1
  have hok : advOk c x.length = true := advOk_iff.2 (by rw [ha]; rfl)
  obtain ⟨h1, h2, h5⟩ := h
  unfold takeU
  rw [if_pos hok, h5, Int.toNat_natCast, List.take_left]
theorem at_exp {c : Cu} {x y : List UInt8} (h : At c (x ++ y)) (w : Int) : expU c x w = mv c x.length ∧ At (mv c x.length) y := by
  obtain ⟨ha, hb⟩ := at_adv h
  refine ⟨?_, hb⟩
  have hok : advOk c x.length = true := advOk_iff.2 (by rw [ha]; rfl)
  have hm : misI (c.d.drop c.p.toNat) x = none := misI_none (fun j hj => by rw [h.2.2]; exact getD_app hj)
  unfold expU
  rw [if_pos hok, hm]
  exact ha
def vB (v : Int) : UInt8 := u8 (if v = 1 then 0 else 48 + v)
theorem at_ver {c : Cu} {v : Int} {y : List UInt8} (h : At c ([vB v] ++ y)) (v1 : 1 ≤ v) (v4 : v ≤ 4) : verU c = (v, mv c 1) ∧ At (mv c 1) y := by
  obtain ⟨ha, hb⟩ := at_adv h
  refine ⟨?_, hb⟩
  have ha' : advU c 1 = mv c 1 := ha
  have ht : takeU c 1 = [vB v] := at_take h
  have hv : verB (uintP [vB v] 0 1) = v := by
    have hk : v = 1 ∨ v = 2 ∨ v = 3 ∨ v = 4 := by omega
    rcases hk with rfl | rfl | rfl | rfl <;> decide
  unfold verU
  rw [ha', ht, hv, if_neg (show ¬ ((mv c 1).e ≠ 0) from fun h => h rfl), if_neg (by omega)]
theorem at_num {c : Cu} {n : Int} {y : List UInt8} (h : At c (be 4 n.toNat ++ y)) (hn : U32 n) : num4 c = n ∧ advU c 4 = mv c 4 ∧ At (mv c 4) y := by
  have hl : (be 4 n.toNat).length = 4 := be_len 4 _
  obtain ⟨ha, hb⟩ := at_adv h
  have ht := at_take h
  rw [hl] at ha hb ht
  refine ⟨?_, ha, hb⟩
  have ht' : takeU c 4 = be 4 n.toNat := ht
  obtain ⟨n0, n1⟩ := hn
  have hu : uintP (be 4 n.toNat) 0 4 = n.toNat := by
    unfold uintP okR
    rw [if_pos (by rw [hl]; decide), List.drop_zero, List.take_of_length_le (by rw [hl]; exact Nat.le_refl _), beN_be]
    omega
  unfold num4
  rw [ht', hu]
  have : IntKind.wrap .u32 ((n.toNat : Nat) : Int) = ((n.toNat : Nat) : Int) % 4294967296 := by
    unfold IntKind.wrap
    simp only [IntKind.signed, IntKind.bits, Bool.false_and, Bool.false_eq_true, if_false]
    omega
  rw [this]
  omega
theorem hdB_eq (h : Hd) (t : List UInt8) : hdB h ++ t = magC ++ ([vB h.v] ++ (z15 ++ (be 4 h.iu.toNat ++ (be 4 h.is.toNat ++ (be 4 h.l.toNat ++ (be 4 h.t.toNat ++ (be 4 h.ty.toNat ++ (be 4 h.c.toNat ++ t)))))))) := by
  have e : hd0 h.v = magC ++ ([vB h.v] ++ z15) := rfl
  unfold hdB
  rw [e]
  simp only [List.append_assoc]
theorem hdB_len (h : Hd) : (hdB h).length = 44 := by
  have := congrArg List.length (hdB_eq h [])
  simp only [List.length_append, be_len, List.append_nil] at this
  rw [this]
  rfl
theorem mv_mv (c : Cu) (n m : Nat) : mv (mv c n) m = mv c (n + m) := by
  unfold mv
  simp only [Cu.mk.injEq, true_and, and_true]
  omega
theorem at_hd {c : Cu} {h : Hd} {t : List UInt8} (hc : At c (hdB h ++ t)) (v1 : 1 ≤ h.v) (v4 : h.v ≤ 4) (hh : okH h) (hcons : consH h = true) : hdU c = (h, mv c 44) ∧ At (mv c 44) t := by
  rw [hdB_eq] at hc
  obtain ⟨a1, a2, a3, a4, a5, a6⟩ := hh
  obtain ⟨e1, k1⟩ := at_exp hc 3
  have e1' : hq1 c = mv c 4 := e1
  obtain ⟨e2, k2⟩ := at_ver k1 v1 v4
  have e2' : hq2 c = (h.v, mv (mv c 4) 1) := by
    show verU (hq1 c) = _
    rw [e1']; exact e2
  obtain ⟨e3, k3⟩ := at_exp k2 5
  have e3' : hq3 c = mv (mv (mv c 4) 1) 15 := by
    show expU (hq2 c).2 z15 5 = _
    rw [e2']; exact e3
  obtain ⟨n1, e4, k4⟩ := at_num k3 a1
  have k3' : z15.length = 15 := rfl
  have m3 : magC.length = 4 := rfl
  rw [k3', m3] at n1 e4 k4
  obtain ⟨n2, e5, k5⟩ := at_num k4 a2
  obtain ⟨n3, e6, k6⟩ := at_num k5 a3
  obtain ⟨n4, e7, k7⟩ := at_num k6 a4
  obtain ⟨n5, e8, k8⟩ := at_num k7 a5
  obtain ⟨n6, e9, k9⟩ := at_num k8 a6
  have f4 : hq4 c = mv (mv (mv (mv c 4) 1) 15) 4 := by
    show advU (hq3 c) 4 = _
    rw [e3']; exact e4
  have f5 : hq5 c = mv (mv (mv (mv (mv c 4) 1) 15) 4) 4 := by
    show advU (hq4 c) 4 = _
    rw [f4]; exact e5
  have f6 : hq6 c = mv (mv (mv (mv (mv (mv c 4) 1) 15) 4) 4) 4 := by
    show advU (hq5 c) 4 = _
    rw [f5]; exact e6
  have f7 : hq7 c = mv (mv (mv (mv (mv (mv (mv c 4) 1) 15) 4) 4) 4) 4 := by
    show advU (hq6 c) 4 = _
    rw [f6]; exact e7
  have f8 : hq8 c = mv (mv (mv (mv (mv (mv (mv (mv c 4) 1) 15) 4) 4) 4) 4) 4 := by
    show advU (hq7 c) 4 = _
    rw [f7]; exact e8
  have f9 : hq9 c = mv (mv (mv (mv (mv (mv (mv (mv (mv c 4) 1) 15) 4) 4) 4) 4) 4) 4 := by
    show advU (hq8 c) 4 = _
    rw [f8]; exact e9
  have hrd : hdRd c = h := by
    unfold hdRd
    rw [e2', e3', f4, f5, f6, f7, f8, n1, n2, n3, n4, n5, n6]
  have f9' : hq9 c = mv c 44 := by
    rw [f9]
    simp only [mv_mv]
  refine ⟨?_, ?_⟩
  · unfold hdU
    rw [if_pos (show (hq9 c).e = 0 by rw [f9']; rfl), hrd, if_pos hcons, f9']
  · have e : mv (mv (mv (mv (mv (mv (mv (mv (mv c 4) 1) 15) 4) 4) 4) 4) 4) 4 = mv c 44 := by simp only [mv_mv]
    rw [e] at k9
    exact k9
theorem huge_part {c : Cu} {h : Hd} {t : List UInt8} {s : Int} (hc : At c (hdB h ++ t)) (v1 : 1 ≤ h.v) (v4 : h.v ≤ 4) (hh : okH h) (hcons : consH h = true) (hb : (t.length : Int) < sumU h s) :
    (hdU c).2.e = 0 ∧ cntP c s = 0 ∧ (nextP c s).e ≠ 0 := by
  obtain ⟨e, k⟩ := at_hd hc v1 v4 hh hcons
  have hr : restU (mv c 44) = (t.length : Int) := by
    rw [restU_of k.1, at_len k]
  refine ⟨by rw [e]; rfl, ?_, ?_⟩
  · unfold cntP cntU
    rw [e]
    exact if_neg (by show ¬ (sumU h s ≤ restU (mv c 44)); rw [hr]; omega)
  · unfold nextP
    rw [e]
    intro hx
    have h3 : sumU h s ≤ restU (mv c 44) := (dec_e0 hx).2.1
    rw [hr] at h3
    omega
theorem huge_one {h : Hd} {t : List UInt8} (v1 : 1 ≤ h.v) (v4 : h.v ≤ 4) (hh : okH h) (hcons : consH h = true) (hb : (t.length : Int) < sumU h 4) (hl : (t.length : Int) ≤ 1000) : measU (hdB h ++ t) = (0, 6) := by
  have o0 : okU ⟨hdB h ++ t, 0, 0, 0⟩ := ⟨Int.le_refl 0, by show (0 : Int) ≤ ((hdB h ++ t).length : Int); omega, by show ((hdB h ++ t).length : Int) ≤ _; rw [List.length_append, hdB_len]; omega⟩
  have hc : At ⟨hdB h ++ t, 0, 0, 0⟩ (hdB h ++ t) := ⟨rfl, o0, rfl⟩
  obtain ⟨e1, e2, e3⟩ := huge_part hc v1 v4 hh hcons hb
  unfold measU measA
  rw [if_neg (fun x => x e1), if_pos (.inl e3), e2]
  rfl
def frontB : List UInt8 := slimH 2 ++ slimB 4
theorem front_facts : (hdU ⟨frontB, 0, 0, 0⟩).2.e = 0 ∧ cntP ⟨frontB, 0, 0, 0⟩ 4 = 2 ∧ nextP ⟨frontB, 0, 0, 0⟩ 4 = ⟨frontB, 51, 0, 0⟩ ∧ (hdU ⟨frontB, 0, 0, 0⟩).1.v = 2 ∧ sumU (hdU ⟨frontB, 0, 0, 0⟩).1 4 = 7 ∧ restU (hdU ⟨frontB, 0, 0, 0⟩).2 = 7 ∧ elems (hdU ⟨frontB, 0, 0, 0⟩).1 = 2 ∧ frontB.length = 51 := by
  refine ⟨by kernel_rfl, by kernel_rfl, by kernel_rfl, by kernel_rfl, by kernel_rfl, by kernel_rfl, by kernel_rfl, by kernel_rfl⟩
theorem huge_two {h : Hd} {t : List UInt8} (v1 : 1 ≤ h.v) (v4 : h.v ≤ 4) (hh : okH h) (hcons : consH h = true) (hb : (t.length : Int) < sumU h 8) (hl : (t.length : Int) ≤ 1000) : measU (frontB ++ (hdB h ++ t)) = (2, 14) := by
  obtain ⟨f1, f2, f3, f4, f5, f6, f7, f8⟩ := front_facts
  have oF : okU ⟨frontB, 0, 0, 0⟩ := ⟨Int.le_refl 0, by show (0 : Int) ≤ (frontB.length : Int); omega, by show (frontB.length : Int) ≤ _; omega⟩
  have hE : (⟨frontB ++ (hdB h ++ t), 0, 0, 0⟩ : Cu) = ext ⟨frontB, 0, 0, 0⟩ (hdB h ++ t) := rfl
  have hx := hd_ext (hdB h ++ t) oF f1
  have hn := next_ext (s := 4) (hdB h ++ t) oF sz4 f1 (by rw [f3])
  have hlen : ((frontB ++ (hdB h ++ t)).length : Int) = 95 + t.length := by
    rw [List.length_append, List.length_append, hdB_len, f8]; omega
  have hcnt : cntP (ext ⟨frontB, 0, 0, 0⟩ (hdB h ++ t)) 4 = 2 := by
    unfold cntP cntU
    rw [hx]
    show (if sumU (hdU ⟨frontB, 0, 0, 0⟩).1 4 ≤ restU (ext (hdU ⟨frontB, 0, 0, 0⟩).2 (hdB h ++ t)) then elems (hdU ⟨frontB, 0, 0, 0⟩).1 else 0) = 2
    rw [f5, f7, if_pos]
    rw [restU_of f1] at f6
    rw [restU_of (c := ext (hdU ⟨frontB, 0, 0, 0⟩).2 (hdB h ++ t)) f1]
    show 7 ≤ (((hdU ⟨frontB, 0, 0, 0⟩).2.d ++ (hdB h ++ t)).length : Int) - (hdU ⟨frontB, 0, 0, 0⟩).2.p
    rw [List.length_append]; omega
  have oN : okU (ext ⟨frontB, 51, 0, 0⟩ (hdB h ++ t)) := ⟨by show (0 : Int) ≤ 51; decide, by show (51 : Int) ≤ ((frontB ++ (hdB h ++ t)).length : Int); omega, by show ((frontB ++ (hdB h ++ t)).length : Int) ≤ _; omega⟩
  have hat : At (ext ⟨frontB, 51, 0, 0⟩ (hdB h ++ t)) (hdB h ++ t) := by
    refine ⟨rfl, oN, ?_⟩
    show (frontB ++ (hdB h ++ t)).drop 51 = _
    rw [← f8, List.drop_left]
  obtain ⟨e1, e2, e3⟩ := huge_part (s := 8) hat v1 v4 hh hcons hb
  have g1 : (hdU (ext ⟨frontB, 0, 0, 0⟩ (hdB h ++ t))).2.e = 0 := by rw [hx]; exact f1
  have g2 : ¬ ((nextP (ext ⟨frontB, 0, 0, 0⟩ (hdB h ++ t)) 4).e ≠ 0 ∨ (hdU (ext ⟨frontB, 0, 0, 0⟩ (hdB h ++ t))).1.v < 2) := by
    rw [hn, hx, f3]
    intro h
    rcases h with h | h
    · exact h rfl
    · have h' : (hdU ⟨frontB, 0, 0, 0⟩).1.v < 2 := h
      rw [f4] at h'
      exact absurd h' (by decide)
  unfold measU measA
  rw [hE, if_neg (fun x => x g1), if_neg g2, hcnt, hn, f3]
  unfold measB
  rw [if_neg (fun x => x e1), e2, foot_stick e3]
  rfl
end Y27
set_option maxRecDepth 100000
namespace Y27
open Go Go.AE Go.Proofs E6
attribute [local irreducible] loopK evCode evSpec loopB norm
theorem f3_in (b : List UInt8) (v : Int) (iu : Int) (is : Int) (l : Int) (t : Int) (ty : Int) (c : Int) (n : Int) (K : List AV → Prop) : evSpec M3 Tryz.f3 [by' b, hdAV v iu is l t ty c, u32 n] K = (let Q1 : Int × Int := (measU b); let A17 : Prop := ((brn ((4 : Int) * IntKind.wrap .i64 n + 64 == IntKind.wrap .i64 (IntKind.wrap .i64 ((4 : Int) * IntKind.wrap .i64 n) + 64) && ((16 : Int) * IntKind.wrap .i64 n + 64 == IntKind.wrap .i64 (IntKind.wrap .i64 ((16 : Int) * IntKind.wrap .i64 n) + 64) && true)) ((b.length : Int) ≤ big' ∧ K [.imm (.bool (wbU b == (decide (Prod.fst Q1 ≤ IntKind.wrap .i64 (IntKind.wrap .i64 ((4 : Int) * (b.length : Int)) + 64)) && decide (Prod.snd Q1 ≤ IntKind.wrap .i64 (IntKind.wrap .i64 ((16 : Int) * (b.length : Int)) + 64)))))]) (K [.imm (.bool false)]))); let A55 : Prop := ((okH (Hd.mk v iu is l t ty c) ∧ brn (elems (Hd.mk v iu is l t ty c) == elems (Hd.mk v iu is l t ty c)) (((0 : Int) ≤ IntKind.wrap .i64 n ∧ IntKind.wrap .i64 n ≤ 1099511627776 ∧ A17) ∧ (0 : Int) ≤ IntKind.wrap .i64 n ∧ IntKind.wrap .i64 n ≤ 1099511627776 ∧ A17) (K [.imm (.bool false)]))); let A57 : Prop := ((okH (Hd.mk v iu is l t ty c) ∧ A55)); let A90 : Prop := ((brn (Prod.fst Q1 ==
 Prod.fst Q1 && (Prod.snd Q1 == Prod.snd Q1 && true)) (((okH (Hd.mk v iu is l t ty c) ∧ A55) ∧ A57) ∧ A57) (K [.imm (.bool false)]))); brn (!true || decide ((b.length : Int) > 3000)) (K [.imm (.bool true)]) ((b.length : Int) ≤ big' ∧ ((b.length : Int) ≤ big' ∧ A90) ∧ (b.length : Int) ≤ big' ∧ A90)) := by kernel_rfl
end Y27
set_option maxRecDepth 100000
namespace Y27
open Go Go.AE Go.Proofs E6
attribute [local irreducible] loopK evCode evSpec loopB norm
theorem f4_in (b : List UInt8) (K : List AV → Prop) : evSpec M4 Tryz.f4 [by' b] K =
  (let Q1 : Int × Int := (measU b); brn (!true || decide ((↑(List.length b) : Int) > (3000 : Int))) (K [AV.imm (IV.bool true)]) ((↑(List.length b) : Int) ≤ big' ∧ ((decide (Prod.fst Q1 ≥ (0 : Int)) && decide (Prod.fst Q1 ≤ (↑(List.length b) : Int)) && decide (Prod.snd Q1 ≥ Prod.fst Q1) && decide (Prod.snd Q1 ≤ IntKind.wrap IntKind.i64 ((↑(List.length b) : Int) + (12 : Int)))) = true → (↑(List.length b) : Int) ≤ big') ∧ K [AV.imm (IV.bool (decide (Prod.fst Q1 ≥ (0 : Int)) && decide (Prod.fst Q1 ≤ (↑(List.length b) : Int)) && decide (Prod.snd Q1 ≥ Prod.fst Q1) && decide (Prod.snd Q1 ≤ IntKind.wrap IntKind.i64 ((↑(List.length b) : Int) + (12 : Int))) && wbU b))])) := by kernel_rfl
end Y27
set_option maxRecDepth 100000
namespace Y27
open Go Go.AE Go.Proofs E6
attribute [local irreducible] loopK evCode evSpec loopB norm
theorem f7_in (v : Int) (iu : Int) (is : Int) (l : Int) (t : Int) (ty : Int) (c : Int) (v' : Int) (iu' : Int) (is' : Int) (l' : Int) (t' : Int) (ty' : Int) (c' : Int) (b : List UInt8) (d : List UInt8) (K : List AV → Prop) : evSpec M7 Tryz.f7 [hdAV v iu is l t ty c, hdAV v' iu' is' l' t' ty' c', by' b, by' d] K = (let Q1 : Int × Int := (measU (List.map u8 [] ++ b ++ d)); let Q2 : Int × Int := (measU b); let A41 : Prop := ((okH (Hd.mk (0 : Int) (Int.tmod iu' (2147483648 : Int)) (Int.tmod is' (2147483648 : Int)) (Int.tmod l' (2147483648 : Int)) (Int.tmod t' (2147483648 : Int)) (Int.tmod ty' (2147483648 : Int)) (Int.tmod c' (2147483648 : Int))) ∧ brn (elems (Hd.mk (0 : Int) (IntKind.wrap IntKind.u32 (Int.tmod iu (2147483648 : Int) + Int.tmod iu' (2147483648 : Int))) (IntKind.wrap IntKind.u32 (Int.tmod is (2147483648 : Int) + Int.tmod is' (2147483648 : Int))) (IntKind.wrap IntKind.u32 (Int.tmod l (2147483648 : Int) + Int.tmod l' (2147483648 : Int))) (IntKind.wrap IntKind.u32 (Int.tmod t (2147483648 : Int) + Int.tmod t' (2147483648 : Int))) (IntKind.wrap IntKind.u32 (Int.tmod ty (2147483648 : Int) + Int.tmod ty' (2147483648 : Int))) (IntKind.wrap IntKind.u32 (Int.tmod c (2147483648 : Int)
 + Int.tmod c' (2147483648 : Int)))) == IntKind.wrap IntKind.u64 (elems (Hd.mk (0 : Int) (Int.tmod iu (2147483648 : Int)) (Int.tmod is (2147483648 : Int)) (Int.tmod l (2147483648 : Int)) (Int.tmod t (2147483648 : Int)) (Int.tmod ty (2147483648 : Int)) (Int.tmod c (2147483648 : Int))) + elems (Hd.mk (0 : Int) (Int.tmod iu' (2147483648 : Int)) (Int.tmod is' (2147483648 : Int)) (Int.tmod l' (2147483648 : Int)) (Int.tmod t' (2147483648 : Int)) (Int.tmod ty' (2147483648 : Int)) (Int.tmod c' (2147483648 : Int))))) (brn (decide (Prod.fst Q1 ≥ Prod.fst Q2)) (K [.imm (.bool (decide (Prod.snd Q1 ≥ Prod.snd Q2)))]) (K [.imm (.bool false)])) (K [.imm (.bool false)]))); let A43 : Prop := ((okH (Hd.mk (0 : Int) (Int.tmod iu (2147483648 : Int)) (Int.tmod is (2147483648 : Int)) (Int.tmod l (2147483648 : Int)) (Int.tmod t (2147483648 : Int)) (Int.tmod ty (2147483648 : Int)) (Int.tmod c (2147483648 : Int))) ∧ A41)); let A44 : Prop := (((okH (Hd.mk (0 : Int) (Int.tmod iu (2147483648 : Int)) (Int.tmod is (2147483648 : Int)) (Int.tmod l (2147483648 : Int)) (Int.tmod t (2147483648 : Int)) (Int.tmod ty (2147483648 : Int)) (Int.tmod c (2147483648 : Int))) ∧ A41) ∧ A43)); let A46 : Prop := ((okH (Hd.mk (0 :
 Int) (IntKind.wrap IntKind.u32 (Int.tmod iu (2147483648 : Int) + Int.tmod iu' (2147483648 : Int))) (IntKind.wrap IntKind.u32 (Int.tmod is (2147483648 : Int) + Int.tmod is' (2147483648 : Int))) (IntKind.wrap IntKind.u32 (Int.tmod l (2147483648 : Int) + Int.tmod l' (2147483648 : Int))) (IntKind.wrap IntKind.u32 (Int.tmod t (2147483648 : Int) + Int.tmod t' (2147483648 : Int))) (IntKind.wrap IntKind.u32 (Int.tmod ty (2147483648 : Int) + Int.tmod ty' (2147483648 : Int))) (IntKind.wrap IntKind.u32 (Int.tmod c (2147483648 : Int) + Int.tmod c' (2147483648 : Int)))) ∧ A43)); brn (!true || decide ((b.length : Int) > 3000) || decide ((d.length : Int) > 1000)) (K [.imm (.bool true)]) ((2147483648 : Int) ≠ 0 ∧ (2147483648 : Int) ≠ 0 ∧ (2147483648 : Int) ≠ 0 ∧ (2147483648 : Int) ≠ 0 ∧ (2147483648 : Int) ≠ 0 ∧ (2147483648 : Int) ≠ 0 ∧ (2147483648 : Int) ≠ 0 ∧ (2147483648 : Int) ≠ 0 ∧ (2147483648 : Int) ≠ 0 ∧ (2147483648 : Int) ≠ 0 ∧ (2147483648 : Int) ≠ 0 ∧ (2147483648 : Int) ≠ 0 ∧ (b.length : Int) ≤ big' ∧ ((List.map u8 []).length + b.length) * 1 ≤ 140737488355328 ∧ (List.map u8 []).length + b.length ≤ 140737488355328 ∧ ((List.map u8 [] ++ b).length + d.length) * 1 ≤ 140737488355328 ∧ (List.map
 u8 [] ++ b).length + d.length ≤ 140737488355328 ∧ (↑(List.map u8 [] ++ b ++ d).length : Int) ≤ big' ∧ (okH (Hd.mk (0 : Int) (IntKind.wrap IntKind.u32 (Int.tmod iu (2147483648 : Int) + Int.tmod iu' (2147483648 : Int))) (IntKind.wrap IntKind.u32 (Int.tmod is (2147483648 : Int) + Int.tmod is' (2147483648 : Int))) (IntKind.wrap IntKind.u32 (Int.tmod l (2147483648 : Int) + Int.tmod l' (2147483648 : Int))) (IntKind.wrap IntKind.u32 (Int.tmod t (2147483648 : Int) + Int.tmod t' (2147483648 : Int))) (IntKind.wrap IntKind.u32 (Int.tmod ty (2147483648 : Int) + Int.tmod ty' (2147483648 : Int))) (IntKind.wrap IntKind.u32 (Int.tmod c (2147483648 : Int) + Int.tmod c' (2147483648 : Int)))) ∧ A44) ∧ ((okH (Hd.mk (0 : Int) (IntKind.wrap IntKind.u32 (Int.tmod iu (2147483648 : Int) + Int.tmod iu' (2147483648 : Int))) (IntKind.wrap IntKind.u32 (Int.tmod is (2147483648 : Int) + Int.tmod is' (2147483648 : Int))) (IntKind.wrap IntKind.u32 (Int.tmod l (2147483648 : Int) + Int.tmod l' (2147483648 : Int))) (IntKind.wrap IntKind.u32 (Int.tmod t (2147483648 : Int) + Int.tmod t' (2147483648 : Int))) (IntKind.wrap IntKind.u32 (Int.tmod ty (2147483648 : Int) + Int.tmod ty' (2147483648 : Int))) (IntKind.wrap
 IntKind.u32 (Int.tmod c (2147483648 : Int) + Int.tmod c' (2147483648 : Int)))) ∧ A44) ∧ A46) ∧ (okH (Hd.mk (0 : Int) (IntKind.wrap IntKind.u32 (Int.tmod iu (2147483648 : Int) + Int.tmod iu' (2147483648 : Int))) (IntKind.wrap IntKind.u32 (Int.tmod is (2147483648 : Int) + Int.tmod is' (2147483648 : Int))) (IntKind.wrap IntKind.u32 (Int.tmod l (2147483648 : Int) + Int.tmod l' (2147483648 : Int))) (IntKind.wrap IntKind.u32 (Int.tmod t (2147483648 : Int) + Int.tmod t' (2147483648 : Int))) (IntKind.wrap IntKind.u32 (Int.tmod ty (2147483648 : Int) + Int.tmod ty' (2147483648 : Int))) (IntKind.wrap IntKind.u32 (Int.tmod c (2147483648 : Int) + Int.tmod c' (2147483648 : Int)))) ∧ A43) ∧ A46)) := by kernel_rfl
end Y27
set_option maxRecDepth 100000
namespace Y27
open Go Go.AE Go.Proofs E6
attribute [local irreducible] loopK evCode evSpec loopB norm
theorem len_big {b : List UInt8} (h : (b.length : Int) ≤ 4000) : (b.length : Int) ≤ big' := by
  have : big' = 1000000000000 := rfl
  omega
end Y27
set_option maxRecDepth 100000
namespace Y27
open Go Go.AE Go.Proofs E6
attribute [local irreducible] loopK evCode evSpec loopB norm
theorem f5_case {K : List AV → Prop} (hK : K [bo true]) {E Z : Prop} (hE : E) (h : Hd) (b : List UInt8) (v1 : 1 ≤ h.v) (v4 : h.v ≤ 4) (hh : okH h) (hl : (b.length : Int) ≤ 1000) (h4 : 1000 < sumU h 4) (h8 : 1000 < sumU h 8) :
    (brn (!consH h) (K [AV.imm (IV.bool true)]) ((1 : Int) ≤ h.v ∧ h.v ≤ (4 : Int) ∧ okH h ∧ (List.length (hdB h) + List.length b) * (1 : Nat) ≤ (140737488355328 : Nat) ∧ List.length (hdB h) + List.length b ≤ (140737488355328 : Nat) ∧ (0 : Int) ≤ (1 : Int) ∧ (1 : Int) ≤ (1 : Int) ∧ (↑(8 : Nat) : Int) * (1 : Int) ≤ (140737488355328 : Int) ∧ (1 : Int) ≤ (140737488355328 : Int) ∧ ((1 : Int) ≤ (2 : Int) ∧ (2 : Int) ≤ (4 : Int) ∧ okH (Hd.mk (2 : Int) (0 : Int) (0 : Int) (0 : Int) (0 : Int) (1 : Int) (1 : Int)) ∧ Y27.okE [] [] [[IV.int IntKind.i32 (0 : Int), IV.bool false, IV.int IntKind.u8 (0 : Int)]] (List.map u8 [(0 : Int)]) [] [] [] ∧ sz48 (4 : Int) ∧ (List.length (slimH 2) + List.length (slimB 4)) * (1 : Nat) ≤ (140737488355328 : Nat) ∧ List.length (slimH 2) + List.length (slimB 4) ≤ (140737488355328 : Nat) ∧ E) ∧ (↑(List.length (hdB h ++ b)) : Int) ≤ big' ∧ brn (condB [((63 : Nat), Prod.fst (measU (hdB h ++ b)) == (0 : Int) && (Prod.snd (measU (hdB h ++ b)) == (6 : Int) && true)), ((62 : Nat), Prod.fst (measU (hdB h ++ b)) == (0 : Int) && (Prod.snd (measU (hdB h ++ b)) == (6 : Int) && true))] [((63 : Nat), true)]) ((List.length (slimH 2 ++ slimB 4) + List.length (hdB h ++ b)) * (1 : Nat) ≤ (140737488355328 : Nat) ∧ List.length (slimH 2 ++ slimB 4) + List.length (hdB h ++ b) ≤ (140737488355328 : Nat) ∧ ((Prod.fst (measU (hdB h ++ b)) == (0 : Int) && (Prod.snd (measU (hdB h ++ b)) == (6 : Int) && true)) = true → (↑(List.length (slimH 2 ++ slimB 4 ++ (hdB h ++ b))) : Int) ≤ big') ∧ K [AV.imm (IV.bool (Prod.fst (measU (hdB h ++ b)) == (0 : Int) && (Prod.snd (measU (hdB h ++ b)) == (6 : Int) && true) && (Prod.fst (measU (slimH 2 ++ slimB 4 ++ (hdB h ++ b))) == (2 : Int) && (Prod.snd (measU (slimH 2 ++ slimB 4 ++ (hdB h ++ b))) == (14 : Int) && true))))]) Z)) := by
  refine brn_intro (fun _ => hK) (fun hc => ?_)
  have hcons : consH h = true := by simpa using hc
  have hb' : big' = 1000000000000 := rfl
  have hl1 : (hdB h ++ b).length = 44 + b.length := by rw [List.length_append, hdB_len]
  have m1 := huge_one (t := b) v1 v4 hh hcons (by omega) hl
  have m2 := huge_two (t := b) v1 v4 hh hcons (by omega) hl
  have fr : slimH 2 ++ slimB 4 = frontB := rfl
  have hf := front_facts.2.2.2.2.2.2.2
  have hl2 : (frontB ++ (hdB h ++ b)).length = 95 + b.length := by rw [List.length_append, hl1, hf]; omega
  have kH : okH ⟨2, 0, 0, 0, 0, 1, 1⟩ := by
    refine ⟨⟨?_, ?_⟩, ⟨?_, ?_⟩, ⟨?_, ?_⟩, ⟨?_, ?_⟩, ⟨?_, ?_⟩, ⟨?_, ?_⟩⟩ <;> decide
  have s1 : (slimH 2).length = 44 := hdB_len _
  have s2 : (slimB 4).length = 7 := by kernel_rfl
  rw [fr, m1, m2, hl1, hl2, hf, hdB_len, s1, s2]
  refine ⟨v1, v4, hh, by omega, by omega, by decide, by decide, by decide, by decide, ⟨by decide, by decide, kH, okE_slim, sz4, by decide, by decide, hE⟩, by omega, brn_intro (fun _ => ⟨by omega, by omega, fun _ => by omega, hK⟩) (fun h => ?_)⟩
  cases h
theorem sum_t {h : Hd} (hh : okH h) (hx : h.t = 4294967295 ∨ h.c = 4294967295 ∨ h.l = 4294967295 ∨ h.ty = 4294967295) : 1000 < sumU h 4 ∧ 1000 < sumU h 8 := by
  obtain ⟨⟨a1, a2⟩, ⟨b1, b2⟩, ⟨c1, c2⟩, ⟨d1, d2⟩, ⟨e1, e2⟩, ⟨f1, f2⟩⟩ := hh
  constructor <;> simp only [sumU, Y27.l0, Y27.l1, Y27.l2, Y27.l3, Y27.l4, Y27.l5, Y27.l6] <;> omega
set_option maxHeartbeats 4000000 in
theorem f5_ev (v iu is l t ty c : Int) (b : List UInt8) (w : Int) (hh : okH ⟨v, iu, is, l, t, ty, c⟩) (hw : 0 ≤ w) (K : List AV → Prop) (hK : K [bo true]) : evSpec M5 Tryz.f5 [hdAV v iu is l t ty c, by' b, .imm (.int .u8 w)] K := by
  refine Eq.mpr (f5_in v iu is l t ty c b w K) ?_
  obtain ⟨a1, a2, a3, a4, a5, a6⟩ := hh
  have big32 : U32 4294967295 := ⟨by decide, by decide⟩
  have z32 : U32 0 := ⟨by decide, by decide⟩
  intro Q1 Q2 Q3 Q4 Q5 Q6 Q7 Q8 Q9 Q10 Q11 Q12 Q13 Q14 Q15 Q16 Q17 E1 E2 E3 E4 E5
  refine brn_intro (fun _ => hK) (fun h => ?_)
  simp only [Bool.not_true, Bool.false_or, Bool.or_eq_false_iff, decide_eq_false_iff_not] at h
  obtain ⟨⟨h1, h2⟩, h3⟩ := h
  have hm : w.tmod 4 = 0 ∨ w.tmod 4 = 1 ∨ w.tmod 4 = 2 ∨ w.tmod 4 = 3 := by
    rw [Int.tmod_eq_emod_of_nonneg hw]; omega
  have k1 : okH ⟨v, iu, is, l, 4294967295, ty, c⟩ := ⟨a1, a2, a3, big32, a5, a6⟩
  have k2 : okH ⟨v, iu, is, l, t, ty, 4294967295⟩ := ⟨a1, a2, a3, a4, a5, big32⟩
  have k3 : okH ⟨v, iu, is, 4294967295, t, ty, c⟩ := ⟨a1, a2, big32, a4, a5, a6⟩
  have k4 : okH ⟨v, 0, 0, l, t, 4294967295, c⟩ := ⟨z32, z32, a3, a4, big32, a6⟩
  have s1 := sum_t k1 (.inl rfl)
  have s2 := sum_t k2 (.inr (.inl rfl))
  have s3 := sum_t k3 (.inr (.inr (.inl rfl)))
  have s4 := sum_t k4 (.inr (.inr (.inr rfl)))
  refine ⟨by decide, brn_intro (fun _ => ?_) (fun g1 => brn_intro (fun _ => ?_) (fun g2 => brn_intro (fun _ => ?_) (fun g3 => brn_intro (fun _ => ?_) (fun g4 => ?_))))⟩
  · exact f5_case hK (E := E1) rfl ⟨v, iu, is, l, 4294967295, ty, c⟩ b (by show 1 ≤ v; omega) (by show v ≤ 4; omega) k1 (by omega) s1.1 s1.2
  · exact f5_case hK (E := E2) rfl ⟨v, iu, is, l, t, ty, 4294967295⟩ b (by show 1 ≤ v; omega) (by show v ≤ 4; omega) k2 (by omega) s2.1 s2.2
  · exact f5_case hK (E := E3) rfl ⟨v, iu, is, 4294967295, t, ty, c⟩ b (by show 1 ≤ v; omega) (by show v ≤ 4; omega) k3 (by omega) s3.1 s3.2
  · exact f5_case hK (E := E4) rfl ⟨v, 0, 0, l, t, 4294967295, c⟩ b (by show 1 ≤ v; omega) (by show v ≤ 4; omega) k4 (by omega) s4.1 s4.2
  · exfalso
    simp only [beq_eq_false_iff_ne, ne_eq] at g1 g2 g3 g4
    omega
end Y27
namespace Go.Proofs.YthdioiodfodlpaaGreatDoor
open Go Go.AE Go.Proofs Y27 E6
open Go.ChangeShapes Go.WideShapes Go.ChangeAt Go.RowKit Go.ChangeMaps
attribute [local irreducible] loopK evCode evSpec loopB norm evFunc
theorem Tryz.own : ownKnob Tryz.prog.godebug = none := by kernel_rfl
set_option maxRecDepth 100000 in
theorem f5_lifted (os : Os) (started : os.Started) (H : Type) (enc : TypeId × Value → H) :
    ReturnsInHanded {} Tryz.checked os 5 .any (fun w args => (Rows.costOfHugeHeaderSpec.pre enc Tryz.prog Tryz.f5 [] false w args ∧ laidMetH Tryz.prog Rows.costMatchesReferenceRow.laid w) ∧ sizedMet enc Tryz.prog Tryz.f5 (OpenSpec.ofChange Rows.costOfHugeHeaderSpec) false w args)
      (Rows.costOfHugeHeaderSpec.post enc Tryz.prog Tryz.f5 false true false false) := by
  refine returnsInHanded_of_change_and (C := Tryz.checked) (X := fun w _ => laidMetH Tryz.prog Rows.costMatchesReferenceRow.laid w) (fun _ _ _ hh h => h.of_heap hh) Tryz.own started (by kernel_rfl) Tryz.func5
    (ChangeSpec.witness_at (enc := enc) (C := Tryz.checked) (os := os) (X := fun w _ => laidMetH Tryz.prog Rows.costMatchesReferenceRow.laid w) false (laidWorld os) #[.agg #[.int .i64 0, .int .u32 0, .int .u32 0, .int .u32 0, .int .u32 0, .int .u32 0, .int .u32 0], .slice none 0 0, .int .u8 0] 8 rfl (by kernel_rfl) (by kernel_rfl) (by kernel_rfl) (by kernel_rfl) (by kernel_rfl) (door_met os _)) ?_
  intro W base args ds gs before hval0 hW _ hsz hL _
  obtain ⟨l⟩ := args
  have hval : ∀ (j : Nat) t v, Tryz.f5.params[j]? = some t → l[j]? = some v → Value.okWide Tryz.prog W .any base t v := fun j t v h1 h2 => hval0 j t v h1 (by simpa using h2)
  have hW' := hW
  obtain ⟨p, q, hB, hV, rfl, hfz, hnd⟩ := hW
  obtain ⟨rfl, rfl⟩ := trodVars_none hV
  have hA0 : DataW.TrodAll enc Tryz.prog W 0 (fun _ => true) true [25, 22, 5] l ds p := by have h := hB; rw [Tryz.params5] at h; exact h
  rw [Tryz.params5] at hval
  clear hB hval0
  obtain ⟨v0, l, d0, ds, p0, p, rfl, rfl, h0, hA1, rfl⟩ := all_cons hA0
  obtain ⟨v1, l, d1, ds, p1, p, rfl, rfl, h1, hA2, rfl⟩ := all_cons hA1
  obtain ⟨v2, l, d2, ds, p2, p, rfl, rfl, h2, hA3, rfl⟩ := all_cons hA2
  obtain ⟨rfl, rfl, rfl⟩ := all_nil hA3
  obtain ⟨i0, l0, rfl, k0⟩ := open_flat Tryz.underlying25 (by kernel_rfl : flatK Tryz.prog false 40 25 = some [(.int .i64), (.int .u32), (.int .u32), (.int .u32), (.int .u32), (.int .u32), (.int .u32)]) (hval 0 25 v0 rfl rfl) h0
  have K0 := k0
  obtain ⟨n0a, i0, l0, rfl, rfl, m0a, k0_1⟩ := k0.cons_int
  obtain ⟨n0b, i0, l0, rfl, rfl, m0b, k0_2⟩ := k0_1.cons_int
  obtain ⟨n0c, i0, l0, rfl, rfl, m0c, k0_3⟩ := k0_2.cons_int
  obtain ⟨n0d, i0, l0, rfl, rfl, m0d, k0_4⟩ := k0_3.cons_int
  obtain ⟨n0e, i0, l0, rfl, rfl, m0e, k0_5⟩ := k0_4.cons_int
  obtain ⟨n0f, i0, l0, rfl, rfl, m0f, k0_6⟩ := k0_5.cons_int
  obtain ⟨n0g, i0, l0, rfl, rfl, m0g, k0_7⟩ := k0_6.cons_int
  obtain ⟨rfl, rfl⟩ := k0_7.end
  obtain ⟨l1, m1, r1⟩ := open_byteslice Tryz.underlying22 (by kernel_rfl : flatK Tryz.prog false 40 5 = some [.int .u8]) (by kernel_rfl) (by decide +kernel) (hval 1 22 v1 rfl rfl) h1 (fun el rs h => sized_slice hsz (j := 1) (by rw [Tryz.params5]; rfl) (by rw [h]; rfl) Tryz.underlying22)
  obtain ⟨a2, rfl, rfl, rfl, w2⟩ := open_int Tryz.underlying5 (hval 2 5 v2 rfl rfl) h2
  have m2 := inR_wf w2
  have hspec : SpecOK Tryz.prog G16 5 [.agg [.imm (.int .i64 n0a), .imm (.int .u32 n0b), .imm (.int .u32 n0c), .imm (.int .u32 n0d), .imm (.int .u32 n0e), .imm (.int .u32 n0f), .imm (.int .u32 n0g)], .imm (.bytes l1), .imm (.int .u8 a2)] [] [.imm (.bool true)] := spec_ok (C := M5) okF15 noCall_ok Tryz.func5 (by kernel_rfl) (by kernel_rfl) (fun _ => f5_ev n0a n0b n0c n0d n0e n0f n0g l1 a2 ⟨u32_of m0b, u32_of m0c, u32_of m0d, u32_of m0e, u32_of m0f, u32_of m0g⟩ m2.1 _ rfl)
  refine (bool_calls hspec (fun p h => by cases h) W _ rfl (fun j c hc => ?_) (gok_of_laid hL)).mono fun e W' ⟨he, hw⟩ => ?_
  · match j with
    | 0 => simp only [List.getElem?_cons_zero, Option.some.injEq] at hc; subst hc; exact K0.arep
    | 1 => simp only [List.getElem?_cons_succ, List.getElem?_cons_zero, Option.some.injEq] at hc; subst hc; exact rep_at r1 rfl
    | 2 => simp only [List.getElem?_cons_succ, List.getElem?_cons_zero, Option.some.injEq] at hc; subst hc; exact .imm (.int m2)
    | j + 3 => simp at hc
  subst he
  exact ⟨_, rfl, row_post hW' rfl (by kernel_rfl) (by kernel_rfl) rfl rfl Tryz.underlying4 hw⟩
theorem f5_row : Rows.CostOfHugeHeaderSaid :=
  OpenClaim.holds_of_wide 5 Tryz.f5 rfl rfl rfl rfl rfl rfl rfl ⟨rfl, rfl, rfl, rfl, rfl⟩ rfl rfl rfl rfl rfl (by kernel_rfl) Tryz.func5 (by kernel_rfl)
    (of_decide_eq_true (by kernel_rfl)) (by unfold Func.isWrapper; first | (rw [if_pos (by decide +kernel)]; kernel_rfl) | (rw [if_neg (by decide +kernel)]; exact ⟨rfl, rfl⟩))
    (fun os started H enc _ => f5_lifted os started H enc)
theorem f5_holds : Rows.CostOfHugeHeaderCardSaid :=
  Claim7.holds_tied_plain_at .later [] [.data, .data, .handle] true Rows.costOfHugeHeaderCard.stood.harness true
    f5_row (fun _ h => by cases h) (by kernel_rfl) (fun _ h => by cases h) costOfHugeHeader_row_tie rfl ⟨rfl, rfl⟩ (by kernel_rfl) rfl
    (fun f fn hf hfn => by
      obtain rfl : f = 5 := Option.some.inj ((show Tryz.prog.funcNamed "zoneinfo/zoneinfolaw27.CostOfHugeHeader" = some 5 by kernel_rfl).symm.trans hf) |>.symm
      obtain rfl : fn = Tryz.f5 := (Option.some.inj (Tryz.func5.symm.trans hfn)).symm
      exact ⟨by kernel_rfl, fun j t ht => by
        rw [Tryz.params5] at ht
        have hm : t ∈ [25, 22, 5] := by simpa using Array.mem_of_getElem? ht
        have hall : ([25, 22, 5].all fun u => !Tryz.prog.wantsStandIn u) = true := by kernel_rfl
        exact (show Tryz.prog.wantsStandIn t = false by simpa using List.all_eq_true.1 hall t hm)⟩)
    (by kernel_rfl)
end Go.Proofs.YthdioiodfodlpaaGreatDoor
