/- For every cursor, header, block, time size and number the law BlockMatchesReference returns true and its arguments read as before. No further condition. -/
import Derived.Test.YtmmioohcgdnpdaaDoorAe5
import Derived.ProofKit
import Derived.WideKeyArgs
import Derived.SizedLaws
import Derived.ChangeSlices
import Derived.Test.YtmmioohcgdnpdaaDoorRows
import Derived.Test.YtmmioohcgdnpdaaDoorTie
import Derived.Test.YtmmioohcgdnpdaaDoorCards
import Derived.LaidMore
import Derived.LaidHandle
import Derived.LaidLaws
import Derived.OpenShut
import Derived.Stop.Joined
import Derived.SevenTiedAt
import Derived.KernelRfl
set_option linter.all false
namespace Go.AE
open Go.ChangeShapes Go.WideShapes Go.ChangeAt Go.RowKit
section
variable {H : Type} {enc : TypeId × Value → H} {P : Program}
theorem args_stay (hl : laidOutB P = true) {W W' : World} {sp' : Nat → Bool} : ∀ {ts : List TypeId} {vs : List Value} {ds : List (DataW H)} {ps : List MemPlace},
    lall (fun t => bif P.readableRec t then decide (t < P.types.size) else false) ts = true → DataW.TrodAll enc P W 0 (fun _ => true) true ts vs ds ps → (∀ p ∈ ps, W.sameAt W' p) → (∀ p ∈ ps, sp' p.block = true) →
    DataW.TrodAll enc P W' 0 sp' true ts vs ds ps
  | [], [], [], _, _, h, _, _ => h
  | [], _ :: _, _, _, _, h, _, _ => h.elim
  | [], [], _ :: _, _, _, h, _, _ => h.elim
  | _ :: _, [], _, _, _, h, _, _ => h.elim
  | _ :: _, _ :: _, [], _, _, h, _, _ => h.elim
  | t :: ts, v :: vs, d :: ds, ps, hc, h, hs, hp => by
    obtain ⟨p, q, h1, h2, rfl⟩ := h
    rw [lall] at hc
    cases hb : (bif P.readableRec t then decide (t < P.types.size) else false) with
    | false => rw [hb] at hc; cases hc
    | true =>
      rw [hb] at hc
      cases hr : P.readableRec t with
      | false => rw [hr] at hb; cases hb
      | true =>
        rw [hr] at hb
        exact ⟨p, q, WideElems.Trod_stays hl hr (of_decide_eq_true hb) h1 (fun x hx => hs x (by simp [hx])) (fun x hx => hp x (by simp [hx])),
          args_stay hl hc h2 (fun x hx => hs x (by simp [hx])) (fun x hx => hp x (by simp [hx])), rfl⟩
end
inductive KRep : List CK → List IV → List Value → Prop
  | nil : KRep [] [] []
  | int {k : IntKind} {n : Int} {ks : List CK} {is : List IV} {vs : List Value} : InR k n → KRep ks is vs → KRep (.int k :: ks) (.int k n :: is) (.int k n :: vs)
  | bool {b : Bool} {ks : List CK} {is : List IV} {vs : List Value} : KRep ks is vs → KRep (.bool :: ks) (.bool b :: is) (.bool b :: vs)
  | str {s : ByteArray} {ks : List CK} {is : List IV} {vs : List Value} : (bytesOf s).length ≤ 9223372036854775807 → KRep ks is vs → KRep (.str :: ks) (.str (bytesOf s) :: is) (.string s :: vs)
theorem KRep.app {ks ks' : List CK} {is is' : List IV} {vs vs' : List Value} (h : KRep ks is vs) (h' : KRep ks' is' vs') : KRep (ks ++ ks') (is ++ is') (vs ++ vs') := by
  induction h with
  | nil => exact h'
  | int h1 _ ih => exact .int h1 ih
  | bool _ ih => exact .bool ih
  | str h1 _ ih => exact .str h1 ih
theorem KRep.len {ks : List CK} {is : List IV} {vs : List Value} (h : KRep ks is vs) : is.length = ks.length ∧ vs.length = ks.length := by
  induction h with
  | nil => exact ⟨rfl, rfl⟩
  | int _ _ ih => simp [ih]
  | bool _ ih => simp [ih]
  | str _ _ ih => simp [ih]
theorem KRep.cons_int {k : IntKind} {ks : List CK} {is : List IV} {vs : List Value} (h : KRep (.int k :: ks) is vs) : ∃ n is' vs', is = .int k n :: is' ∧ vs = .int k n :: vs' ∧ InR k n ∧ KRep ks is' vs' := by
  cases h with
  | int h1 h2 => exact ⟨_, _, _, rfl, rfl, h1, h2⟩
theorem KRep.cons_bool {ks : List CK} {is : List IV} {vs : List Value} (h : KRep (.bool :: ks) is vs) : ∃ b is' vs', is = .bool b :: is' ∧ vs = .bool b :: vs' ∧ KRep ks is' vs' := by
  cases h with
  | bool h2 => exact ⟨_, _, _, rfl, rfl, h2⟩
theorem KRep.end {is : List IV} {vs : List Value} (h : KRep [] is vs) : is = [] ∧ vs = [] := by
  cases h; exact ⟨rfl, rfl⟩
theorem KRep.rep {w : World} {own : Nat → Prop} {ks : List CK} {is : List IV} {vs : List Value} (h : KRep ks is vs) : ∀ (j : Nat) c, is[j]? = some c → Rep w own c (vs.getD j undef) ∧ (vs.getD j undef).oneCell' = true := by
  have one : ∀ {c : IV} {V : Value} {is : List IV} {vs : List Value}, Rep w own c V → (∀ (j : Nat) c, is[j]? = some c → Rep w own c (vs.getD j undef) ∧ (vs.getD j undef).oneCell' = true) →
      ∀ (j : Nat) c', (c :: is)[j]? = some c' → Rep w own c' ((V :: vs).getD j undef) ∧ ((V :: vs).getD j undef).oneCell' = true := by
    intro c V is vs h1 h2 j c' hc
    cases j with
    | zero => simp only [List.getElem?_cons_zero, Option.some.injEq] at hc; subst hc; exact ⟨h1, h1.oneCell⟩
    | succ j => exact h2 j c' (by simpa using hc)
  induction h with
  | nil => intro j c hc; simp at hc
  | int h1 _ ih => exact one (.int h1) ih
  | bool _ ih => exact one .bool ih
  | str h1 _ ih => exact one (.str rfl h1) ih
section
variable {H : Type} {enc : TypeId × Value → H} {P : Program} {w : World} {base : Nat} {sp : Nat → Bool} {held : Bool}
theorem inR_wf {k : IntKind} {n : Int} (h : (Lit.int k n).wf = true) : InR k n := by
  simp only [Lit.wf, Bool.and_eq_true, decide_eq_true_eq] at h
  exact ⟨by have := h.1; omega, by have := h.2; omega⟩
mutual
theorem flat_open : ∀ (d : Nat) {t : TypeId} {ks : List CK} {n : Nat} {cs : List Value} {x : DataW H × List MemPlace}, flatK P false d t = some ks → DataW.trod enc P w base sp held n t cs = some x → (∃ is, KRep ks is cs) ∧ x.2 = []
  | 0, t, ks, n, cs, x, h, _ => by simp [flatK] at h
  | d + 1, t, ks, n, cs, x, h, hx => by
    unfold flatK at h
    split at h
    · rename_i k hu
      cases h
      obtain ⟨m, rfl, rfl, hw⟩ := DataW.trod_int hu hx
      exact ⟨⟨[.int k m], .int (inR_wf hw) .nil⟩, rfl⟩
    · rename_i hu
      cases h
      obtain ⟨b, rfl, rfl⟩ := DataW.trod_bool hu hx
      exact ⟨⟨[.bool b], .bool .nil⟩, rfl⟩
    · rename_i hu
      cases h
      obtain ⟨s, rfl, rfl, hs⟩ := DataW.trod_string hu hx
      exact ⟨⟨[.str (bytesOf s)], .str (by rw [← size_bytes]; exact hs) .nil⟩, rfl⟩
    · rename_i fs hu
      obtain ⟨xs, m, rfl, rfl, hlen, hsz, hf⟩ := DataW.trod_struct hu hx
      cases hF : flatF P false d 0 fs.toList with
      | none => rw [hF] at h; cases h
      | some ks' =>
        rw [hF] at h
        cases hb : Nat.beq (llen ks') (P.cellsOf t) with
        | false => simp only [hb, cond_false] at h; cases h
        | true =>
          simp only [hb, cond_true] at h
          cases h
          have hb' := nbeq hb
          obtain ⟨⟨is, his⟩, hp⟩ := flatF_open d (o := 0) (xs := xs) (cs := cs) (n := m) hF (by simp [hsz]) (fun i f hi => hf i f (by simpa using hi))
          refine ⟨⟨is, ?_⟩, ?_⟩
          · rw [List.drop_zero, List.take_of_length_le (by rw [hlen, ← hb', llen_eq]; exact Nat.le_refl _)] at his
            exact his
          · simp only [List.flatMap_eq_nil_iff]
            exact hp
    · cases h
    · cases h
    · cases h
theorem flatF_open : ∀ (d : Nat) {o : Nat} {fs : List Field} {ks : List CK} {n : Nat} {cs : List Value} {xs : List (DataW H × List MemPlace)}, flatF P false d o fs = some ks → xs.length = fs.length →
    (∀ (i : Nat) (f : Field), fs[i]? = some f → DataW.trod enc P w base sp held n f.type ((cs.drop f.offset).take (P.cellsOf f.type)) = xs[i]?) → (∃ is, KRep ks is ((cs.drop o).take ks.length)) ∧ ∀ x ∈ xs, x.2 = []
  | 0, o, fs, ks, n, cs, xs, h, _, _ => by simp [flatF] at h
  | d + 1, o, [], ks, n, cs, xs, h, hl, _ => by
    simp only [flatF] at h
    cases h
    have : xs = [] := by simpa using hl
    subst this
    exact ⟨⟨[], by simpa using KRep.nil⟩, fun x hx => by cases hx⟩
  | d + 1, o, f :: r, ks, n, cs, xs, h, hl, hf => by
    unfold flatF at h
    cases hK : flatK P false d f.type with
    | none => rw [hK] at h; cases h
    | some k1 =>
      rw [hK] at h
      cases hb : Nat.beq f.offset o with
      | false => simp only [hb, cond_false] at h; cases h
      | true =>
        simp only [hb, cond_true] at h
        cases hb2 : Nat.beq (llen k1) (P.cellsOf f.type) with
        | false => simp only [hb2, cond_false] at h; cases h
        | true =>
          simp only [hb2, cond_true] at h
          cases hF : flatF P false d (o + llen k1) r with
          | none => rw [hF] at h; cases h
          | some k2 =>
            rw [hF] at h
            simp only [omap, Option.some.injEq] at h
            subst h
            match xs, hl with
            | x :: xs, hl =>
              have h0 := hf 0 f rfl
              have e1 := nbeq hb
              have e2 := nbeq hb2
              obtain ⟨⟨i1, hi1⟩, hp1⟩ := flat_open d hK (by simpa using h0)
              obtain ⟨⟨i2, hi2⟩, hp2⟩ := flatF_open d (n := n) (cs := cs) (xs := xs) hF (by simpa using hl) (fun i f hi => by simpa using hf (i + 1) f (by simpa using hi))
              refine ⟨⟨i1 ++ i2, ?_⟩, ?_⟩
              · rw [lapp_eq, List.length_append]
                have : (cs.drop o).take (k1.length + k2.length) = ((cs.drop o).take k1.length) ++ ((cs.drop (o + k1.length)).take k2.length) := by
                  rw [List.take_add, List.drop_drop]
                rw [this]
                have h3 : KRep k1 i1 ((cs.drop o).take k1.length) := by
                  rw [← llen_eq, e2, ← e1]; exact hi1
                refine h3.app ?_
                rw [llen_eq] at hi2
                exact hi2
              · intro y hy
                rcases List.mem_cons.1 hy with rfl | hy
                · exact hp1
                · exact hp2 y hy
end
end
theorem bool_calls {P : Program} {G : Nat → Option (List AV)} {f : FuncId} {args : List AV} {pres : List Prop} {b : Bool} (h : SpecOK P G f args pres [.imm (.bool b)]) (hp : ∀ p, p ∈ pres → p) (w : World) (vals : Array Value) (hs : vals.size = args.length)
    (ha : ∀ (j : Nat) c, args[j]? = some c → ARep (zeroGh w (fun _ => False)) c (vals.getD j undef)) (hG : GOK G w (fun _ => False)) : Calls P f vals w fun e w' => e = .returned (.bool b) ∧ RowKit.Below w.heap.size w w' := by
  refine (h.calls hp w (fun _ => False) vals (fun _ h => h.elim) hs ha hG).mono ?_
  rintro e w' ⟨Vs, bs, rfl, hb, hr, _⟩
  refine ⟨?_, hb⟩
  cases hr with
  | one _ h1 _ h2 =>
    cases h2
    cases h1 with
    | imm h3 _ =>
      have := rep_bool h3
      subst this
      rfl
theorem post_of_below {H : Type} {enc : TypeId × Value → H} {P : Program} {f : Func} {s : ChangeSpec} {apart fresh handsOn again : Bool} {W W' : World} {args : Array Value} {v : Value} {ds gs : List (DataW H)} {before pa pv : List MemPlace}
    (hW : DataW.Whole enc P f.params.toList s.vars apart W args.toList ds gs before)
    (hres : ∀ (b : Nat) (sp : Nat → Bool) (hd : Bool), DataW.TrodAll enc P W' b sp hd f.resultTypes.toList (v.resultList f.resultTypes.size) (s.fn H (ds ++ gs)).results [])
    (hargs : ∀ sp : Nat → Bool, (∀ p ∈ before, sp p.block = true) → DataW.TrodAll enc P W' 0 sp true f.params.toList args.toList (s.fn H (ds ++ gs)).args pa)
    (hvars : ∀ sp : Nat → Bool, (∀ p ∈ before, sp p.block = true) → DataW.TrodVars enc P W' sp s.vars (s.fn H (ds ++ gs)).vars pv)
    (hps : before = pa ++ pv) (hb : Below W.heap.size W W')
    (hok : ∀ (j : Nat) (t : TypeId) (r : Value), f.resultTypes[j]? = some t → (v.resultList f.resultTypes.size)[j]? = some r → Value.okWide P W' .any 0 t r) :
    s.post enc P f apart fresh handsOn again W args v W' := by
  have hold : ∀ p ∈ before, (fun b => decide (b < W.heap.size)) p.block = true := fun p hp => by simpa using hW.lt p hp
  have hlt : ∀ p ∈ before, p.block < W.heap.size := fun p hp => hW.lt p hp
  refine ⟨ds, gs, before, [], pa, pv, hW, hres _ _ _, hargs _ hold, hvars _ hold, World.keptBut_mono (fun p hp => ⟨hp, ?_⟩) (hb.frame (· ∈ before)), fun _ => ?_⟩
  · rw [hps, List.mem_append] at hp
    exact Or.inr hp
  · obtain ⟨_, _, _, _, _, hz, hn⟩ := hW
    refine ⟨hok, _, _, ([] ++ pa) ++ pv, ⟨[] ++ pa, pv, trodAll_append (hargs _ (fun _ _ => rfl)) (hres _ _ _), hvars _ (fun _ _ => rfl), rfl, ?_, ?_⟩, ?_⟩
    · intro b off hp
      have hp' : MemPlace.cell b off ∈ before := by rw [hps]; simpa using hp
      rw [World.frozen?_of_block (hb.block _ (hlt _ hp'))]
      exact hz b off hp'
    · intro ha
      have := hn ha
      rw [hps] at this
      simpa using this
    · intro p hp _
      rw [hps]
      simpa using hp
section
variable {H : Type} {enc : TypeId × Value → H} {P : Program} {w : World}
theorem all_cons {base : Nat} {sp : Nat → Bool} {held : Bool} {t : TypeId} {ts : List TypeId} {vs : List Value} {ds : List (DataW H)} {ps : List MemPlace} (h : DataW.TrodAll enc P w base sp held (t :: ts) vs ds ps) :
    ∃ v vs' d ds' p q, vs = v :: vs' ∧ ds = d :: ds' ∧ DataW.Trod enc P w base sp held t v d p ∧ DataW.TrodAll enc P w base sp held ts vs' ds' q ∧ ps = p ++ q := by
  match vs, ds, h with
  | v :: vs', d :: ds', h =>
    obtain ⟨p, q, h1, h2, h3⟩ := h
    exact ⟨v, vs', d, ds', p, q, rfl, rfl, h1, h2, h3⟩
theorem all_nil {base : Nat} {sp : Nat → Bool} {held : Bool} {vs : List Value} {ds : List (DataW H)} {ps : List MemPlace} (h : DataW.TrodAll enc P w base sp held [] vs ds ps) : vs = [] ∧ ds = [] ∧ ps = [] := by
  match vs, ds, h with
  | [], [], h => exact ⟨rfl, rfl, h⟩
theorem open_flat {r : Reach} {b0 base : Nat} {sp : Nat → Bool} {held : Bool} {t : TypeId} {fs : Array Field} {ks : List CK} {v : Value} {d : DataW H} {ps : List MemPlace} (hu : P.underlying t = some (.struct fs)) (hk : flatK P false 40 t = some ks)
    (hval : Value.okWide P w r b0 t v) (hd : DataW.Trod enc P w base sp held t v d ps) : ∃ is l, v = .agg ⟨l⟩ ∧ KRep ks is l := by
  obtain ⟨⟨l⟩, rfl, _⟩ := okWide_struct hu hval
  obtain ⟨fuel, hf⟩ := hd
  obtain ⟨⟨is, h⟩, _⟩ := flat_open 40 hk hf
  exact ⟨is, l, rfl, h⟩
theorem KRep.arep {g : Gh} {ks : List CK} {is : List IV} {vs : List Value} (h : KRep ks is vs) : ARep g (.agg (lmap .imm is)) (.agg ⟨vs⟩) := by
  have hl := h.len
  have e : ∀ j, (⟨vs⟩ : Array Value).getD j undef = vs.getD j undef := fun j => by simp [Array.getD_eq_getD_getElem?, List.getD_eq_getElem?_getD]
  refine .agg (by rw [lmap_eq]; simp [hl]) (fun j c hc => ?_) (fun j hj => ?_)
  · rw [lmap_eq, List.getElem?_map] at hc
    cases hi : is[j]? with
    | none => rw [hi] at hc; cases hc
    | some i =>
      rw [hi] at hc
      cases hc
      rw [e]
      exact .imm (h.rep (w := g.w) (own := g.own) j i hi).1
  · have hj' : j < is.length := by simp at hj; omega
    rw [e]
    exact (h.rep (w := g.w) (own := g.own) j is[j] (List.getElem?_eq_getElem hj')).2
theorem row_post {f : Func} {s : ChangeSpec} {apart fresh handsOn again : Bool} {W W' : World} {args : Array Value} {ds : List (DataW H)} {before : List MemPlace} {tb : TypeId}
    (hW : DataW.Whole enc P f.params.toList s.vars apart W args.toList ds [] before) (hv : s.vars = []) (hl : laidOutB P = true) (hc : lall (fun t => bif P.readableRec t then decide (t < P.types.size) else false) f.params.toList = true)
    (hfn : s.fn H (ds ++ []) = { results := [.lit (.bool true)], args := ds }) (hr : f.resultTypes = #[tb]) (hu : P.underlying tb = some .bool) (hb : Below W.heap.size W W') : s.post enc P f apart fresh handsOn again W args (.bool true) W' := by
  have hW0 := hW
  obtain ⟨p, q, hA, hV, rfl, _, _⟩ := hW
  rw [hv] at hV
  obtain ⟨_, rfl⟩ := trodVars_none hV
  refine post_of_below (ds := ds) (gs := []) (pa := p) (pv := []) hW0 (fun b sp hd => ?_) (fun sp hsp => ?_) (fun sp hsp => ?_) rfl hb ?_
  · rw [hfn, hr]
    exact trodAll_mk1 (shut_bool hu true)
  · rw [hfn]
    exact args_stay hl hc hA (fun x hx => hb.same (hW0.lt x (by simp [hx]))) (fun x hx => hsp x (by simp [hx]))
  · rw [hfn, hv]
    rfl
  · intro j t r ht hr'
    rw [hr] at ht hr'
    cases j with
    | zero =>
      cases ht
      cases hr'
      exact okWide_bool_mk hu true
    | succ j => simp at ht
end
end Go.AE
namespace Go.AE
open Go.ChangeShapes Go.WideShapes Go.ChangeAt Go.RowKit
section
variable {H : Type} {enc : TypeId × Value → H} {P : Program} {w : World}
theorem open_slice {t e : TypeId} {ks : List CK} {b0 : Nat} {v : Value} {d : DataW H} {ps : List MemPlace} {r : Reach} {sp : Nat → Bool} {held : Bool} {base : Nat} (ht : P.underlying t = some (.slice e)) (hk : flatK P false 40 e = some ks) (hc : P.cellsOf e = ks.length) (hb : 1 ≤ P.bytesOf e)
    (hval : Value.okWide P w r b0 t v) (hd : DataW.Trod enc P w base sp held t v d ps) (hsz : ∀ el rs, d = .slice el rs → (el.length + rs.length) * P.bytesOf e ≤ reachBytes) :
    ∃ xs : List (List IV), (∀ x ∈ xs, ∃ vs, KRep ks x vs) ∧ xs.length ≤ 281474976710656 ∧ ∀ iv : IV, iv.isSl = true → iv.len = some xs.length → iv.esize = ks.length → (∀ i j c, iv.cellAt i j = some c → (xs[i]?).bind (·[j]?) = some c) → Rep w (fun _ => False) iv v := by
  obtain ⟨fuel, hf⟩ := hd
  rcases DataW.trod_slice ht hf with ⟨h0, _⟩ | ⟨a, len, cap, elems, rest, n, _, hcs, hx, _, hl, hm, hlen, hel, _⟩
  · refine ⟨[], ⟨(fun x hx => absurd hx (by simp)), by simp, fun iv h1 h2 _ _ => ?_⟩⟩
    obtain ⟨a', l', c', rfl⟩ := okWide_slice ht hval
    simp only [Value.cells, List.cons.injEq, and_true] at h0
    rw [h0]
    exact .nilSlice h1 h2
  · obtain ⟨a', l', c', rfl⟩ := okWide_slice ht hval
    simp only [Value.cells, List.cons.injEq, and_true] at hcs
    simp only [Value.slice.injEq] at hcs
    obtain ⟨rfl, rfl, rfl⟩ := hcs
    have hv : l' ≤ c' ∧ (c' : Int) ≤ IntKind.i64.max ∧ w.has P r b0 a e c' := by
      simpa [Value.okWide, Cell.okWide, Cell.ok, ht] using hval
    obtain ⟨_, hcap, _, _, row, cells, hsh, _⟩ := hv
    have hblk : a.block < w.heap.size := by
      unfold World.shape? at hsh
      cases hq : w.heap[a.block]? with
      | none => rw [hq] at hsh; cases hsh
      | some o => exact (Array.getElem?_eq_some_iff.1 hq).1
    have each : ∀ i (hi : i < elems.length), ∃ cs is, w.cells? base (a.add (i * P.cellsOf e)) (P.cellsOf e) = some cs ∧ KRep ks is cs := by
      intro i hi
      have h1 := hel i (by omega)
      rw [List.getElem?_eq_getElem hi, Option.bind_eq_some_iff] at h1
      obtain ⟨cs, hcs, hy⟩ := h1
      obtain ⟨⟨is, his⟩, _⟩ := flat_open 40 hk hy
      exact ⟨cs, is, hcs, his⟩
    have hcap' : c' ≤ 9223372036854775807 := by
      have h9 : IntKind.i64.max = 9223372036854775807 := rfl
      rw [h9] at hcap; omega
    have hch : ∃ F : Nat → List Value × List IV, ∀ i, i < elems.length → w.cells? base (a.add (i * P.cellsOf e)) (P.cellsOf e) = some (F i).1 ∧ KRep ks (F i).2 (F i).1 := by
      refine ⟨fun i => if hi : i < elems.length then ((each i hi).choose, (each i hi).choose_spec.choose) else ([], []), fun i hi => ?_⟩
      simp only [dif_pos hi]
      exact (each i hi).choose_spec.choose_spec
    obtain ⟨F, hF⟩ := hch
    have hlen2 : l' ≤ 281474976710656 := by
      have hxs := hsz (elems.map (·.1)) (rest.map (·.1)) (congrArg Prod.fst hx)
      simp only [List.length_map] at hxs
      have : elems.length + rest.length ≤ (elems.length + rest.length) * P.bytesOf e := Nat.le_mul_of_pos_right _ hb
      unfold reachBytes at hxs
      omega
    refine ⟨(List.range l').map fun i => (F i).2, fun x hx => ?_, by simpa using hlen2, fun iv h1 h2 h3 h4 => ?_⟩
    · obtain ⟨i, hi, rfl⟩ := List.mem_map.1 hx
      have := List.mem_range.1 hi
      exact ⟨_, (hF i (by omega)).2⟩
    · have key : ∀ i j c, iv.cellAt i j = some c → i < l' ∧ (F i).2[j]? = some c := by
        intro i j c hcc
        have h5 := h4 i j c hcc
        rw [List.getElem?_map] at h5
        cases hi : (List.range l')[i]? with
        | none => rw [hi] at h5; cases h5
        | some i' =>
          rw [hi] at h5
          obtain ⟨h6, h7⟩ := List.getElem?_eq_some_iff.1 hi
          simp only [List.length_range] at h6
          simp only [List.getElem_range] at h7
          subst h7
          exact ⟨h6, by simpa using h5⟩
      refine .slice (fun i j => (F i).1.getD j undef) h1 (by simpa using h2) hl hcap' hlen2 (fun h => h) hblk (fun i j c hcc => ?_) (fun i j c hcc => ?_)
      · obtain ⟨hi, hj⟩ := key i j c hcc
        obtain ⟨hc1, hk1⟩ := hF i (by omega)
        obtain ⟨_, hn1, hcell⟩ := World.cells?_some hc1
        have hj' : j < ks.length := by rw [← hk1.len.1]; exact (List.getElem?_eq_some_iff.1 hj).1
        have := hcell j (by rw [hc]; exact hj')
        rw [h3, ← hc]
        have e1 : (a.add (i * P.cellsOf e)).add j = a.add (i * P.cellsOf e + j) := by
          unfold Addr.add; split <;> split <;> simp_all <;> omega
        rw [e1] at this
        rw [this, List.getElem?_eq_getElem (by rw [hn1, hc]; exact hj')]
        simp [List.getD_eq_getElem?_getD, List.getElem?_eq_getElem (show j < (F i).1.length by rw [hn1, hc]; exact hj')]
      · obtain ⟨hi, hj⟩ := key i j c hcc
        obtain ⟨hc1, hk1⟩ := hF i (by omega)
        exact (hk1.rep j c hj).1
end
end Go.AE
namespace Go.AE
open Go.ChangeShapes Go.WideShapes Go.ChangeAt Go.RowKit
inductive MK where
  | ck (c : CK)
  | sl (ks : List CK)
mutual
def mixK (P : Program) : Nat → TypeId → Option (List (TypeId × MK))
  | 0, _ => none
  | d + 1, t => match P.underlying t with
    | some (.int k) => some [(t, .ck (.int k))]
    | some .bool => some [(t, .ck .bool)]
    | some .string => some [(t, .ck .str)]
    | some (.slice e) => match flatK P false 40 e with
      | some ks => bif Nat.beq (P.cellsOf e) (llen ks) then (bif Nat.ble 1 (P.bytesOf e) then some [(t, .sl ks)] else none) else none
      | none => none
    | some (.struct fs) => match mixF P d 0 fs.toList with
      | some ks => bif Nat.beq (llen ks) (P.cellsOf t) then some ks else none
      | none => none
    | _ => none
def mixF (P : Program) : Nat → Nat → List Field → Option (List (TypeId × MK))
  | 0, _, _ => none
  | _ + 1, _, [] => some []
  | d + 1, o, f :: r => match mixK P d f.type with
    | some ks => bif Nat.beq f.offset o then (bif Nat.beq (llen ks) (P.cellsOf f.type) then omap (lapp ks) (mixF P d (o + llen ks) r) else none) else none
    | none => none
end
def MOk (w : World) : MK → Value → Prop
  | .ck (.int k), v => ∃ n, v = .int k n ∧ InR k n
  | .ck .bool, v => ∃ b, v = .bool b
  | .ck .str, v => ∃ s, v = .string s ∧ (bytesOf s).length ≤ 9223372036854775807
  | .ck .any, _ => False
  | .sl ks, v => ∃ xs : List (List IV), (∀ x ∈ xs, ∃ vs, KRep ks x vs) ∧ xs.length ≤ 281474976710656 ∧ ∀ iv : IV, iv.isSl = true → iv.len = some xs.length → iv.esize = ks.length → (∀ i j c, iv.cellAt i j = some c → (xs[i]?).bind (·[j]?) = some c) → Rep w (fun _ => False) iv v
def mall (w : World) : List (TypeId × MK) → List Value → Prop
  | [], [] => True
  | k :: ks, v :: vs => MOk w k.2 v ∧ mall w ks vs
  | _, _ => False
theorem mall_cons {w : World} {k : TypeId × MK} {ks : List (TypeId × MK)} {vs : List Value} (h : mall w (k :: ks) vs) : ∃ v vs', vs = v :: vs' ∧ MOk w k.2 v ∧ mall w ks vs' := by
  match vs, h with
  | v :: vs', h => exact ⟨v, vs', rfl, h.1, h.2⟩
theorem mall_nil {w : World} {vs : List Value} (h : mall w [] vs) : vs = [] := by
  match vs, h with
  | [], _ => rfl
theorem mall_app {w : World} : ∀ {ks ks' : List (TypeId × MK)} {vs vs' : List Value}, mall w ks vs → mall w ks' vs' → mall w (ks ++ ks') (vs ++ vs')
  | [], _, [], _, _, h' => h'
  | _ :: _, _, _ :: _, _, h, h' => ⟨h.1, mall_app h.2 h'⟩
  | [], _, _ :: _, _, h, _ => h.elim
  | _ :: _, _, [], _, h, _ => h.elim
section
variable {H : Type} {enc : TypeId × Value → H} {P : Program} {w : World} {base b0 : Nat} {sp : Nat → Bool} {held : Bool} {r : Reach}
theorem all_weights_field {fs : List Field} {xs : List (DataW H × List MemPlace)} (h : (DataW.weightsEach P (fs.map (·.type)) (xs.map (·.1))).all (· ≤ reachBytes) = true) {i : Nat} {f : Field} {x : DataW H × List MemPlace} (hf : fs[i]? = some f) (hx : xs[i]? = some x) :
    (x.1.weights P f.type).all (· ≤ reachBytes) = true := by
  rw [List.all_eq_true] at h ⊢
  exact fun n hn => h n (DataW.weights_mem_each (j := i) (t := f.type) (d := x.1) (by simp [List.getElem?_map, hf]) (by simp [List.getElem?_map, hx]) n hn)
mutual
theorem mix_open : ∀ (d : Nat) {t : TypeId} {ks : List (TypeId × MK)} {n : Nat} {cs : List Value} {x : DataW H × List MemPlace}, mixK P d t = some ks → DataW.trod enc P w base sp held n t cs = some x → (x.1.weights P t).all (· ≤ reachBytes) = true →
    (∀ (j : Nat) v, cs[j]? = some v → ∃ u, (ks.map (·.1))[j]? = some u ∧ Cell.okWide P w r b0 u v) → mall w ks cs
  | 0, t, ks, n, cs, x, h, _, _, _ => by simp [mixK] at h
  | d + 1, t, ks, n, cs, x, h, hx, hz, hw => by
    unfold mixK at h
    split at h
    · rename_i k hu
      cases h
      obtain ⟨m, rfl, rfl, hm⟩ := DataW.trod_int hu hx
      exact ⟨⟨m, rfl, inR_wf hm⟩, trivial⟩
    · rename_i hu
      cases h
      obtain ⟨b, rfl, rfl⟩ := DataW.trod_bool hu hx
      exact ⟨⟨b, rfl⟩, trivial⟩
    · rename_i hu
      cases h
      obtain ⟨s, rfl, rfl, hs⟩ := DataW.trod_string hu hx
      exact ⟨⟨s, rfl, by rw [← size_bytes]; exact hs⟩, trivial⟩
    · rename_i e hu
      cases hk : flatK P false 40 e with
      | none => rw [hk] at h; cases h
      | some k1 =>
        rw [hk] at h
        cases hb : Nat.beq (P.cellsOf e) (llen k1) with
        | false => simp only [hb, cond_false] at h; cases h
        | true =>
          simp only [hb, cond_true] at h
          cases hb2 : Nat.ble 1 (P.bytesOf e) with
          | false => simp only [hb2, cond_false] at h; cases h
          | true =>
            simp only [hb2, cond_true] at h
            cases h
            have e1 : P.cellsOf e = k1.length := by rw [nbeq hb, llen_eq]
            have e2 : 1 ≤ P.bytesOf e := Nat.le_of_ble_eq_true hb2
            have hone : ∃ v, cs = [v] ∧ v.cells.toList = [v] := by
              rcases DataW.trod_slice hu hx with ⟨h0, _⟩ | ⟨a, len, cap, _, _, _, _, h0, _⟩
              · exact ⟨_, h0, rfl⟩
              · exact ⟨_, h0, rfl⟩
            obtain ⟨v, rfl, hv⟩ := hone
            obtain ⟨u, hu1, hu2⟩ := hw 0 v rfl
            simp only [List.map_cons, List.map_nil, List.getElem?_cons_zero, Option.some.injEq] at hu1
            subst hu1
            have hval : Value.okWide P w r b0 t v := by
              unfold Value.okWide
              rw [hu]
              exact hu2
            refine ⟨open_slice (ks := k1) hu hk e1 e2 hval (d := x.1) (ps := x.2) ⟨n, by rw [hv]; exact hx⟩ (fun el rs hd => ?_), trivial⟩
            rw [hd, List.all_eq_true] at hz
            have := hz ((el.length + rs.length) * P.bytesOf e) (by simp [DataW.weights, hu])
            simpa using this
    · rename_i fs hu
      obtain ⟨xs, m, rfl, rfl, hlen, hsz, hf⟩ := DataW.trod_struct hu hx
      cases hF : mixF P d 0 fs.toList with
      | none => rw [hF] at h; cases h
      | some ks' =>
        rw [hF] at h
        cases hb : Nat.beq (llen ks') (P.cellsOf t) with
        | false => simp only [hb, cond_false] at h; cases h
        | true =>
          simp only [hb, cond_true] at h
          cases h
          have hb' := nbeq hb
          have hz' : (DataW.weightsEach P (fs.toList.map (·.type)) (xs.map (·.1))).all (· ≤ reachBytes) = true := by
            have := hz
            simpa [DataW.weights, hu] using this
          have := mixF_open d (o := 0) (xs := xs) (cs := cs) (n := m) hF (by simp [hsz]) (fun i f hi => hf i f (by simpa using hi)) hz' (by simpa using hw)
          rw [List.drop_zero, List.take_of_length_le (by rw [hlen, ← hb', llen_eq]; exact Nat.le_refl _)] at this
          exact this
    · cases h
theorem mixF_open : ∀ (d : Nat) {o : Nat} {fs : List Field} {ks : List (TypeId × MK)} {n : Nat} {cs : List Value} {xs : List (DataW H × List MemPlace)}, mixF P d o fs = some ks → xs.length = fs.length →
    (∀ (i : Nat) (f : Field), fs[i]? = some f → DataW.trod enc P w base sp held n f.type ((cs.drop f.offset).take (P.cellsOf f.type)) = xs[i]?) → (DataW.weightsEach P (fs.map (·.type)) (xs.map (·.1))).all (· ≤ reachBytes) = true →
    (∀ (j : Nat) v, (cs.drop o)[j]? = some v → ∃ u, (ks.map (·.1))[j]? = some u ∧ Cell.okWide P w r b0 u v) → mall w ks ((cs.drop o).take ks.length)
  | 0, o, fs, ks, n, cs, xs, h, _, _, _, _ => by simp [mixF] at h
  | d + 1, o, [], ks, n, cs, xs, h, hl, _, _, _ => by
    simp only [mixF] at h
    cases h
    simp [mall]
  | d + 1, o, f :: q, ks, n, cs, xs, h, hl, hf, hz, hw => by
    unfold mixF at h
    cases hK : mixK P d f.type with
    | none => rw [hK] at h; cases h
    | some k1 =>
      rw [hK] at h
      cases hb : Nat.beq f.offset o with
      | false => simp only [hb, cond_false] at h; cases h
      | true =>
        simp only [hb, cond_true] at h
        cases hb2 : Nat.beq (llen k1) (P.cellsOf f.type) with
        | false => simp only [hb2, cond_false] at h; cases h
        | true =>
          simp only [hb2, cond_true] at h
          cases hF : mixF P d (o + llen k1) q with
          | none => rw [hF] at h; cases h
          | some k2 =>
            rw [hF] at h
            simp only [omap, Option.some.injEq] at h
            subst h
            match xs, hl with
            | x :: xs, hl =>
              have h0 := hf 0 f rfl
              have e1 := nbeq hb
              have e2 := nbeq hb2
              have e3 : llen k1 = k1.length := llen_eq k1
              rw [lapp_eq] at hw ⊢
              have w1 : ∀ (j : Nat) v, ((cs.drop f.offset).take (P.cellsOf f.type))[j]? = some v → ∃ u, (k1.map (·.1))[j]? = some u ∧ Cell.okWide P w r b0 u v := by
                intro j v hv
                rw [List.getElem?_take] at hv
                split at hv
                · rename_i hj
                  obtain ⟨u, hu1, hu2⟩ := hw j v (by rw [← e1]; exact hv)
                  refine ⟨u, ?_, hu2⟩
                  rw [List.map_append, List.getElem?_append_left (by simp; omega)] at hu1
                  exact hu1
                · cases hv
              have w2 : ∀ (j : Nat) v, (cs.drop (o + llen k1))[j]? = some v → ∃ u, (k2.map (·.1))[j]? = some u ∧ Cell.okWide P w r b0 u v := by
                intro j v hv
                obtain ⟨u, hu1, hu2⟩ := hw (k1.length + j) v (by rw [List.getElem?_drop] at hv ⊢; rw [← hv, e3]; congr 1; omega)
                refine ⟨u, ?_, hu2⟩
                rw [List.map_append, List.getElem?_append_right (by simp)] at hu1
                simpa using hu1
              have i1 := mix_open d hK (x := x) (by simpa using h0) (all_weights_field hz (i := 0) rfl rfl) w1
              have i2 := mixF_open d (n := n) (cs := cs) (xs := xs) hF (by simpa using hl) (fun i f hi => by simpa using hf (i + 1) f (by simpa using hi))
                (by
                  rw [List.all_eq_true] at hz ⊢
                  intro m hm
                  exact hz m (by simp only [List.map_cons, DataW.weightsEach, List.mem_append]; exact Or.inr hm)) w2
              rw [List.length_append]
              have : (cs.drop o).take (k1.length + k2.length) = ((cs.drop o).take k1.length) ++ ((cs.drop (o + k1.length)).take k2.length) := by
                rw [List.take_add, List.drop_drop]
              rw [this]
              have h3 : mall w k1 ((cs.drop o).take k1.length) := by
                rw [← llen_eq, e2, ← e1]; exact i1
              refine mall_app h3 ?_
              rw [llen_eq] at i2
              exact i2
end
theorem open_mix {t : TypeId} {fs : Array Field} {ks : List (TypeId × MK)} {v : Value} {d : DataW H} {ps : List MemPlace} (hu : P.underlying t = some (.struct fs)) (hk : mixK P 40 t = some ks) (hc : P.cellTypes P.depth t = some (ks.map (·.1))) (hn : P.cellsOf t = ks.length)
    (hval : Value.okWide P w r b0 t v) (hd : DataW.Trod enc P w base sp held t v d ps) (hz : (d.weights P t).all (· ≤ reachBytes) = true) : ∃ l, v = .agg ⟨l⟩ ∧ mall w ks l := by
  have hv := hval
  unfold Value.okWide at hv
  rw [hu] at hv
  obtain ⟨⟨l⟩, rfl, hs, ts, h1, h2, h3⟩ := hv
  obtain ⟨fuel, hf⟩ := hd
  rw [hc] at h1
  cases h1
  refine ⟨l, rfl, mix_open (r := r) (b0 := b0) 40 hk hf hz (fun j v hj => ?_)⟩
  have hj' : j < l.length := (List.getElem?_eq_some_iff.1 hj).1
  have hl : l.length = ks.length := by simpa [hn] using hs
  obtain ⟨u, hu1, hu2⟩ := h3 j v (by simpa using hj)
  refine ⟨u, ?_, hu2⟩
  rw [Nat.mod_eq_of_lt (by simp; omega)] at hu1
  exact hu1
theorem weights_arg {ts : List TypeId} {ds : List (DataW H)} (h : (DataW.weightsEach P ts ds).all (· ≤ reachBytes) = true) {j : Nat} {t : TypeId} {d : DataW H} (ht : ts[j]? = some t) (hd : ds[j]? = some d) : (d.weights P t).all (· ≤ reachBytes) = true := by
  rw [List.all_eq_true] at h ⊢
  exact fun n hn => h n (DataW.weights_mem_each ht hd n hn)
end
def MIs (w : World) : List IV → List Value → Prop
  | [], [] => True
  | i :: is, v :: vs => Rep w (fun _ => False) i v ∧ MIs w is vs
  | _, _ => False
theorem MIs.get {w : World} : ∀ {is : List IV} {vs : List Value}, MIs w is vs → is.length = vs.length ∧ ∀ (j : Nat) i, is[j]? = some i → Rep w (fun _ => False) i (vs.getD j undef)
  | [], [], _ => ⟨rfl, fun j i h => by simp at h⟩
  | i :: is, v :: vs, h => ⟨by simp [(MIs.get h.2).1], fun j c hj => by
      cases j with
      | zero => simp only [List.getElem?_cons_zero, Option.some.injEq] at hj; subst hj; exact h.1
      | succ j => exact (MIs.get h.2).2 j c (by simpa using hj)⟩
  | [], _ :: _, h => h.elim
  | _ :: _, [], h => h.elim
theorem MIs.arep {w : World} {is : List IV} {vs : List Value} (h : MIs w is vs) : ARep (zeroGh w (fun _ => False)) (.agg (lmap .imm is)) (.agg ⟨vs⟩) := by
  obtain ⟨hl, hr⟩ := h.get
  have e : ∀ j, (⟨vs⟩ : Array Value).getD j undef = vs.getD j undef := fun j => by simp [Array.getD_eq_getD_getElem?, List.getD_eq_getElem?_getD]
  refine .agg (by rw [lmap_eq]; simp [hl]) (fun j c hc => ?_) (fun j hj => ?_)
  · rw [lmap_eq, List.getElem?_map] at hc
    cases hi : is[j]? with
    | none => rw [hi] at hc; cases hc
    | some i =>
      rw [hi] at hc
      cases hc
      rw [e]
      exact .imm (Rep.mono (w := w) (w' := w) (Nat.le_refl _) (fun b _ h => zero_own.1 h) (fun _ _ _ => rfl) (hr j i hi))
  · have hj' : j < is.length := by simp at hj; omega
    rw [e]
    exact (hr j is[j] (List.getElem?_eq_getElem hj')).oneCell
theorem MIs.cell {w : World} {is : List IV} {vs : List Value} (h : MIs w is vs) {v : Value} (hv : v = .agg ⟨vs⟩) {arr : Array Value} {j : Nat} (ha : arr.getD j undef = v) : ARep (zeroGh w (fun _ => False)) (.agg (lmap .imm is)) (arr.getD j undef) := by
  rw [ha, hv]; exact h.arep
theorem MOk.bytes {w : World} {v : Value} (h : MOk w (.sl [.int .u8]) v) : ∃ l : List UInt8, l.length ≤ 281474976710656 ∧ Rep w (fun _ => False) (.bytes l) v := by
  obtain ⟨xs, h1, h2, h3⟩ := h
  have key : ∀ xs : List (List IV), (∀ x ∈ xs, ∃ vs, KRep [.int .u8] x vs) → ∃ l : List UInt8, xs = l.map fun b => [.int .u8 (b.toNat : Int)] := by
    intro xs
    induction xs with
    | nil => exact fun _ => ⟨[], rfl⟩
    | cons x xs ih =>
      intro h
      obtain ⟨l, hl⟩ := ih fun y hy => h y (by simp [hy])
      obtain ⟨vs, hx⟩ := h x (by simp)
      obtain ⟨n, is, vs', rfl, rfl, hr, hx⟩ := hx.cons_int
      obtain ⟨rfl, rfl⟩ := hx.end
      have hr' : (0 : Int) ≤ n ∧ n ≤ 255 := hr
      refine ⟨UInt8.ofNat n.toNat :: l, ?_⟩
      rw [hl, List.map_cons]
      have : ((UInt8.ofNat n.toNat).toNat : Int) = n := by
        have : (UInt8.ofNat n.toNat).toNat = n.toNat % 256 := by simp
        omega
      rw [this]
  obtain ⟨l, rfl⟩ := key xs h1
  refine ⟨l, by simpa using h2, h3 _ rfl (by simp [IV.len]) rfl (fun i j c hcc => ?_)⟩
  cases j with
  | zero =>
    simp only [IV.cellAt] at hcc
    rw [List.getElem?_map]
    cases hi : l[i]? with
    | none => rw [hi] at hcc; cases hcc
    | some b => rw [hi] at hcc; simpa using hcc
  | succ j => simp [IV.cellAt] at hcc
theorem MOk.ints {w : World} {v : Value} {k : IntKind} (h : MOk w (.sl [.int k]) v) : ∃ l : List Int, (∀ n ∈ l, InR k n) ∧ l.length ≤ 281474976710656 ∧ Rep w (fun _ => False) (.ints k l) v := by
  obtain ⟨xs, h1, h2, h3⟩ := h
  have key : ∀ xs : List (List IV), (∀ x ∈ xs, ∃ vs, KRep [.int k] x vs) → ∃ l : List Int, (∀ n ∈ l, InR k n) ∧ xs = l.map fun b => [.int k b] := by
    intro xs
    induction xs with
    | nil => exact fun _ => ⟨[], fun n h => by simp at h, rfl⟩
    | cons x xs ih =>
      intro h
      obtain ⟨l, hl1, hl⟩ := ih fun y hy => h y (by simp [hy])
      obtain ⟨vs, hx⟩ := h x (by simp)
      obtain ⟨n, is, vs', rfl, rfl, hr, hx⟩ := hx.cons_int
      obtain ⟨rfl, rfl⟩ := hx.end
      refine ⟨n :: l, fun m hm => ?_, by rw [hl, List.map_cons]⟩
      rcases List.mem_cons.1 hm with rfl | hm
      · exact hr
      · exact hl1 m hm
  obtain ⟨l, hl, rfl⟩ := key xs h1
  refine ⟨l, hl, by simpa using h2, h3 _ rfl (by simp [IV.len]) rfl (fun i j c hcc => ?_)⟩
  cases j with
  | zero =>
    simp only [IV.cellAt] at hcc
    rw [List.getElem?_map]
    cases hi : l[i]? with
    | none => rw [hi] at hcc; cases hcc
    | some b => rw [hi] at hcc; simpa using hcc
  | succ j => simp [IV.cellAt] at hcc
theorem MOk.bools {w : World} {v : Value} (h : MOk w (.sl [.bool]) v) : ∃ l : List Bool, l.length ≤ 281474976710656 ∧ Rep w (fun _ => False) (.bools l) v := by
  obtain ⟨xs, h1, h2, h3⟩ := h
  have key : ∀ xs : List (List IV), (∀ x ∈ xs, ∃ vs, KRep [.bool] x vs) → ∃ l : List Bool, xs = l.map fun b => [.bool b] := by
    intro xs
    induction xs with
    | nil => exact fun _ => ⟨[], rfl⟩
    | cons x xs ih =>
      intro h
      obtain ⟨l, hl⟩ := ih fun y hy => h y (by simp [hy])
      obtain ⟨vs, hx⟩ := h x (by simp)
      obtain ⟨n, is, vs', rfl, rfl, hx2⟩ := hx.cons_bool
      obtain ⟨rfl, rfl⟩ := hx2.end
      exact ⟨n :: l, by rw [hl, List.map_cons]⟩
  obtain ⟨l, rfl⟩ := key xs h1
  refine ⟨l, by simpa using h2, h3 _ rfl (by simp [IV.len]) rfl (fun i j c hcc => ?_)⟩
  cases j with
  | zero =>
    simp only [IV.cellAt] at hcc
    rw [List.getElem?_map]
    cases hi : l[i]? with
    | none => rw [hi] at hcc; cases hcc
    | some b => rw [hi] at hcc; simpa using hcc
  | succ j => simp [IV.cellAt] at hcc
theorem MOk.structs {w : World} {v : Value} {ks : List CK} (hn : Nat.ble 1 ks.length = true) (h : MOk w (.sl ks) v) : ∃ xs : List (List IV), (∀ x ∈ xs, ∃ vs, KRep ks x vs) ∧ xs.length ≤ 281474976710656 ∧ Rep w (fun _ => False) (.sl ks.length xs) v := by
  obtain ⟨xs, h1, h2, h3⟩ := h
  refine ⟨xs, h1, h2, h3 _ ?_ rfl rfl (fun i j c hcc => hcc)⟩
  show (bif Nat.ble 1 ks.length then xs.all (fun x => Nat.beq x.length ks.length) else false) = true
  rw [hn, cond_true, List.all_eq_true]
  intro x hx
  obtain ⟨vs, hv⟩ := h1 x hx
  rw [hv.len.1]
  exact Nat.beq_refl _
theorem MOk.int {w : World} {v : Value} {k : IntKind} (h : MOk w (.ck (.int k)) v) : ∃ n, InR k n ∧ Rep w (fun _ => False) (.int k n) v := by
  obtain ⟨n, rfl, hr⟩ := h
  exact ⟨n, hr, .int hr⟩
theorem MOk.bool {w : World} {v : Value} (h : MOk w (.ck .bool) v) : ∃ b, Rep w (fun _ => False) (.bool b) v := by
  obtain ⟨b, rfl⟩ := h
  exact ⟨b, .bool⟩
theorem MOk.str {w : World} {v : Value} (h : MOk w (.ck .str) v) : ∃ l : List UInt8, l.length ≤ 9223372036854775807 ∧ Rep w (fun _ => False) (.str l) v := by
  obtain ⟨s, rfl, hr⟩ := h
  exact ⟨_, hr, .str rfl hr⟩
end Go.AE
namespace Z19
open Go Go.AE Go.Proofs D6
theorem et : Tryd.prog.globalNamed "errors.errorType" = some 1 := by kernel_rfl
theorem fl : Tryd.prog.globalNamed "zoneinfo/indicators.flags" = some 0 := by kernel_rfl
theorem rt : (Tryd.prog.cutTypes.find? (·.1 == "internal/reflectlite.rtype")).map (·.2) = some 130 := by kernel_rfl
theorem tsize : Tryd.prog.types.size = 171 := by kernel_rfl
theorem oneRow : ((List.range 171).filter fun t => Tryd.prog.rowNamed t [101, 114, 114, 111, 114]) = [94] := by kernel_rfl
theorem var_of_laid {W : World} (h : laidMetH Tryd.prog YtmmioohcgdnpdaaDoor.Rows.blockMatchesReferenceRow.laid W) : W.var? Tryd.prog "errors.errorType" = some #[errT] := by
  have h' : laidMet Tryd.prog [("zoneinfo/indicators.flags", YtmmioohcgdnpdaaDoor.Rows.laid_zoneinfo_indicators_flags)] W ∧ handlesMet Tryd.prog [("errors.errorType", YtmmioohcgdnpdaaDoor.Rows.laid_errors_errorType)] W := h
  obtain ⟨name, u, ty, e1, e2, e3, e4, e5⟩ := h'.2 _ (List.mem_singleton.2 rfl)
  have en : name = [101, 114, 114, 111, 114] := (Option.some.inj e1).symm
  subst en
  obtain rfl := Option.some.inj (rt.symm.trans e2)
  have hm : ty ∈ (List.range 171).filter fun t => Tryd.prog.rowNamed t [101, 114, 114, 111, 114] := List.mem_filter.2 ⟨List.mem_range.2 (by rw [← tsize]; exact e3), e4⟩
  rw [oneRow] at hm
  obtain rfl := List.mem_singleton.1 hm
  have hh : typeHandle Tryd.prog 94 = .pointer (some ⟨2, 94, none⟩) := by kernel_rfl
  rw [hh] at e5
  exact e5
theorem list_two {α : Type} {l : List α} (h : l.length = 2) : ∃ a b, l = [a, b] := by
  match l, h with
  | [a, b], _ => exact ⟨a, b, rfl⟩
theorem flags_of_laid {W : World} (h : laidMetH Tryd.prog YtmmioohcgdnpdaaDoor.Rows.blockMatchesReferenceRow.laid W) : W.var? Tryd.prog "zoneinfo/indicators.flags" = some #[.bool false, .bool true] := by
  have h' : laidMet Tryd.prog [("zoneinfo/indicators.flags", YtmmioohcgdnpdaaDoor.Rows.laid_zoneinfo_indicators_flags)] W ∧ handlesMet Tryd.prog [("errors.errorType", YtmmioohcgdnpdaaDoor.Rows.laid_errors_errorType)] W := h
  obtain ⟨ps, ⟨g, t, cs, fuel, p, q, hg, ht, hv, hd, _, _⟩, _⟩ := h'.1
  obtain rfl := Option.some.inj (fl.symm.trans hg)
  have ht' : (Tryd.prog.globals[0]?).map (·.type) = some 100 := by kernel_rfl
  obtain rfl := Option.some.inj (ht'.symm.trans ht)
  obtain ⟨xs, m, rfl, hx, hl, hn, hi⟩ := DataW.trod_array (n := 2) (e := 4) (by kernel_rfl) hd
  have hc4 : Tryd.prog.cellsOf 4 = 1 := by kernel_rfl
  have hc100 : Tryd.prog.cellsOf 100 = 2 := by kernel_rfl
  have hu4 : Tryd.prog.underlying 4 = some .bool := by kernel_rfl
  rw [hc100] at hl
  rw [hv]
  obtain ⟨cs⟩ := cs
  obtain ⟨a, b, rfl⟩ := list_two hl
  obtain ⟨x, y, rfl⟩ := list_two hn
  have h0 := hi 0 (by omega)
  have h1 := hi 1 (by omega)
  rw [hc4] at h0 h1
  have h0' : DataW.trod (fun _ => ()) Tryd.prog W 0 (fun _ => true) false m 4 [a] = some x := h0
  have h1' : DataW.trod (fun _ => ()) Tryd.prog W 0 (fun _ => true) false m 4 [b] = some y := h1
  obtain ⟨b0, e0, f0⟩ := DataW.trod_bool hu4 h0'
  obtain ⟨b1, e1, f1⟩ := DataW.trod_bool hu4 h1'
  have hx1 := congrArg Prod.fst hx
  have hx2 : (DataW.agg [.lit (.bool false), .lit (.bool true)] : DataW Unit) = .agg [x.1, y.1] := hx1
  rw [f0, f1] at hx2
  simp only [DataW.agg.injEq, List.cons.injEq, DataW.lit.injEq, Lit.bool.injEq, and_true] at hx2
  simp only [List.cons.injEq, and_true] at e0 e1
  rw [e0, e1, ← hx2.1, ← hx2.2]
theorem gok_of_laid {W : World} (h : laidMetH Tryd.prog YtmmioohcgdnpdaaDoor.Rows.blockMatchesReferenceRow.laid W) : GOK G16 W (fun _ => False) := by
  have ht := var_of_laid h
  have hf := flags_of_laid h
  unfold World.var? at ht hf
  rw [et] at ht
  rw [fl] at hf
  simp only [Option.bind_some] at ht hf
  intro n l hl
  unfold G16 at hl
  cases hn : Nat.beq n 0 with
  | true =>
    rw [hn, cond_true] at hl
    cases hl
    have := nbeq hn
    subst this
    refine ⟨fun h => h, ?_⟩
    split at hf
    case h_2 => cases hf
    rename_i cs T fr hc
    simp only [Option.some.injEq] at hf
    refine ⟨cs, T, fr, hc, by rw [hf]; rfl, fun j v hv => ?_, fun j hj => ?_⟩
    · match j with
      | 0 =>
        simp only [List.getElem?_cons_zero, Option.some.injEq] at hv
        subst hv
        rw [hf]
        exact .bool
      | 1 =>
        simp only [List.getElem?_cons_succ, List.getElem?_cons_zero, Option.some.injEq] at hv
        subst hv
        rw [hf]
        exact .bool
      | j + 2 => simp at hv
    · rw [hf] at hj ⊢
      match j, hj with
      | 0, _ => rfl
      | 1, _ => rfl
      | j + 2, hj => exact absurd hj (by simp)
  | false =>
    rw [hn, cond_false] at hl
    cases hn1 : Nat.beq n 1 with
    | false => rw [hn1] at hl; cases hl
    | true =>
      rw [hn1, cond_true] at hl
      cases hl
      have := nbeq hn1
      subst this
      refine ⟨fun h => h, ?_⟩
      split at ht
      case h_2 => cases ht
      rename_i cs T fr hc
      simp only [Option.some.injEq] at ht
      refine ⟨cs, T, fr, hc, by rw [ht]; rfl, fun j v hv => ?_, fun j hj => ?_⟩
      · cases j with
        | zero =>
          simp only [List.getElem?_cons_zero, Option.some.injEq] at hv
          subst hv
          rw [ht]
          exact .val rfl
        | succ j => simp at hv
      · rw [ht] at hj ⊢
        have : j = 0 := by simpa using hj
        subst this
        rfl
noncomputable def laidWorld (os : Os) : World :=
  let w0 := World.holding Tryd.prog os ⟨#[], #[], []⟩
  { w0 with heap := (w0.heap.modify 0 fun
      | .cells _ t frozen => .cells #[.bool false, .bool true] t frozen
      | o => o).modify 1 fun
      | .cells _ t frozen => .cells #[errT] t frozen
      | o => o }
theorem door_met (os : Os) (args : Array Value) : laidMetH Tryd.prog YtmmioohcgdnpdaaDoor.Rows.blockMatchesReferenceRow.laid ((laidWorld os).forCall (fun _ _ => 0) ⟨#[], args, []⟩).memory :=
  laidMetH_of_parts (laidMet_of_run' 8 (by kernel_rfl) (by kernel_rfl)) (by kernel_rfl)
theorem types_of {xs : List (List IV)} (h : ∀ x ∈ xs, ∃ vs, KRep [.int .i32, .bool, .int .u8] x vs) : okT xs := by
  have : ∃ L : List Ty, xs = L.map cellsT ∧ ∀ t ∈ L, okTy t := by
    induction xs with
    | nil => exact ⟨[], rfl, fun t h => by cases h⟩
    | cons x xs ih =>
      obtain ⟨L, rfl, hL⟩ := ih fun y hy => h y (by simp [hy])
      obtain ⟨vs, hx⟩ := h x (by simp)
      obtain ⟨o, is1, vs1, e1, e2, ho, hx1⟩ := hx.cons_int
      obtain ⟨d, is2, vs2, e3, e4, hx2⟩ := hx1.cons_bool
      obtain ⟨g, is3, vs3, e5, e6, hg, hx3⟩ := hx2.cons_int
      obtain ⟨e7, e8⟩ := hx3.end
      subst e7 e8 e5 e6 e3 e4 e1 e2
      have ho' : (-2147483648 : Int) ≤ o ∧ o ≤ 2147483647 := ho
      have hg' : (0 : Int) ≤ g ∧ g ≤ 255 := hg
      exact ⟨⟨o, d, g⟩ :: L, rfl, fun t ht => by
        rcases List.mem_cons.1 ht with rfl | ht
        · exact ⟨ho'.1, ho'.2, hg'.1, hg'.2⟩
        · exact hL t ht⟩
  obtain ⟨L, rfl, hL⟩ := this
  have e : tys (L.map cellsT) = L := by
    simp only [tys, List.map_map]
    conv => rhs; rw [← List.map_id L]
    exact List.map_congr_left fun t _ => rfl
  exact ⟨by rw [e], by rw [e]; exact hL⟩
theorem leaps_of {xs : List (List IV)} (h : ∀ x ∈ xs, ∃ vs, KRep [.int .i64, .int .i32] x vs) : okL xs := by
  have : ∃ L : List Lp, xs = L.map cellsL ∧ ∀ t ∈ L, okLp t := by
    induction xs with
    | nil => exact ⟨[], rfl, fun t h => by cases h⟩
    | cons x xs ih =>
      obtain ⟨L, rfl, hL⟩ := ih fun y hy => h y (by simp [hy])
      obtain ⟨vs, hx⟩ := h x (by simp)
      obtain ⟨o, is1, vs1, e1, e2, ho, hx1⟩ := hx.cons_int
      obtain ⟨g, is3, vs3, e5, e6, hg, hx3⟩ := hx1.cons_int
      obtain ⟨e7, e8⟩ := hx3.end
      subst e7 e8 e5 e6 e1 e2
      have ho' : (-9223372036854775808 : Int) ≤ o ∧ o ≤ 9223372036854775807 := ho
      have hg' : (-2147483648 : Int) ≤ g ∧ g ≤ 2147483647 := hg
      exact ⟨⟨o, g⟩ :: L, rfl, fun t ht => by
        rcases List.mem_cons.1 ht with rfl | ht
        · exact ⟨ho'.1, ho'.2, hg'.1, hg'.2⟩
        · exact hL t ht⟩
  obtain ⟨L, rfl, hL⟩ := this
  have e : lps (L.map cellsL) = L := by
    simp only [lps, List.map_map]
    conv => rhs; rw [← List.map_id L]
    exact List.map_congr_left fun t _ => rfl
  exact ⟨by rw [e], by rw [e]; exact hL⟩
theorem u32_of {n : Int} (h : InR .u32 n) : U32 n := by
  have h' : (0 : Int) ≤ n ∧ n ≤ 4294967295 := h
  exact ⟨h'.1, h'.2⟩
end Z19
namespace Z19
open Go Go.AE Go.Proofs D6
noncomputable def K3f : Cx := ⟨Tryd.prog, F5, noCall, G16, 4016⟩
end Z19
set_option maxRecDepth 100000
namespace Z19
open Go Go.AE Go.Proofs D6
attribute [local irreducible] loopK evCode evSpec loopB norm
theorem f3_in (d : List
  UInt8) (p : Int) (e : Int) (a : Int) (v : Int) (iu : Int) (is : Int) (l : Int) (t : Int) (ty : Int) (c : Int) (T : List
  Int) (I : List
  UInt8) (X : List
  (List
    IV)) (C : List
  UInt8) (L : List
  (List
    IV)) (S : List
  Bool) (U : List
  Bool) (w : Bool) (at' : Int) (K : List AV →
  Prop) : evSpec K3f Tryd.f3 [curAV d p e a, hdAV v iu is l t ty c, blkAV T I X C L S U, bo w, i64 at'] K =
  (let Q1 : List UInt8 := (encB T I (tys X) C (lps L) S U (Int.toNat (if w = true then (8 : Int) else (4 : Int)))); let Q2 : Bk × Cu := (decU (Cu.mk d p e a) (Hd.mk v iu is l t ty c) (if w = true then (8 : Int) else (4 : Int)) at'); let Q3 : Hd := (hdOf T X C L S U (3 : Int)); let A2 : Prop := ((K [AV.imm (IV.bool false)])); let A60 : Prop := ((Z19.okE T I X C L S U ∧ sz48 (if w = true then (8 : Int) else (4 : Int)) ∧ (↑(List.length Q1) : Int) ≤ big ∧ (↑(List.length Q1) : Int) ≤ big ∧ K [AV.imm (IV.bool (decide (Q1 = Q1)))])); let A62 : Prop := ((Z19.okE T I X C L S U ∧ sz48 (if w = true then (8 : Int) else (4 : Int)) ∧ A60)); let A76 : Prop := ((okB T I X C L S U ∧ okB (Bk.T (Prod.fst Q2)) (Bk.I (Prod.fst Q2)) (List.map cellsT (Bk.X (Prod.fst Q2))) (Bk.C (Prod.fst Q2)) (List.map cellsL (Bk.L (Prod.fst Q2))) (Bk.S (Prod.fst Q2)) (Bk.U (Prod.fst Q2)) ∧ brn (!sameK T I X C L S U (Bk.T (Prod.fst Q2)) (Bk.I (Prod.fst Q2)) (List.map cellsT (Bk.X (Prod.fst Q2))) (Bk.C (Prod.fst Q2)) (List.map
 cellsL (Bk.L (Prod.fst Q2))) (Bk.S (Prod.fst Q2)) (Bk.U (Prod.fst Q2)) == sameK T I X C L S U (Bk.T (Prod.fst Q2)) (Bk.I (Prod.fst Q2)) (List.map cellsT (Bk.X (Prod.fst Q2))) (Bk.C (Prod.fst Q2)) (List.map cellsL (Bk.L (Prod.fst Q2))) (Bk.S (Prod.fst Q2)) (Bk.U (Prod.fst Q2))) A2 (okBb T I X C L S U ∧ sz48 (if w = true then (8 : Int) else (4 : Int)) ∧ brn (!encable T I X C L S U (if w = true then (8 : Int) else (4 : Int))) (K [AV.imm (IV.bool true)]) (((Z19.okE T I X C L S U ∧ sz48 (if w = true then (8 : Int) else (4 : Int)) ∧ A60) ∧ A62) ∧ A62)))); let A77 : Prop := ((A76)); let A78 : Prop := ((A76)); let A80 : Prop := ((okB T I X C L S U ∧ okB (Bk.T (Prod.fst Q2)) (Bk.I (Prod.fst Q2)) (List.map cellsT (Bk.X (Prod.fst Q2))) (Bk.C (Prod.fst Q2)) (List.map cellsL (Bk.L (Prod.fst Q2))) (Bk.S (Prod.fst Q2)) (Bk.U (Prod.fst Q2)) ∧ A76)); let A81 : Prop := (((okB T I X C L S U ∧ okB (Bk.T (Prod.fst Q2)) (Bk.I (Prod.fst Q2)) (List.map cellsT (Bk.X (Prod.fst Q2))) (Bk.C (Prod.fst Q2))
 (List.map cellsL (Bk.L (Prod.fst Q2))) (Bk.S (Prod.fst Q2)) (Bk.U (Prod.fst Q2)) ∧ A77) ∧ A80)); let A82 : Prop := (((okB T I X C L S U ∧ okB (Bk.T (Prod.fst Q2)) (Bk.I (Prod.fst Q2)) (List.map cellsT (Bk.X (Prod.fst Q2))) (Bk.C (Prod.fst Q2)) (List.map cellsL (Bk.L (Prod.fst Q2))) (Bk.S (Prod.fst Q2)) (Bk.U (Prod.fst Q2)) ∧ A78) ∧ A80)); let A83 : Prop := (((okB T I X C L S U ∧ okB (Bk.T (Prod.fst Q2)) (Bk.I (Prod.fst Q2)) (List.map cellsT (Bk.X (Prod.fst Q2))) (Bk.C (Prod.fst Q2)) (List.map cellsL (Bk.L (Prod.fst Q2))) (Bk.S (Prod.fst Q2)) (Bk.U (Prod.fst Q2)) ∧ A77 ∧ A78) ∧ A81 ∧ A82)); let A84 : Prop := ((A80)); let A85 : Prop := ((A81 ∧ A84)); let A86 : Prop := ((A82 ∧ A84)); let A88 : Prop := ((A80)); let A89 : Prop := ((A81 ∧ A88)); let A90 : Prop := ((A82 ∧ A88)); let A92 : Prop := ((A84 ∧ A88)); let A99 : Prop := ((brn (!((3 : Int) == (3 : Int) && (Hd.iu Q3 == Hd.iu Q3 && (Hd.is Q3 == Hd.is Q3 && (Hd.l Q3 == Hd.l Q3 && (Hd.t Q3 == Hd.t Q3 && (Hd.ty Q3 == Hd.ty Q3 && (Hd.c Q3 ==
 Hd.c Q3 && true)))))))) A2 ((A83 ∧ A85 ∧ A86) ∧ (A83 ∧ A89 ∧ A90) ∧ (A85 ∧ A89 ∧ A92) ∧ A86 ∧ A90 ∧ A92))); let A101 : Prop := ((A99)); let A108 : Prop := (((↑(List.length (Cu.d (Prod.snd Q2))) : Int) ≤ big ∧ (↑(List.length (Cu.d (Prod.snd Q2))) : Int) ≤ big ∧ brn (!(decide (Cu.d (Prod.snd Q2) = Cu.d (Prod.snd Q2)) && (Cu.p (Prod.snd Q2) == Cu.p (Prod.snd Q2) && (Cu.e (Prod.snd Q2) == Cu.e (Prod.snd Q2) && Cu.a (Prod.snd Q2) == Cu.a (Prod.snd Q2))))) A2 ((A99 ∧ A101) ∧ A101))); let A114 : Prop := ((okB (Bk.T (Prod.fst Q2)) (Bk.I (Prod.fst Q2)) (List.map cellsT (Bk.X (Prod.fst Q2))) (Bk.C (Prod.fst Q2)) (List.map cellsL (Bk.L (Prod.fst Q2))) (Bk.S (Prod.fst Q2)) (Bk.U (Prod.fst Q2)) ∧ okB (Bk.T (Prod.fst Q2)) (Bk.I (Prod.fst Q2)) (List.map cellsT (Bk.X (Prod.fst Q2))) (Bk.C (Prod.fst Q2)) (List.map cellsL (Bk.L (Prod.fst Q2))) (Bk.S (Prod.fst Q2)) (Bk.U (Prod.fst Q2)) ∧ brn (!sameK (Bk.T (Prod.fst Q2)) (Bk.I (Prod.fst Q2)) (List.map cellsT (Bk.X (Prod.fst Q2))) (Bk.C (Prod.fst Q2))
 (List.map cellsL (Bk.L (Prod.fst Q2))) (Bk.S (Prod.fst Q2)) (Bk.U (Prod.fst Q2)) (Bk.T (Prod.fst Q2)) (Bk.I (Prod.fst Q2)) (List.map cellsT (Bk.X (Prod.fst Q2))) (Bk.C (Prod.fst Q2)) (List.map cellsL (Bk.L (Prod.fst Q2))) (Bk.S (Prod.fst Q2)) (Bk.U (Prod.fst Q2))) A2 (A108 ∧ A108))); brn (!true || !validC (Cu.mk d p e a) || !fewB T I X C L S U) (K [AV.imm (IV.bool true)]) (okU (Cu.mk d p e a) ∧ okH (Hd.mk v iu is l t ty c) ∧ sz48 (if w = true then (8 : Int) else (4 : Int)) ∧ okU (Cu.mk d p e a) ∧ okH (Hd.mk v iu is l t ty c) ∧ sz48 (if w = true then (8 : Int) else (4 : Int)) ∧ A114 ∧ A114)) := by kernel_rfl
end Z19
set_option maxRecDepth 100000
namespace Z19
open Go Go.AE Go.Proofs D6
theorem tys_map5 (L : List Ty) : tys (L.map cellsT) = L := by
  simp only [tys, List.map_map]
  conv => rhs; rw [← List.map_id L]
  exact List.map_congr_left fun t _ => rfl
theorem lps_map5 (L : List Lp) : lps (L.map cellsL) = L := by
  simp only [lps, List.map_map]
  conv => rhs; rw [← List.map_id L]
  exact List.map_congr_left fun t _ => rfl
theorem okT_map5 {L : List Ty} (h : ∀ t ∈ L, okTy t) : okT (L.map cellsT) := ⟨by rw [tys_map5], by rw [tys_map5]; exact h⟩
theorem okL_map5 {L : List Lp} (h : ∀ t ∈ L, okLp t) : okL (L.map cellsL) := ⟨by rw [lps_map5], by rw [lps_map5]; exact h⟩
theorem okLp_of {n : Nat} {l : Lp} (h : inN n l.a ∧ inN 4 l.c) : okLp l := by
  obtain ⟨h1, h2⟩ := h
  have c2 : -2147483648 ≤ l.c ∧ l.c < 2147483648 := by
    rcases h2 with ⟨_, a, b⟩ | ⟨e, _⟩
    · exact ⟨a, b⟩
    · cases e
  refine ⟨?_, ?_, c2.1, by omega⟩
  · rcases h1 with ⟨_, a, b⟩ | ⟨_, a, b⟩ <;> omega
  · rcases h1 with ⟨_, a, b⟩ | ⟨_, a, b⟩ <;> omega
theorem okB_zero : okB [] [] [] [] [] [] [] := by
  refine ⟨⟨rfl, fun t ht => by cases ht⟩, ⟨rfl, fun t ht => by cases ht⟩, ?_⟩
  decide
theorem u32w_of {n : Nat} (h : (n : Int) ≤ 4294967295) : u32w n = (n : Int) := by
  unfold u32w IntKind.wrap
  simp only [IntKind.signed, IntKind.bits, Bool.false_and, Bool.false_eq_true, if_false]
  omega
theorem dec_facts {d : List UInt8} {v iu is l t ty c : Int} {n : Nat} (hh : okH ⟨v, iu, is, l, t, ty, c⟩) (hn : n = 4 ∨ n = 8) (hD : sumU ⟨v, iu, is, l, t, ty, c⟩ n ≤ d.length) (hok : okD d ⟨v, iu, is, l, t, ty, c⟩ n = true) (hd : d.length ≤ 2000) (b : Bk) (hb : b = decB d ⟨v, iu, is, l, t, ty, c⟩ n) :
    encB b.T b.I (tys (b.X.map cellsT)) b.C (lps (b.L.map cellsL)) b.S b.U n = d.take (sumU ⟨v, iu, is, l, t, ty, c⟩ n).toNat ∧
    (∀ v', hdOf b.T (b.X.map cellsT) b.C (b.L.map cellsL) b.S b.U v' = ⟨v', iu, is, l, t, ty, c⟩) ∧
    okE b.T b.I (b.X.map cellsT) b.C (b.L.map cellsL) b.S b.U ∧ okB b.T b.I (b.X.map cellsT) b.C (b.L.map cellsL) b.S b.U := by
  obtain ⟨h1, h2, h3, h4, h5⟩ := enc_decB hh hn hD hok
  rw [← hb] at h1 h2 h3 h4 h5
  have hs : sz48 (n : Int) := by rcases hn with rfl | rfl; exact .inl rfl; exact .inr rfl
  obtain ⟨q0, q1, q2, q3, q4, q5, q6, q7⟩ := sum_pos hh hs
  obtain ⟨f1, f2, f3, f4, f5, f6, f7⟩ := h2
  have hsum : sumU ⟨v, iu, is, l, t, ty, c⟩ n = l0 ⟨v, iu, is, l, t, ty, c⟩ n + t + 6 * ty + c + l4 ⟨v, iu, is, l, t, ty, c⟩ n + is + iu := rfl
  have e4 : l4 ⟨v, iu, is, l, t, ty, c⟩ n = l * ((n : Int) + 4) := rfl
  have hl8 : l ≤ l4 ⟨v, iu, is, l, t, ty, c⟩ n := by
    rw [e4]
    have : 0 ≤ l := hh.2.2.1.1
    rcases hn with rfl | rfl <;> omega
  have p1 : 0 ≤ t := hh.2.2.2.1.1
  have p2 : 0 ≤ ty := hh.2.2.2.2.1.1
  have p3 : 0 ≤ c := hh.2.2.2.2.2.1
  have p4 : 0 ≤ l := hh.2.2.1.1
  have p5 : 0 ≤ is := hh.2.1.1
  have p6 : 0 ≤ iu := hh.1.1
  simp only at f1 f2 f3 f4 f5 f6 f7
  have oT := okT_map5 h4
  have oL := okL_map5 (L := b.L) fun t ht => okLp_of (h5 t ht)
  refine ⟨by rw [tys_map5, lps_map5]; exact h1, fun v' => ?_, ⟨oT, oL, ?_⟩, ⟨oT, oL, ?_⟩⟩
  · unfold hdOf
    rw [List.length_map, List.length_map, u32w_of (by omega), u32w_of (by omega), u32w_of (by omega), u32w_of (by omega), u32w_of (by omega), u32w_of (by omega), ← f1, ← f3, ← f4, ← f5, ← f6, ← f7]
  · simp only [List.length_map]
    omega
  · have hbig : big' = 1000000000000 := rfl
    simp only [List.length_map]
    omega
end Z19
set_option maxRecDepth 100000
namespace Z19
open Go Go.AE Go.Proofs D6
attribute [local irreducible] loopK evCode evSpec loopB norm
theorem dec_d {k : Cu} {h : Hd} {s a : Int} : (decU k h s a).2.d = k.d := by
  unfold decU
  split
  · split
    · split <;> rfl
    · rfl
  · rfl
theorem dec_okB {d : List UInt8} {p e a : Int} {v iu is l t ty c : Int} {n : Nat} {at' : Int} (hp : 0 ≤ p) (hh : okH ⟨v, iu, is, l, t, ty, c⟩) (hn : n = 4 ∨ n = 8) (hd : d.length ≤ 2000) (b : Bk × Cu) (hb : b = decU ⟨d, p, e, a⟩ ⟨v, iu, is, l, t, ty, c⟩ n at') :
    okB b.1.T b.1.I (b.1.X.map cellsT) b.1.C (b.1.L.map cellsL) b.1.S b.1.U := by
  have z : ∀ k : Cu, (zB, k) = b → okB b.1.T b.1.I (b.1.X.map cellsT) b.1.C (b.1.L.map cellsL) b.1.S b.1.U := fun k e => by
    rw [← e]; exact okB_zero
  unfold decU at hb
  split at hb
  · rename_i he
    split at hb
    · rename_i hf
      split at hb
      · rename_i hok
        have hl : sumU ⟨v, iu, is, l, t, ty, c⟩ n ≤ (d.drop p.toNat).length := by
          unfold fitsD restU at hf
          rw [if_pos he] at hf
          simp only [decide_eq_true_eq] at hf
          rw [List.length_drop]
          have hs : sz48 (n : Int) := by rcases hn with rfl | rfl; exact .inl rfl; exact .inr rfl
          obtain ⟨q0, q1, q2, q3, q4, q5, q6, q7⟩ := sum_pos hh hs
          have : 0 ≤ sumU ⟨v, iu, is, l, t, ty, c⟩ n := by unfold sumU; omega
          omega
        exact (dec_facts hh hn hl hok (by rw [List.length_drop]; omega) b.1 (by rw [hb])).2.2.2
      · exact z _ hb.symm
    · exact z _ hb.symm
  · exact z _ hb.symm
theorem few_facts {T : List Int} {I : List UInt8} {X : List (List IV)} {C : List UInt8} {L : List (List IV)} {S U : List Bool} {n : Nat} (hn : n = 4 ∨ n = 8) (hX : okT X) (hL : okL L) (h : fewB T I X C L S U = true) :
    okE T I X C L S U ∧ okB T I X C L S U ∧ okBb T I X C L S U ∧ ((encB T I (tys X) C (lps L) S U n).length : Int) ≤ big := by
  obtain ⟨a1, a2, a3, a4, a5, a6, a7⟩ := fewB_elim h
  have lt : (tys X).length = X.length := by simp [tys]
  have ll' : (lps L).length = L.length := by simp [lps]
  have hbig : big' = 1000000000000 := rfl
  have hbig2 : big = 4611686018427387904 := rfl
  refine ⟨⟨hX, hL, by omega⟩, ⟨hX, hL, by omega⟩, ⟨hX, hL, by omega⟩, ?_⟩
  have q1 : n * T.length ≤ 8 * 200 := Nat.mul_le_mul (by omega) a1
  have q2 : (n + 4) * L.length ≤ 12 * 200 := Nat.mul_le_mul (by omega) a5
  unfold encB
  simp only [List.length_append, encI_len, enc_len, encL_len, encO, List.length_map, lt, ll']
  omega
set_option maxHeartbeats 4000000 in
theorem f3_ev (d : List UInt8) (p e a v iu is l t ty c : Int) (T : List Int) (I : List UInt8) (X : List (List IV)) (C : List UInt8) (L : List (List IV)) (S U : List Bool) (w : Bool) (at' : Int) (hh : okH ⟨v, iu, is, l, t, ty, c⟩) (hX : okT X) (hL : okL L)
    (K : List AV → Prop) (hK : K [bo true]) : evSpec K3f Tryd.f3 [curAV d p e a, hdAV v iu is l t ty c, blkAV T I X C L S U, bo w, i64 at'] K := by
  refine Eq.mpr (f3_in d p e a v iu is l t ty c T I X C L S U w at' K) ?_
  obtain ⟨n, hn, hs⟩ := sz_w w
  rw [hs]
  intro Q1 Q2 Q3 A2 A60 A62 A76 A77 A78 A80 A81 A82 A83 A84 A85 A86 A88 A89 A90 A92 A99 A101 A108 A114
  refine brn_intro (fun _ => hK) (fun hx => ?_)
  simp only [Bool.not_true, Bool.false_or, Bool.or_eq_false_iff, Bool.not_eq_false'] at hx
  obtain ⟨hv, hf⟩ := hx
  have hsz : sz48 (n : Int) := by rcases hn with rfl | rfl; exact .inl rfl; exact .inr rfl
  have hv' : 0 ≤ p ∧ p ≤ (d.length : Int) ∧ (d.length : Int) ≤ 2000 := by
    unfold validC at hv
    simp only [Bool.and_eq_true, decide_eq_true_eq] at hv
    exact ⟨hv.1.1.1, hv.1.1.2, hv.2⟩
  have pU : okU ⟨d, p, e, a⟩ := ⟨hv'.1, hv'.2.1, by show (d.length : Int) ≤ _; omega⟩
  obtain ⟨xE, oB, oBb, hl⟩ := few_facts (n := n) hn hX hL hf
  have hl1 : (Q1.length : Int) ≤ big := by
    show ((encB T I (tys X) C (lps L) S U (Int.toNat (n : Int))).length : Int) ≤ big
    rw [Int.toNat_natCast]; exact hl
  have oD := dec_okB (e := e) (a := a) (at' := at') hv'.1 hh hn (by omega) Q2 rfl
  have hdl : ((Cu.d (Prod.snd Q2)).length : Int) ≤ big := by
    have e1 : Cu.d (Prod.snd Q2) = d := dec_d
    rw [e1]
    have hbig2 : big = 4611686018427387904 := rfl
    omega
  clear_value Q1 Q2 Q3
  have hK' : K [AV.imm (IV.bool (decide (Q1 = Q1)))] := (congrArg (fun b => K [.imm (.bool b)]) (by simp : decide (Q1 = Q1) = true)).mpr hK
  have a60 : A60 := ⟨xE, hsz, hl1, hl1, hK'⟩
  have a62 : A62 := ⟨xE, hsz, a60⟩
  have a76 : A76 := ⟨oB, oD, brn_intro (fun h => by simp at h) (fun _ => ⟨oBb, hsz, brn_intro (fun _ => hK) (fun _ => ⟨⟨⟨xE, hsz, a60⟩, a62⟩, a62⟩)⟩)⟩
  have a77 : A77 := a76
  have a78 : A78 := a76
  have a80 : A80 := ⟨oB, oD, a76⟩
  have a81 : A81 := ⟨⟨oB, oD, a77⟩, a80⟩
  have a82 : A82 := ⟨⟨oB, oD, a78⟩, a80⟩
  have a83 : A83 := ⟨⟨oB, oD, a77, a78⟩, a81, a82⟩
  have a84 : A84 := a80
  have a85 : A85 := ⟨a81, a84⟩
  have a86 : A86 := ⟨a82, a84⟩
  have a88 : A88 := a80
  have a89 : A89 := ⟨a81, a88⟩
  have a90 : A90 := ⟨a82, a88⟩
  have a92 : A92 := ⟨a84, a88⟩
  have a99 : A99 := brn_intro (fun h => by simp at h) (fun _ => ⟨⟨a83, a85, a86⟩, ⟨a83, a89, a90⟩, ⟨a85, a89, a92⟩, a86, a90, a92⟩)
  have a101 : A101 := a99
  have a108 : A108 := ⟨hdl, hdl, brn_intro (fun h => by simp at h) (fun _ => ⟨⟨a99, a101⟩, a101⟩)⟩
  have a114 : A114 := ⟨oD, oD, brn_intro (fun h => by simp [sameK] at h) (fun _ => ⟨a108, a108⟩)⟩
  exact ⟨pU, hh, hsz, pU, hh, hsz, a114, a114⟩
end Z19
namespace Go.Proofs.YtmmioohcgdnpdaaDoor
open Go Go.AE Go.Proofs Z19 D6
open Go.ChangeShapes Go.WideShapes Go.ChangeAt Go.RowKit Go.ChangeMaps
attribute [local irreducible] loopK evCode evSpec loopB norm evFunc
theorem Tryd.own : ownKnob Tryd.prog.godebug = none := by kernel_rfl
set_option maxRecDepth 100000 in
theorem f3_lifted (os : Os) (started : os.Started) (H : Type) (enc : TypeId × Value → H) :
    ReturnsInHanded {} Tryd.checked os 3 .any (fun w args => (Rows.blockMatchesReferenceSpec.pre enc Tryd.prog Tryd.f3 [] false w args ∧ laidMetH Tryd.prog Rows.blockMatchesReferenceRow.laid w) ∧ sizedMet enc Tryd.prog Tryd.f3 (OpenSpec.ofChange Rows.blockMatchesReferenceSpec) false w args)
      (Rows.blockMatchesReferenceSpec.post enc Tryd.prog Tryd.f3 false true false false) := by
  refine returnsInHanded_of_change_and (C := Tryd.checked) (X := fun w _ => laidMetH Tryd.prog Rows.blockMatchesReferenceRow.laid w) (fun _ _ _ hh h => h.of_heap hh) Tryd.own started (by kernel_rfl) Tryd.func3
    (ChangeSpec.witness_at (enc := enc) (C := Tryd.checked) (os := os) (X := fun w _ => laidMetH Tryd.prog Rows.blockMatchesReferenceRow.laid w) false (laidWorld os) #[.agg #[.slice none 0 0, .int .i64 0, .int .i64 0, .int .i64 0], .agg #[.int .i64 0, .int .u32 0, .int .u32 0, .int .u32 0, .int .u32 0, .int .u32 0, .int .u32 0], .agg #[.slice none 0 0, .slice none 0 0, .slice none 0 0, .slice none 0 0, .slice none 0 0, .slice none 0 0, .slice none 0 0], .bool false, .int .i64 0] 8 rfl (by kernel_rfl) (by kernel_rfl) (by kernel_rfl) (by kernel_rfl) (by kernel_rfl) (door_met os _)) ?_
  intro W base args ds gs before hval0 hW _ hsz hL _
  obtain ⟨l⟩ := args
  have hval : ∀ (j : Nat) t v, Tryd.f3.params[j]? = some t → l[j]? = some v → Value.okWide Tryd.prog W .any base t v := fun j t v h1 h2 => hval0 j t v h1 (by simpa using h2)
  have hW' := hW
  obtain ⟨p, q, hB, hV, rfl, hfz, hnd⟩ := hW
  obtain ⟨rfl, rfl⟩ := trodVars_none hV
  have hA0 : DataW.TrodAll enc Tryd.prog W 0 (fun _ => true) true [25, 28, 34, 4, 3] l ds p := by have h := hB; rw [Tryd.params3] at h; exact h
  rw [Tryd.params3] at hval
  clear hB hval0
  obtain ⟨v0, l, d0, ds, p0, p, rfl, rfl, h0, hA1, rfl⟩ := all_cons hA0
  obtain ⟨v1, l, d1, ds, p1, p, rfl, rfl, h1, hA2, rfl⟩ := all_cons hA1
  obtain ⟨v2, l, d2, ds, p2, p, rfl, rfl, h2, hA3, rfl⟩ := all_cons hA2
  obtain ⟨v3, l, d3, ds, p3, p, rfl, rfl, h3, hA4, rfl⟩ := all_cons hA3
  obtain ⟨v4, l, d4, ds, p4, p, rfl, rfl, h4, hA5, rfl⟩ := all_cons hA4
  obtain ⟨rfl, rfl, rfl⟩ := all_nil hA5
  obtain ⟨l0, rfl, M0⟩ := open_mix Tryd.underlying25 (by kernel_rfl : mixK Tryd.prog 40 25 = some [(22, .sl [.int .u8]), (3, .ck (.int .i64)), (23, .ck (.int .i64)), (3, .ck (.int .i64))]) (by kernel_rfl) (by kernel_rfl) (hval 0 25 v0 rfl rfl) h0 (weights_arg hsz (j := 0) (by rw [Tryd.params3]; rfl) rfl)
  obtain ⟨u0a, l0, rfl, c0a, M0⟩ := mall_cons M0
  obtain ⟨x0a, s0a, r0a⟩ := c0a.bytes
  obtain ⟨u0b, l0, rfl, c0b, M0⟩ := mall_cons M0
  obtain ⟨x0b, g0b, r0b⟩ := c0b.int
  obtain ⟨u0c, l0, rfl, c0c, M0⟩ := mall_cons M0
  obtain ⟨x0c, g0c, r0c⟩ := c0c.int
  obtain ⟨u0d, l0, rfl, c0d, M0⟩ := mall_cons M0
  obtain ⟨x0d, g0d, r0d⟩ := c0d.int
  obtain rfl := mall_nil M0
  obtain ⟨i1, l1, rfl, k1⟩ := open_flat Tryd.underlying28 (by kernel_rfl : flatK Tryd.prog false 40 28 = some [(.int .i64), (.int .u32), (.int .u32), (.int .u32), (.int .u32), (.int .u32), (.int .u32)]) (hval 1 28 v1 rfl rfl) h1
  have K1 := k1
  obtain ⟨n1a, i1, l1, rfl, rfl, m1a, k1_1⟩ := k1.cons_int
  obtain ⟨n1b, i1, l1, rfl, rfl, m1b, k1_2⟩ := k1_1.cons_int
  obtain ⟨n1c, i1, l1, rfl, rfl, m1c, k1_3⟩ := k1_2.cons_int
  obtain ⟨n1d, i1, l1, rfl, rfl, m1d, k1_4⟩ := k1_3.cons_int
  obtain ⟨n1e, i1, l1, rfl, rfl, m1e, k1_5⟩ := k1_4.cons_int
  obtain ⟨n1f, i1, l1, rfl, rfl, m1f, k1_6⟩ := k1_5.cons_int
  obtain ⟨n1g, i1, l1, rfl, rfl, m1g, k1_7⟩ := k1_6.cons_int
  obtain ⟨rfl, rfl⟩ := k1_7.end
  obtain ⟨l2, rfl, M2⟩ := open_mix Tryd.underlying34 (by kernel_rfl : mixK Tryd.prog 40 34 = some [(29, .sl [.int .i64]), (22, .sl [.int .u8]), (30, .sl [(.int .i32), .bool, (.int .u8)]), (22, .sl [.int .u8]), (31, .sl [(.int .i64), (.int .i32)]), (32, .sl [.bool]), (32, .sl [.bool])]) (by kernel_rfl) (by kernel_rfl) (hval 2 34 v2 rfl rfl) h2 (weights_arg hsz (j := 2) (by rw [Tryd.params3]; rfl) rfl)
  obtain ⟨u2a, l2, rfl, c2a, M2⟩ := mall_cons M2
  obtain ⟨x2a, g2a, s2a, r2a⟩ := c2a.ints
  obtain ⟨u2b, l2, rfl, c2b, M2⟩ := mall_cons M2
  obtain ⟨x2b, s2b, r2b⟩ := c2b.bytes
  obtain ⟨u2c, l2, rfl, c2c, M2⟩ := mall_cons M2
  obtain ⟨x2c, k2c, s2c, r2c⟩ := MOk.structs rfl c2c
  have o2c := types_of k2c
  obtain ⟨u2d, l2, rfl, c2d, M2⟩ := mall_cons M2
  obtain ⟨x2d, s2d, r2d⟩ := c2d.bytes
  obtain ⟨u2e, l2, rfl, c2e, M2⟩ := mall_cons M2
  obtain ⟨x2e, k2e, s2e, r2e⟩ := MOk.structs rfl c2e
  have o2e := leaps_of k2e
  obtain ⟨u2f, l2, rfl, c2f, M2⟩ := mall_cons M2
  obtain ⟨x2f, s2f, r2f⟩ := c2f.bools
  obtain ⟨u2g, l2, rfl, c2g, M2⟩ := mall_cons M2
  obtain ⟨x2g, s2g, r2g⟩ := c2g.bools
  obtain rfl := mall_nil M2
  obtain ⟨a3, rfl, rfl, rfl⟩ := open_bool Tryd.underlying4 (hval 3 4 v3 rfl rfl) h3
  obtain ⟨a4, rfl, rfl, rfl, w4⟩ := open_int Tryd.underlying3 (hval 4 3 v4 rfl rfl) h4
  have m4 := inR_wf w4
  have hspec : SpecOK Tryd.prog G16 3 [.agg [.imm (.bytes x0a), .imm (.int .i64 x0b), .imm (.int .i64 x0c), .imm (.int .i64 x0d)], .agg [.imm (.int .i64 n1a), .imm (.int .u32 n1b), .imm (.int .u32 n1c), .imm (.int .u32 n1d), .imm (.int .u32 n1e), .imm (.int .u32 n1f), .imm (.int .u32 n1g)], .agg [.imm (.ints .i64 x2a), .imm (.bytes x2b), .imm (.sl 3 x2c), .imm (.bytes x2d), .imm (.sl 2 x2e), .imm (.bools x2f), .imm (.bools x2g)], .imm (.bool a3), .imm (.int .i64 a4)] [] [.imm (.bool true)] := spec_ok (C := K3f) okF5 noCall_ok Tryd.func3 (by kernel_rfl) (by kernel_rfl) (fun _ => f3_ev x0a x0b x0c x0d n1a n1b n1c n1d n1e n1f n1g x2a x2b x2c x2d x2e x2f x2g a3 a4 ⟨u32_of m1b, u32_of m1c, u32_of m1d, u32_of m1e, u32_of m1f, u32_of m1g⟩ o2c o2e _ rfl)
  refine (bool_calls hspec (fun p h => by cases h) W _ rfl (fun j c hc => ?_) (gok_of_laid hL)).mono fun e W' ⟨he, hw⟩ => ?_
  · match j with
    | 0 => simp only [List.getElem?_cons_zero, Option.some.injEq] at hc; subst hc; exact MIs.arep (is := [.bytes x0a, .int .i64 x0b, .int .i64 x0c, .int .i64 x0d]) (vs := [u0a, u0b, u0c, u0d]) ⟨r0a, r0b, r0c, r0d, trivial⟩
    | 1 => simp only [List.getElem?_cons_succ, List.getElem?_cons_zero, Option.some.injEq] at hc; subst hc; exact K1.arep
    | 2 => simp only [List.getElem?_cons_succ, List.getElem?_cons_zero, Option.some.injEq] at hc; subst hc; exact MIs.arep (is := [.ints .i64 x2a, .bytes x2b, .sl 3 x2c, .bytes x2d, .sl 2 x2e, .bools x2f, .bools x2g]) (vs := [u2a, u2b, u2c, u2d, u2e, u2f, u2g]) ⟨r2a, r2b, r2c, r2d, r2e, r2f, r2g, trivial⟩
    | 3 => simp only [List.getElem?_cons_succ, List.getElem?_cons_zero, Option.some.injEq] at hc; subst hc; exact .imm .bool
    | 4 => simp only [List.getElem?_cons_succ, List.getElem?_cons_zero, Option.some.injEq] at hc; subst hc; exact .imm (.int m4)
    | j + 5 => simp at hc
  subst he
  exact ⟨_, rfl, row_post hW' rfl (by kernel_rfl) (by kernel_rfl) rfl rfl Tryd.underlying4 hw⟩
theorem f3_row : Rows.BlockMatchesReferenceSaid :=
  OpenClaim.holds_of_wide 3 Tryd.f3 rfl rfl rfl rfl rfl rfl rfl ⟨rfl, rfl, rfl, rfl, rfl⟩ rfl rfl rfl rfl rfl (by kernel_rfl) Tryd.func3 (by kernel_rfl)
    (of_decide_eq_true (by kernel_rfl)) (by unfold Func.isWrapper; first | (rw [if_pos (by decide +kernel)]; kernel_rfl) | (rw [if_neg (by decide +kernel)]; exact ⟨rfl, rfl⟩))
    (fun os started H enc _ => f3_lifted os started H enc)
theorem f3_holds : Rows.BlockMatchesReferenceCardSaid :=
  Claim7.holds_tied_plain_at .later [] [.data, .handle] true Rows.blockMatchesReferenceCard.stood.harness true
    f3_row (fun _ h => by cases h) (by kernel_rfl) (fun _ h => by cases h) blockMatchesReference_row_tie rfl ⟨rfl, rfl⟩ (by kernel_rfl) rfl
    (fun f fn hf hfn => by
      obtain rfl : f = 3 := Option.some.inj ((show Tryd.prog.funcNamed "zoneinfo/zoneinfolaw19.BlockMatchesReference" = some 3 by kernel_rfl).symm.trans hf) |>.symm
      obtain rfl : fn = Tryd.f3 := (Option.some.inj (Tryd.func3.symm.trans hfn)).symm
      exact ⟨by kernel_rfl, fun j t ht => by
        rw [Tryd.params3] at ht
        have hm : t ∈ [25, 28, 34, 4, 3] := by simpa using Array.mem_of_getElem? ht
        have hall : ([25, 28, 34, 4, 3].all fun u => !Tryd.prog.wantsStandIn u) = true := by kernel_rfl
        exact (show Tryd.prog.wantsStandIn t = false by simpa using List.all_eq_true.1 hall t hm)⟩)
    (by kernel_rfl)
end Go.Proofs.YtmmioohcgdnpdaaDoor
